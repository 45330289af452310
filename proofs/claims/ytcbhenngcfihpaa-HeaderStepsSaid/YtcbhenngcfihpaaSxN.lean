/- What the functions of the layer answer, by value, and the plain laws behind the statement. Conditions: none beyond those that each theorem names. -/
import Derived.Test.YtcbhenngcfihpaaSxM
set_option linter.unusedVariables false
set_option linter.unusedSimpArgs false
/- Layer 6: Differ. -/
namespace Go.Sx.Mk
open Go.Proofs Go.RowKit
noncomputable def Gdf (y : Int → Int → Int) (w lz : Int → Int) : FuncId → Option (List SV → GT SV)
  | 32 => some (sgH fun s d p q t => .leaf (.agg [.int .u8 (y s 16777216), .int .u8 (y s 65536), .int .u8 (y s 256), .int .u8 (w s), .int .u8 (y d 16777216), .int .u8 (y d 65536), .int .u8 (y d 256), .int .u8 (w d), .int .u8 (y p 256), .int .u8 (w p), .int .u8 (y q 256), .int .u8 (w q), .int .u8 t]))
  | 38 => some (sgY fun a => .when (decide (0 ≤ a ∧ a < 256)) (.leaf (.int .i64 (lz a))))
  | _ => none
theorem Gdf_ok : ∀ g s, Gdf byS (IntKind.wrap .u8) lz8 g = some s → SummT Try.prog g s := fun g s h => by
  unfold Gdf at h
  split at h
  · cases h; exact S_packed
  · cases h; exact S_lz8
  · cases h
noncomputable def T_dif (y : Int → Int → Int) (w lz : Int → Int) (s d p q t s' d' p' q' t' : Int) : GT SV := GT.br
    (y s (16777216 : Int) == y s' (16777216 : Int) &&
      (y s (65536 : Int) == y s' (65536 : Int) &&
        (y s (256 : Int) == y s' (256 : Int) &&
          (w s == w s' &&
            (y d (16777216 : Int) == y d' (16777216 : Int) &&
              (y d (65536 : Int) == y d' (65536 : Int) &&
                (y d (256 : Int) == y d' (256 : Int) &&
                  (w d == w d' &&
                    (y p (256 : Int) == y p' (256 : Int) &&
                      (w p == w p' &&
                        (y q (256 : Int) == y q' (256 : Int) && (w q == w q' && (t == t' && true)))))))))))))
    (GT.leaf (SV.int IntKind.i64 (-1 : Int)))
    (GT.br (bits BinOp.xor IntKind.u8 (y s (16777216 : Int)) (y s' (16777216 : Int)) != (0 : Int))
      (GT.br
        (decide
          ((0 : Int) ≤ bits BinOp.xor IntKind.u8 (y s (16777216 : Int)) (y s' (16777216 : Int)) ∧
            bits BinOp.xor IntKind.u8 (y s (16777216 : Int)) (y s' (16777216 : Int)) < (256 : Int)))
        (GT.leaf
          (SV.int IntKind.i64
            (IntKind.i64.wrap
              ((0 : Int) + lz (bits BinOp.xor IntKind.u8 (y s (16777216 : Int)) (y s' (16777216 : Int)))))))
        GT.stop)
      (GT.br (bits BinOp.xor IntKind.u8 (y s (65536 : Int)) (y s' (65536 : Int)) != (0 : Int))
        (GT.br
          (decide
            ((0 : Int) ≤ bits BinOp.xor IntKind.u8 (y s (65536 : Int)) (y s' (65536 : Int)) ∧
              bits BinOp.xor IntKind.u8 (y s (65536 : Int)) (y s' (65536 : Int)) < (256 : Int)))
          (GT.leaf
            (SV.int IntKind.i64
              (IntKind.i64.wrap ((8 : Int) + lz (bits BinOp.xor IntKind.u8 (y s (65536 : Int)) (y s' (65536 : Int)))))))
          GT.stop)
        (GT.br (bits BinOp.xor IntKind.u8 (y s (256 : Int)) (y s' (256 : Int)) != (0 : Int))
          (GT.br
            (decide
              ((0 : Int) ≤ bits BinOp.xor IntKind.u8 (y s (256 : Int)) (y s' (256 : Int)) ∧
                bits BinOp.xor IntKind.u8 (y s (256 : Int)) (y s' (256 : Int)) < (256 : Int)))
            (GT.leaf
              (SV.int IntKind.i64
                (IntKind.i64.wrap ((16 : Int) + lz (bits BinOp.xor IntKind.u8 (y s (256 : Int)) (y s' (256 : Int)))))))
            GT.stop)
          (GT.br (bits BinOp.xor IntKind.u8 (w s) (w s') != (0 : Int))
            (GT.br
              (decide
                ((0 : Int) ≤ bits BinOp.xor IntKind.u8 (w s) (w s') ∧
                  bits BinOp.xor IntKind.u8 (w s) (w s') < (256 : Int)))
              (GT.leaf
                (SV.int IntKind.i64 (IntKind.i64.wrap ((24 : Int) + lz (bits BinOp.xor IntKind.u8 (w s) (w s'))))))
              GT.stop)
            (GT.br (bits BinOp.xor IntKind.u8 (y d (16777216 : Int)) (y d' (16777216 : Int)) != (0 : Int))
              (GT.br
                (decide
                  ((0 : Int) ≤ bits BinOp.xor IntKind.u8 (y d (16777216 : Int)) (y d' (16777216 : Int)) ∧
                    bits BinOp.xor IntKind.u8 (y d (16777216 : Int)) (y d' (16777216 : Int)) < (256 : Int)))
                (GT.leaf
                  (SV.int IntKind.i64
                    (IntKind.i64.wrap
                      ((32 : Int) + lz (bits BinOp.xor IntKind.u8 (y d (16777216 : Int)) (y d' (16777216 : Int)))))))
                GT.stop)
              (GT.br (bits BinOp.xor IntKind.u8 (y d (65536 : Int)) (y d' (65536 : Int)) != (0 : Int))
                (GT.br
                  (decide
                    ((0 : Int) ≤ bits BinOp.xor IntKind.u8 (y d (65536 : Int)) (y d' (65536 : Int)) ∧
                      bits BinOp.xor IntKind.u8 (y d (65536 : Int)) (y d' (65536 : Int)) < (256 : Int)))
                  (GT.leaf
                    (SV.int IntKind.i64
                      (IntKind.i64.wrap
                        ((40 : Int) + lz (bits BinOp.xor IntKind.u8 (y d (65536 : Int)) (y d' (65536 : Int)))))))
                  GT.stop)
                (GT.br (bits BinOp.xor IntKind.u8 (y d (256 : Int)) (y d' (256 : Int)) != (0 : Int))
                  (GT.br
                    (decide
                      ((0 : Int) ≤ bits BinOp.xor IntKind.u8 (y d (256 : Int)) (y d' (256 : Int)) ∧
                        bits BinOp.xor IntKind.u8 (y d (256 : Int)) (y d' (256 : Int)) < (256 : Int)))
                    (GT.leaf
                      (SV.int IntKind.i64
                        (IntKind.i64.wrap
                          ((48 : Int) + lz (bits BinOp.xor IntKind.u8 (y d (256 : Int)) (y d' (256 : Int)))))))
                    GT.stop)
                  (GT.br (bits BinOp.xor IntKind.u8 (w d) (w d') != (0 : Int))
                    (GT.br
                      (decide
                        ((0 : Int) ≤ bits BinOp.xor IntKind.u8 (w d) (w d') ∧
                          bits BinOp.xor IntKind.u8 (w d) (w d') < (256 : Int)))
                      (GT.leaf
                        (SV.int IntKind.i64
                          (IntKind.i64.wrap ((56 : Int) + lz (bits BinOp.xor IntKind.u8 (w d) (w d'))))))
                      GT.stop)
                    (GT.br (bits BinOp.xor IntKind.u8 (y p (256 : Int)) (y p' (256 : Int)) != (0 : Int))
                      (GT.br
                        (decide
                          ((0 : Int) ≤ bits BinOp.xor IntKind.u8 (y p (256 : Int)) (y p' (256 : Int)) ∧
                            bits BinOp.xor IntKind.u8 (y p (256 : Int)) (y p' (256 : Int)) < (256 : Int)))
                        (GT.leaf
                          (SV.int IntKind.i64
                            (IntKind.i64.wrap
                              ((64 : Int) + lz (bits BinOp.xor IntKind.u8 (y p (256 : Int)) (y p' (256 : Int)))))))
                        GT.stop)
                      (GT.br (bits BinOp.xor IntKind.u8 (w p) (w p') != (0 : Int))
                        (GT.br
                          (decide
                            ((0 : Int) ≤ bits BinOp.xor IntKind.u8 (w p) (w p') ∧
                              bits BinOp.xor IntKind.u8 (w p) (w p') < (256 : Int)))
                          (GT.leaf
                            (SV.int IntKind.i64
                              (IntKind.i64.wrap ((72 : Int) + lz (bits BinOp.xor IntKind.u8 (w p) (w p'))))))
                          GT.stop)
                        (GT.br (bits BinOp.xor IntKind.u8 (y q (256 : Int)) (y q' (256 : Int)) != (0 : Int))
                          (GT.br
                            (decide
                              ((0 : Int) ≤ bits BinOp.xor IntKind.u8 (y q (256 : Int)) (y q' (256 : Int)) ∧
                                bits BinOp.xor IntKind.u8 (y q (256 : Int)) (y q' (256 : Int)) < (256 : Int)))
                            (GT.leaf
                              (SV.int IntKind.i64
                                (IntKind.i64.wrap
                                  ((80 : Int) + lz (bits BinOp.xor IntKind.u8 (y q (256 : Int)) (y q' (256 : Int)))))))
                            GT.stop)
                          (GT.br (bits BinOp.xor IntKind.u8 (w q) (w q') != (0 : Int))
                            (GT.br
                              (decide
                                ((0 : Int) ≤ bits BinOp.xor IntKind.u8 (w q) (w q') ∧
                                  bits BinOp.xor IntKind.u8 (w q) (w q') < (256 : Int)))
                              (GT.leaf
                                (SV.int IntKind.i64
                                  (IntKind.i64.wrap ((88 : Int) + lz (bits BinOp.xor IntKind.u8 (w q) (w q'))))))
                              GT.stop)
                            (GT.br (bits BinOp.xor IntKind.u8 t t' != (0 : Int))
                              (GT.br
                                (decide
                                  ((0 : Int) ≤ bits BinOp.xor IntKind.u8 t t' ∧
                                    bits BinOp.xor IntKind.u8 t t' < (256 : Int)))
                                (GT.leaf
                                  (SV.int IntKind.i64
                                    (IntKind.i64.wrap ((96 : Int) + lz (bits BinOp.xor IntKind.u8 t t')))))
                                GT.stop)
                              (GT.leaf (SV.int IntKind.i64 (-1 : Int))))))))))))))))
theorem e_dif (y : Int → Int → Int) (w lz : Int → Int) (s d p q t s' d' p' q' t' : Int) : ev (Gdf y w lz) 2 19 [hx s d p q t, hx s' d' p' q' t'] = (T_dif y w lz s d p q t s' d' p' q' t').opt := by kernel_rfl
noncomputable def Grd (y : Int → Int → Int) : FuncId → Option (List SV → GT SV)
  | 15 => some (sgH fun s d p q t => .leaf (.rows [.i .u8] [[y s 16777216], [y s 65536], [y s 256], [y s 1], [y d 16777216], [y d 65536], [y d 256], [y d 1], [y p 256], [y p 1], [y q 256], [y q 1], [y t 1]]))
  | _ => none
theorem Grd_ok : ∀ g s, Grd yS g = some s → SummT Try.prog g s := fun g s h => by
  unfold Grd at h
  split at h
  · cases h; exact S_rpack
  · cases h
def rdG : List (Int × Int) → Int → GT SV
  | [], _ => .leaf (.int .i64 (-1))
  | x :: l, n => rdB x.1 x.2 n (rdG l (n + 8))
theorem e_rdif (y : Int → Int → Int) (s d p q t s' d' p' q' t' : Int) : evFn Try.prog (Grd y) ents [15] nolp 3 20 [hx s d p q t, hx s' d' p' q' t'] = (rdG [(y s 16777216, y s' 16777216), (y s 65536, y s' 65536), (y s 256, y s' 256), (y s 1, y s' 1), (y d 16777216, y d' 16777216), (y d 65536, y d' 65536), (y d 256, y d' 256), (y d 1, y d' 1), (y p 256, y p' 256), (y p 1, y p' 1), (y q 256, y q' 256), (y q 1, y q' 1), (y t 1, y t' 1)] 0).opt := by kernel_rfl
end Go.Sx.Mk


/- Layer 6: Differ, by value. -/
namespace Go.Sx.Mk
open Go.Proofs Go.RowKit
def B2 (x : Int × Int) : Prop := U8 x.1 ∧ U8 x.2
noncomputable def dfV : List (Int × Int) → Int → Int
  | [], _ => -1
  | x :: l, n => sure (x.1 == x.2) (dfV l (n + 8)) (n + lz8 (Go.bits .xor .u8 x.1 x.2))
theorem rdG_eq : ∀ (l : List (Int × Int)) (n : Int), (∀ x ∈ l, B2 x) → (rdG l n).opt = some (.int .i64 (dfV l n))
  | [], _, _ => rfl
  | (a, b) :: l, n, h => by
    obtain ⟨⟨ha0, ha1⟩, hb0, hb1⟩ := h (a, b) (by simp)
    simp only at ha0 ha1 hb0 hb1
    obtain ⟨a, rfl⟩ := Int.eq_ofNat_of_zero_le ha0
    obtain ⟨b, rfl⟩ := Int.eq_ofNat_of_zero_le hb0
    have ih := rdG_eq l (n + 8) (fun x hx => h x (by simp [hx]))
    show (rdB a b n (rdG l (n + 8))).opt = _
    rw [rdB_eq (by omega) (by omega), ih]
    simp only [dfV]
    by_cases hab : a = b
    · subst hab
      rw [if_pos rfl, BEq.rfl]; rfl
    · rw [if_neg hab, show ((a : Int) == (b : Int)) = false by rw [beq_eq_false_iff_ne]; omega]; rfl
def prs (s d p q t s' d' p' q' t' : Int) : List (Int × Int) := [(yS s 16777216, yS s' 16777216), (yS s 65536, yS s' 65536), (yS s 256, yS s' 256), (yS s 1, yS s' 1), (yS d 16777216, yS d' 16777216), (yS d 65536, yS d' 65536), (yS d 256, yS d' 256), (yS d 1, yS d' 1), (yS p 256, yS p' 256), (yS p 1, yS p' 1), (yS q 256, yS q' 256), (yS q 1, yS q' 1), (yS t 1, yS t' 1)]
theorem yS_U8 (x k : Int) : U8 (yS x k) := by unfold yS U8; rw [w8]; omega
theorem prs_B2 (s d p q t s' d' p' q' t' : Int) : ∀ x ∈ prs s d p q t s' d' p' q' t', B2 x := by
  intro x hx
  simp only [prs, List.mem_cons, List.not_mem_nil, or_false] at hx
  rcases hx with rfl | rfl | rfl | rfl | rfl | rfl | rfl | rfl | rfl | rfl | rfl | rfl | rfl <;> exact ⟨yS_U8 _ _, yS_U8 _ _⟩
noncomputable def dif10 (s d p q t s' d' p' q' t' : Int) : Int := dfV (prs s d p q t s' d' p' q' t') 0
theorem S_rdif : SummT Try.prog 20 (sgHH fun s d p q t s' d' p' q' t' => .leaf (.int .i64 (dif10 s d p q t s' d' p' q' t'))) := sgHH.summ (evFn_summ (facts Grd_ok) 3 20) (fun s d p q t s' d' p' q' t' sv h => ((e_rdif yS s d p q t s' d' p' q' t').trans (rdG_eq _ 0 (prs_B2 s d p q t s' d' p' q' t'))).trans h)
noncomputable def dG : List (Int × Int) → Int → GT SV
  | [], _ => .leaf (.int .i64 (-1))
  | x :: l, n => .br (Go.bits .xor .u8 x.1 x.2 != 0) (.br (decide (0 ≤ Go.bits .xor .u8 x.1 x.2 ∧ Go.bits .xor .u8 x.1 x.2 < 256)) (.leaf (.int .i64 (IntKind.wrap .i64 (n + lz8 (Go.bits .xor .u8 x.1 x.2))))) .stop) (dG l (n + 8))
def allEq : List (Int × Int) → Bool
  | [] => true
  | x :: l => x.1 == x.2 && allEq l
theorem fdX_le (x : Nat) : 0 ≤ fdX x ∧ fdX x < 8 := by
  unfold fdX
  cases x.testBit 7 <;> cases x.testBit 6 <;> cases x.testBit 5 <;> cases x.testBit 4 <;> cases x.testBit 3 <;> cases x.testBit 2 <;> cases x.testBit 1 <;> exact ⟨by decide, by decide⟩
theorem xor_ne {a b : Nat} (h : a ≠ b) : a ^^^ b ≠ 0 := fun h' => h (Nat.eq_of_testBit_eq fun i => by
  have h2 := congrArg (fun x => x.testBit i) h'
  simp only [Nat.testBit_xor, Nat.zero_testBit] at h2
  cases ha1 : a.testBit i <;> cases hb1 : b.testBit i <;> rw [ha1, hb1] at h2 <;> first | rfl | cases h2)
theorem dG_eq : ∀ (l : List (Int × Int)) (n : Int), (∀ x ∈ l, B2 x) → 0 ≤ n → n + l.length * 8 ≤ 1000 → (dG l n).opt = some (.int .i64 (dfV l n))
  | [], _, _, _, _ => rfl
  | (a, b) :: l, n, h, hn, hn2 => by
    obtain ⟨⟨ha0, ha1⟩, hb0, hb1⟩ := h (a, b) (by simp)
    simp only at ha0 ha1 hb0 hb1
    obtain ⟨a, rfl⟩ := Int.eq_ofNat_of_zero_le ha0
    obtain ⟨b, rfl⟩ := Int.eq_ofNat_of_zero_le hb0
    simp only [List.length_cons] at hn2
    have ih := dG_eq l (n + 8) (fun x hx => h x (by simp [hx])) (by omega) (by omega)
    have hx : a ^^^ b < 2 ^ 8 := Nat.xor_lt_two_pow (n := 8) (by omega) (by omega)
    simp only [dG, dfV]
    rw [bits_xor (by omega) (by omega)]
    by_cases hab : a = b
    · subst hab
      rw [Nat.xor_self, BEq.rfl]
      exact ih
    · have h0 := xor_ne hab
      have e1 : (((a ^^^ b : Nat) : Int) != 0) = true := by rw [bne_iff_ne]; omega
      have e2 : decide ((0 : Int) ≤ ((a ^^^ b : Nat) : Int) ∧ ((a ^^^ b : Nat) : Int) < 256) = true := decide_eq_true ⟨Int.natCast_nonneg _, by omega⟩
      have hz := lz_eq h0 (by omega)
      have hf := fdX_le (a ^^^ b)
      rw [e1, e2, hz, wrap_i64 (by omega) (by omega), show ((a : Int) == (b : Int)) = false by rw [beq_eq_false_iff_ne]; omega]
      rfl
theorem dfV_all : ∀ (l : List (Int × Int)) (n : Int), allEq l = true → dfV l n = -1
  | [], _, _ => rfl
  | x :: l, n, h => by
    unfold allEq at h
    rw [Bool.and_eq_true] at h
    unfold dfV
    rw [h.1]
    exact dfV_all l (n + 8) h.2
def prsH (s d p q t s' d' p' q' t' : Int) : List (Int × Int) := [(byS s 16777216, byS s' 16777216), (byS s 65536, byS s' 65536), (byS s 256, byS s' 256), (IntKind.wrap .u8 s, IntKind.wrap .u8 s'), (byS d 16777216, byS d' 16777216), (byS d 65536, byS d' 65536), (byS d 256, byS d' 256), (IntKind.wrap .u8 d, IntKind.wrap .u8 d'), (byS p 256, byS p' 256), (IntKind.wrap .u8 p, IntKind.wrap .u8 p'), (byS q 256, byS q' 256), (IntKind.wrap .u8 q, IntKind.wrap .u8 q'), (t, t')]
theorem byS_eq {x : Int} (h0 : 0 ≤ x) (h1 : x < 4294967296) (k : Int) : byS x k = yS x k := by unfold byS yS; rw [wrap_u64 h0 (by omega)]
theorem by1_eq {x : Int} (h0 : 0 ≤ x) (h1 : x < 4294967296) : IntKind.wrap .u8 x = yS x 1 := by unfold yS; rw [wrap_u64 h0 (by omega), Int.fdiv_one]
theorem prsH_eq {s d p q t s' d' p' q' t' : Int} (hs : U32 s) (hd : U32 d) (hp : U16 p) (hq : U16 q) (ht : U8 t) (hs' : U32 s') (hd' : U32 d') (hp' : U16 p') (hq' : U16 q') (ht' : U8 t') : prsH s d p q t s' d' p' q' t' = prs s d p q t s' d' p' q' t' := by
  unfold prsH prs
  unfold U16 at hp hq hp' hq'
  rw [bytes1 ht, bytes1 ht', by1_eq hs.1 hs.2, by1_eq hs'.1 hs'.2, by1_eq hd.1 hd.2, by1_eq hd'.1 hd'.2, by1_eq hp.1 (by omega), by1_eq hp'.1 (by omega), by1_eq hq.1 (by omega), by1_eq hq'.1 (by omega)]
  simp only [byS_eq hs.1 hs.2, byS_eq hs'.1 hs'.2, byS_eq hd.1 hd.2, byS_eq hd'.1 hd'.2, byS_eq hp.1 (show p < 4294967296 by omega), byS_eq hp'.1 (show p' < 4294967296 by omega), byS_eq hq.1 (show q < 4294967296 by omega), byS_eq hq'.1 (show q' < 4294967296 by omega)]
theorem dif_eq {s d p q t s' d' p' q' t' : Int} (hs : U32 s) (hd : U32 d) (hp : U16 p) (hq : U16 q) (ht : U8 t) (hs' : U32 s') (hd' : U32 d') (hp' : U16 p') (hq' : U16 q') (ht' : U8 t') : (T_dif byS (IntKind.wrap .u8) lz8 s d p q t s' d' p' q' t').opt = some (.int .i64 (dif10 s d p q t s' d' p' q' t')) := by
  refine Eq.trans (show _ = (GT.br (allEq (prsH s d p q t s' d' p' q' t')) (.leaf (.int .i64 (-1))) (dG (prsH s d p q t s' d' p' q' t') 0)).opt by kernel_rfl) ?_
  unfold dif10
  rw [prsH_eq hs hd hp hq ht hs' hd' hp' hq' ht']
  cases h : allEq (prs s d p q t s' d' p' q' t') with
  | true => rw [dfV_all _ 0 h]; rfl
  | false => exact dG_eq _ 0 (prs_B2 s d p q t s' d' p' q' t') (by omega) (by show (0 : Int) + ((13 : Nat) : Int) * 8 ≤ 1000; omega)
theorem S_dif : SummT Try.prog 19 (sgHH fun s d p q t s' d' p' q' t' => .when (gdHH s d p q t s' d' p' q' t') (.leaf (.int .i64 (dif10 s d p q t s' d' p' q' t')))) := sgHH.summ (evFn_summ (facts Gdf_ok) 2 19) (fun s d p q t s' d' p' q' t' sv h => by
  obtain ⟨h1, h2⟩ := GT.opt_when h
  unfold gdHH at h1
  rw [Bool.and_eq_true] at h1
  obtain ⟨b1, b2, b3, b4, b5⟩ := of_decide_eq_true h1.1
  obtain ⟨c1, c2, c3, c4, c5⟩ := of_decide_eq_true h1.2
  exact ((e_dif byS (IntKind.wrap .u8) lz8 s d p q t s' d' p' q' t').trans (dif_eq b1 b2 b3 b4 b5 c1 c2 c3 c4 c5)).trans h2)
end Go.Sx.Mk


/- Layer 6: HeaderPairs. -/
namespace Go.Sx.Mk
open Go.Proofs Go.RowKit
noncomputable def Ghp (g : Int → Int → Int → Int → Int → Int → Int → Int → Int → Int → Bool) (cm df : Int → Int → Int → Int → Int → Int → Int → Int → Int → Int → Int) : FuncId → Option (List SV → GT SV)
  | 11 => some (sg0 (.leaf (.bool true)))
  | 17 => some (sgHH fun s d p q t s' d' p' q' t' => .leaf (.int .i64 (cm s d p q t s' d' p' q' t')))
  | 18 => some (sgHH fun s d p q t s' d' p' q' t' => .when (g s d p q t s' d' p' q' t') (.leaf (.int .i64 (cm s d p q t s' d' p' q' t'))))
  | 19 => some (sgHH fun s d p q t s' d' p' q' t' => .when (g s d p q t s' d' p' q' t') (.leaf (.int .i64 (df s d p q t s' d' p' q' t'))))
  | 20 => some (sgHH fun s d p q t s' d' p' q' t' => .leaf (.int .i64 (df s d p q t s' d' p' q' t')))
  | _ => none
theorem Ghp_ok : ∀ g s, Ghp gdHH cm10 dif10 g = some s → SummT Try.prog g s := fun g s h => by
  unfold Ghp at h
  split at h
  · cases h; exact S_awake
  · cases h; exact S_cmp
  · cases h; exact S_rcmp
  · cases h; exact S_dif
  · cases h; exact S_rdif
  · cases h
noncomputable def T_lhp (g : Int → Int → Int → Int → Int → Int → Int → Int → Int → Int → Bool) (cm df : Int → Int → Int → Int → Int → Int → Int → Int → Int → Int → Int) (s d p q t s' d' p' q' t' : Int) : GT SV := GT.br (g s d p q t s' d' p' q' t')
    (GT.br (cm s d p q t s' d' p' q' t' == cm s d p q t s' d' p' q' t')
      (GT.br (g s' d' p' q' t' s d p q t)
        (GT.br (cm s' d' p' q' t' s d p q t == cm s' d' p' q' t' s d p q t)
          (GT.br (cm s d p q t s d p q t == (0 : Int))
            (GT.br (g s d p q t s' d' p' q' t')
              (GT.br (df s d p q t s' d' p' q' t' == df s d p q t s' d' p' q' t')
                (GT.br (g s' d' p' q' t' s d p q t)
                  (GT.br (df s' d' p' q' t' s d p q t == df s' d' p' q' t' s d p q t)
                    (GT.br (g s d p q t s d p q t)
                      (GT.br (df s d p q t s d p q t == (-1 : Int)) (GT.leaf (SV.bool true)) (GT.leaf (SV.bool false)))
                      GT.stop)
                    (GT.leaf (SV.bool false)))
                  GT.stop)
                (GT.leaf (SV.bool false)))
              GT.stop)
            (GT.br (g s d p q t s' d' p' q' t')
              (GT.br (df s d p q t s' d' p' q' t' == df s d p q t s' d' p' q' t')
                (GT.br (g s' d' p' q' t' s d p q t)
                  (GT.br (df s' d' p' q' t' s d p q t == df s' d' p' q' t' s d p q t)
                    (GT.br (g s d p q t s d p q t)
                      (GT.br (df s d p q t s d p q t == (-1 : Int)) (GT.leaf (SV.bool false)) (GT.leaf (SV.bool false)))
                      GT.stop)
                    (GT.leaf (SV.bool false)))
                  GT.stop)
                (GT.leaf (SV.bool false)))
              GT.stop))
          (GT.br (g s d p q t s' d' p' q' t')
            (GT.br (df s d p q t s' d' p' q' t' == df s d p q t s' d' p' q' t')
              (GT.br (g s' d' p' q' t' s d p q t)
                (GT.br (df s' d' p' q' t' s d p q t == df s' d' p' q' t' s d p q t)
                  (GT.br (g s d p q t s d p q t)
                    (GT.br (df s d p q t s d p q t == (-1 : Int)) (GT.leaf (SV.bool false)) (GT.leaf (SV.bool false)))
                    GT.stop)
                  (GT.leaf (SV.bool false)))
                GT.stop)
              (GT.leaf (SV.bool false)))
            GT.stop))
        GT.stop)
      (GT.br (g s d p q t s' d' p' q' t')
        (GT.br (df s d p q t s' d' p' q' t' == df s d p q t s' d' p' q' t')
          (GT.br (g s' d' p' q' t' s d p q t)
            (GT.br (df s' d' p' q' t' s d p q t == df s' d' p' q' t' s d p q t)
              (GT.br (g s d p q t s d p q t)
                (GT.br (df s d p q t s d p q t == (-1 : Int)) (GT.leaf (SV.bool false)) (GT.leaf (SV.bool false)))
                GT.stop)
              (GT.leaf (SV.bool false)))
            GT.stop)
          (GT.leaf (SV.bool false)))
        GT.stop))
    GT.stop
theorem e_lhp (g : Int → Int → Int → Int → Int → Int → Int → Int → Int → Int → Bool) (cm df : Int → Int → Int → Int → Int → Int → Int → Int → Int → Int → Int) (s d p q t s' d' p' q' t' : Int) : ev (Ghp g cm df) 1 4 [hx s d p q t, hx s' d' p' q' t'] = (T_lhp g cm df s d p q t s' d' p' q' t').opt := by kernel_rfl
theorem cm10_self (s d p q t : Int) : cm10 s d p q t s d p q t = 0 := by
  have h : ∀ x, cmpV x x = 0 := fun x => by unfold cmpV; rw [decide_eq_false (Int.lt_irrefl x)]; rfl
  unfold cm10
  rw [h, h, h, h, h]
  rfl
theorem dif10_self (s d p q t : Int) : dif10 s d p q t s d p q t = -1 := dfV_all _ 0 (by unfold prs; simp only [allEq, BEq.rfl, Bool.and_self])
theorem hpairs {s d p q t s' d' p' q' t' : Int} (hs : U32 s) (hd : U32 d) (hp : U16 p) (hq : U16 q) (ht : U8 t) (hs' : U32 s') (hd' : U32 d') (hp' : U16 p') (hq' : U16 q') (ht' : U8 t') : (T_lhp gdHH cm10 dif10 s d p q t s' d' p' q' t').opt = some (.bool true) := by
  have a1 : gdH s d p q t = true := decide_eq_true ⟨hs, hd, hp, hq, ht⟩
  have a2 : gdH s' d' p' q' t' = true := decide_eq_true ⟨hs', hd', hp', hq', ht'⟩
  have g1 : gdHH s d p q t s' d' p' q' t' = true := by unfold gdHH; rw [a1, a2]; rfl
  have g2 : gdHH s' d' p' q' t' s d p q t = true := by unfold gdHH; rw [a1, a2]; rfl
  have g3 : gdHH s d p q t s d p q t = true := by unfold gdHH; rw [a1]; rfl
  unfold T_lhp
  rw [g1, g2, g3, cm10_self, dif10_self]
  simp only [BEq.rfl]
  rfl
noncomputable def evHP (svs : List SV) : Option SV := ev (Ghp gdHH cm10 dif10) 1 4 svs
theorem LHP.summ : Summ Try.prog 4 evHP := evFn_summ (facts Ghp_ok) 1 4
theorem LHP.ok (s d p q t s' d' p' q' t' : Int) (hs : U32 s) (hd : U32 d) (hp : U16 p) (hq : U16 q) (ht : U8 t) (hs' : U32 s') (hd' : U32 d') (hp' : U16 p') (hq' : U16 q') (ht' : U8 t') : evHP [hx s d p q t, hx s' d' p' q' t'] = some (.bool true) := (e_lhp gdHH cm10 dif10 s d p q t s' d' p' q' t').trans (hpairs hs hd hp hq ht hs' hd' hp' hq' ht')
end Go.Sx.Mk


/- Layer 6: same. -/
namespace Go.Sx.Mk
open Go.Proofs Go.RowKit
def sgBB (f : (List Row) → (List Row) → GT SV) : List SV → GT SV
  | [.rows [.i .u8] l, .rows [.i .u8] m] => f l m
  | _ => .stop
theorem sgBB.summ {P : Program} {g : FuncId} {s0 : List SV → Option SV} (h : Summ P g s0) {f : (List Row) → (List Row) → GT SV} (hf : ∀ (l : List Row) (m : List Row) sv, (f l m).opt = some sv → s0 [.rows [.i .u8] l, .rows [.i .u8] m] = some sv) : SummT P g (sgBB f) := h.weaken (by
  intro svs sv h'
  unfold sgBB at h'
  split at h'
  · exact hf _ _ sv h'
  · cases h')
noncomputable def bodysm : Code := bodyOf 16 [0,1,0,1,1]
def livesm : List (Nat × Option (List CK)) := [(0, none), (1, none), (5, none)]
def outsm : List (Nat × Option (List CK)) := [(4, none)]
def mksm (l : List Row) (m : List Row) (n : Nat) (k : Nat) (i : Int) : St := ⟨sel 26 [0, 1, 5] [.vs 0 0 n, .vs 1 0 k, .int .i64 i], [.vec false [.i .u8] l none, .vec false [.i .u8] m none]⟩
def finsm (s : SV) : St := ⟨sel 26 [4] [s], []⟩
structure Xsm where
  l : List Row
  m : List Row
  n : Nat
  k : Nat
  i : Int
def Xsm.st (x : Xsm) : St := mksm x.l x.m x.n x.k x.i
def picksm : List SV → List Blk → Option Xsm
  | [.vs 0 0 n, .vs 1 0 k, .int .i64 i], [.vec false [.i .u8] l none, .vec false [.i .u8] m none] => some ⟨l, m, n, k, i⟩
  | _, _ => none
theorem picksm_ok : ∀ vals mem x, picksm vals mem = some x → x.st = ⟨sel 26 [0, 1, 5] vals, mem⟩ := by
  intro vals mem x h
  unfold picksm at h
  split at h
  · cases h; rfl
  · cases h
theorem step_sm (again : St → Option (E × St)) (l m : List Row) (n k : Nat) (i : Int) : step Try.prog G0 ents [] 1 bodysm livesm outsm again (mksm l m n k i) = sure (decide (i < (↑n : Int)))
    (sure (decide ((0 : Int) ≤ i ∧ i < (↑n : Int)))
      (sure (decide ((0 : Int) ≤ i ∧ i < (↑k : Int)))
        (sure
          (List.getD (l.getD ((0 : Nat) + i.toNat) []) (0 : Nat) (0 : Int) !=
            List.getD (m.getD ((0 : Nat) + i.toNat) []) (0 : Nat) (0 : Int))
          (some (E.ret, finsm (SV.bool false))) (again (mksm l m n k (IntKind.i64.wrap (i + (1 : Int))))))
        none)
      none)
    (some (E.brk (0 : Nat), finsm SV.poison)) := by kernel_rfl
def eq1 (r s : Row) : Bool := !(r.getD 0 0 != s.getD 0 0)
def endsm (b : Bool) : E × St := if b then (.brk 0, finsm .poison) else (.ret, finsm (.bool false))
theorem run_sm : ∀ (rs rr pre prr : List Row), (pre ++ rs).length ≤ maxLen → prr.length = pre.length → rs.length = rr.length →
    loopN (step Try.prog G0 ents [] 1 bodysm livesm outsm) (rs.length + 1) (mksm (pre ++ rs) (prr ++ rr) (pre ++ rs).length (prr ++ rr).length (pre.length : Nat)) = some (endsm (sameF eq1 rs rr))
  | [], rr, pre, prr, _, _, _ => by
    show step _ _ _ _ _ _ _ _ _ _ = _
    rw [step_sm]
    simp [sameF, sure, endsm]
  | x :: rs, [], pre, prr, _, _, h => by simp at h
  | x :: rs, y :: rr, pre, prr, hlen, hp, h => by
    show step _ _ _ _ _ _ _ _ (loopN _ (rs.length + 1)) _ = _
    rw [step_sm]
    have hm : maxLen = 9223372036854775807 := rfl
    have hl : ((pre.length : Nat) : Int) < (((pre ++ x :: rs).length : Nat) : Int) := by simp; omega
    have h1 : (0 : Int) ≤ ((pre.length : Nat) : Int) ∧ ((pre.length : Nat) : Int) < (((pre ++ x :: rs).length : Nat) : Int) := ⟨by omega, hl⟩
    have h2 : (0 : Int) ≤ ((pre.length : Nat) : Int) ∧ ((pre.length : Nat) : Int) < (((prr ++ y :: rr).length : Nat) : Int) := ⟨by omega, by simp [hp]; omega⟩
    have h3 : IntKind.wrap .i64 (((pre.length : Nat) : Int) + 1) = (((pre ++ [x]).length : Nat) : Int) := by rw [wrap_i64 (by omega) (by omega)]; simp
    have h5 : pre ++ x :: rs = (pre ++ [x]) ++ rs := by simp
    have h5' : prr ++ y :: rr = (prr ++ [y]) ++ rr := by simp
    have ih := run_sm rs rr (pre ++ [x]) (prr ++ [y]) (by rw [← h5]; exact hlen) (by simp [hp]) (by simpa using h)
    rw [← h5, ← h5'] at ih
    rw [mid_get, mid_get' prr y rr _ hp.symm, h3]
    simp only [hl, h1, h2, decide_true, and_self, sure, sameF]
    unfold eq1
    cases (x.getD 0 0 != y.getD 0 0) with
    | true => rfl
    | false => exact ih
def csm (x : Xsm) : Bool := x.i == 0
def oksm (l m : List Row) (n k : Nat) : Bool := decide (n = l.length ∧ k = m.length ∧ l.length = m.length)
theorem loopsm : LoopOK Try.prog bodysm (fun st => (sumT 26 [0, 1, 5] picksm (fun x => .when (csm x && oksm x.l x.m x.n x.k) (.br (sameF eq1 x.l x.m) (.leaf (.brk 0, finsm .poison)) (.leaf (.ret, finsm (.bool false))))) st).opt) := by
  refine loop_two (imp := []) (facts G0_ok) 0 1 bodysm (lpOK_none _) livesm outsm 26 [0, 1, 5] picksm Xsm.st (fun x => csm x && oksm x.l x.m x.n x.k) (fun x => sameF eq1 x.l x.m) _ _ picksm_ok ?_
  intro x h1 hlen
  simp only [csm, oksm, Bool.and_eq_true, beq_iff_eq, decide_eq_true_eq] at h1
  obtain ⟨hi, hn, hk, he⟩ := h1
  have h5 := run_sm x.l x.m [] [] (by simpa using hlen 0 false _ x.l none rfl) rfl he
  refine ⟨x.l.length + 1, ?_⟩
  unfold Xsm.st
  rw [hi, hn, hk]
  exact h5
def annsm (ok : List Row → List Row → Nat → Nat → Bool) (sm : List Row → List Row → Bool) : Ann := ⟨livesm, 0, some (sumT 26 [0, 1, 5] picksm (fun x => .when (csm x && ok x.l x.m x.n x.k) (.br (sm x.l x.m) (.leaf (.brk 0, finsm .poison)) (.leaf (.ret, finsm (.bool false))))))⟩
noncomputable def T_sm (ok : List Row → List Row → Nat → Nat → Bool) (sm : List Row → List Row → Bool) (l m : List Row) : GT SV := GT.br ((↑l.length : Int) != (↑m.length : Int)) (GT.leaf (SV.bool false))
    (GT.br ((0 : Int) == (0 : Int) && ok l m l.length m.length)
      (GT.br (sm l m) (GT.leaf (SV.bool true)) (GT.leaf (SV.bool false))) GT.stop)
theorem e_sm (ok : List Row → List Row → Nat → Nat → Bool) (sm : List Row → List Row → Bool) (l m : List Row) : evFn Try.prog G0 ents [] (lpL [(16, [0, 1, 0, 1, 1], annsm ok sm)]) 1 16 [.rows [.i .u8] l, .rows [.i .u8] m] = (T_sm ok sm l m).opt := by kernel_rfl
def smV (l m : List Row) : Bool := !((l.length : Int) != (m.length : Int)) && sameF eq1 l m
theorem S_same : SummT Try.prog 16 (sgBB fun l m => .leaf (.bool (smV l m))) := sgBB.summ (evFn_summ (factsL G0_ok _ (at_one (f0 := 16) (p0 := [0, 1, 0, 1, 1]) (ann := annsm oksm (sameF eq1)) (fun s h => by cases h; exact loopsm))) 1 16) (fun l m sv h => by
  refine (e_sm oksm (sameF eq1) l m).trans ?_
  refine Eq.trans ?_ h
  unfold T_sm smV
  cases he : ((l.length : Int) != (m.length : Int)) with
  | true => rfl
  | false =>
    have h2 : (l.length : Int) = (m.length : Int) := by simpa using he
    have hok : oksm l m l.length m.length = true := decide_eq_true ⟨rfl, rfl, by omega⟩
    rw [hok]
    cases sameF eq1 l m <;> rfl)
end Go.Sx.Mk


/- Layer 6: words of bytes. -/
namespace Go.Sx.Mk
open Go.Proofs Go.RowKit
theorem or_u32 {a b : Nat} (k : Nat) (hb : b < 2 ^ k) (hab : 2 ^ k * a + b < 4294967296) : Go.bits .or .u32 ((2 ^ k * a : Nat) : Int) (b : Int) = ((2 ^ k * a + b : Nat) : Int) := by
  have h := Nat.two_pow_add_eq_or_of_lt hb a
  show IntKind.wrap .u32 (((BitVec.ofInt 32 ((2 ^ k * a : Nat) : Int) ||| BitVec.ofInt 32 (b : Int)).toNat : Nat) : Int) = _
  have e : (BitVec.ofInt 32 ((2 ^ k * a : Nat) : Int) ||| BitVec.ofInt 32 (b : Int)).toNat = 2 ^ k * a ||| b := by
    rw [BitVec.toNat_or, BitVec.ofInt_natCast, BitVec.ofInt_natCast, BitVec.toNat_ofNat, BitVec.toNat_ofNat, Nat.mod_eq_of_lt (by omega), Nat.mod_eq_of_lt (by omega)]
  rw [e, ← h, wrap_u32 (by omega) (by omega)]
theorem or_u16 {a b : Nat} (k : Nat) (hb : b < 2 ^ k) (hab : 2 ^ k * a + b < 65536) : Go.bits .or .u16 ((2 ^ k * a : Nat) : Int) (b : Int) = ((2 ^ k * a + b : Nat) : Int) := by
  have h := Nat.two_pow_add_eq_or_of_lt hb a
  show IntKind.wrap .u16 (((BitVec.ofInt 16 ((2 ^ k * a : Nat) : Int) ||| BitVec.ofInt 16 (b : Int)).toNat : Nat) : Int) = _
  have e : (BitVec.ofInt 16 ((2 ^ k * a : Nat) : Int) ||| BitVec.ofInt 16 (b : Int)).toNat = 2 ^ k * a ||| b := by
    rw [BitVec.toNat_or, BitVec.ofInt_natCast, BitVec.ofInt_natCast, BitVec.toNat_ofNat, BitVec.toNat_ofNat, Nat.mod_eq_of_lt (by omega), Nat.mod_eq_of_lt (by omega)]
  rw [e, ← h, wrap_u16 (by omega) (by omega)]
theorem word_sum {a b c d : Nat} (ha : a < 256) (hb : b < 256) (hc : c < 256) (hd : d < 256) : wordV [[(a : Int)], [(b : Int)], [(c : Int)], [(d : Int)]] = (a : Int) * 16777216 + b * 65536 + c * 256 + d := by
  show Go.bits .or .u32 (Go.bits .or .u32 (Go.bits .or .u32 (IntKind.wrap .u32 (IntKind.wrap .u32 (a : Int) * 16777216)) (IntKind.wrap .u32 (IntKind.wrap .u32 (b : Int) * 65536))) (IntKind.wrap .u32 (IntKind.wrap .u32 (c : Int) * 256))) (IntKind.wrap .u32 (d : Int)) = _
  have w : ∀ n : Nat, n < 4294967296 → IntKind.wrap .u32 (n : Int) = (n : Int) := fun n h => wrap_u32 (by omega) (by omega)
  rw [w a (by omega), w b (by omega), w c (by omega), w d (by omega)]
  rw [show ((a : Int) * 16777216) = ((2 ^ 24 * a : Nat) : Int) by omega, show ((b : Int) * 65536) = ((2 ^ 16 * b : Nat) : Int) by omega, show ((c : Int) * 256) = ((2 ^ 8 * c : Nat) : Int) by omega]
  rw [w _ (by omega), w _ (by omega), w _ (by omega)]
  rw [or_u32 24 (by omega) (by omega), show 2 ^ 24 * a + 2 ^ 16 * b = 2 ^ 16 * (256 * a + b) by omega, or_u32 16 (by omega) (by omega), show 2 ^ 16 * (256 * a + b) + 2 ^ 8 * c = 2 ^ 8 * (256 * (256 * a + b) + c) by omega, or_u32 8 (by omega) (by omega)]
  omega
theorem port_sum {c d : Nat} (hc : c < 256) (hd : d < 256) : portV [[(c : Int)], [(d : Int)]] = (c : Int) * 256 + d := by
  show Go.bits .or .u16 (IntKind.wrap .u16 (IntKind.wrap .u16 (c : Int) * 256)) (IntKind.wrap .u16 (d : Int)) = _
  have w : ∀ n : Nat, n < 65536 → IntKind.wrap .u16 (n : Int) = (n : Int) := fun n h => wrap_u16 (by omega) (by omega)
  rw [w c (by omega), w d (by omega), show ((c : Int) * 256) = ((2 ^ 8 * c : Nat) : Int) by omega, w _ (by omega), or_u16 8 (by omega) (by omega)]
  omega
end Go.Sx.Mk


/- Layer 6: Unpack of both. -/
namespace Go.Sx.Mk
open Go.Proofs Go.RowKit
def byteR (r : Row) : Bool := decide (0 ≤ r.getD 0 0 ∧ r.getD 0 0 < 256)
def allU8 (l : List Row) : Bool := l.all byteR
theorem len13 {l : List Row} (h : l.length = 13) : ∃ x0 x1 x2 x3 x4 x5 x6 x7 x8 x9 x10 x11 x12, l = [x0, x1, x2, x3, x4, x5, x6, x7, x8, x9, x10, x11, x12] := by
  match l, h with
  | [x0, x1, x2, x3, x4, x5, x6, x7, x8, x9, x10, x11, x12], _ => exact ⟨x0, x1, x2, x3, x4, x5, x6, x7, x8, x9, x10, x11, x12, rfl⟩
theorem w4_eq {a b c d : Row} (ha : byteR a = true) (hb : byteR b = true) (hc : byteR c = true) (hd : byteR d = true) : wordV [a, b, c, d] = IntKind.wrap .u32 (loF [a, b, c, d] 0) := by
  have ha := of_decide_eq_true ha
  have hb := of_decide_eq_true hb
  have hc := of_decide_eq_true hc
  have hd := of_decide_eq_true hd
  show wordV [[a.getD 0 0], [b.getD 0 0], [c.getD 0 0], [d.getD 0 0]] = IntKind.wrap .u32 (loF [[a.getD 0 0], [b.getD 0 0], [c.getD 0 0], [d.getD 0 0]] 0)
  generalize a.getD 0 0 = a at ha
  generalize b.getD 0 0 = b at hb
  generalize c.getD 0 0 = c at hc
  generalize d.getD 0 0 = d at hd
  rw [lo4 ha hb hc hd]
  obtain ⟨a, rfl⟩ := Int.eq_ofNat_of_zero_le ha.1
  obtain ⟨b, rfl⟩ := Int.eq_ofNat_of_zero_le hb.1
  obtain ⟨c, rfl⟩ := Int.eq_ofNat_of_zero_le hc.1
  obtain ⟨d, rfl⟩ := Int.eq_ofNat_of_zero_le hd.1
  exact word_sum (by omega) (by omega) (by omega) (by omega)
theorem w2_eq {c d : Row} (hc : byteR c = true) (hd : byteR d = true) : portV [c, d] = IntKind.wrap .u16 (loF [c, d] 0) := by
  have hc := of_decide_eq_true hc
  have hd := of_decide_eq_true hd
  show portV [[c.getD 0 0], [d.getD 0 0]] = IntKind.wrap .u16 (loF [[c.getD 0 0], [d.getD 0 0]] 0)
  generalize c.getD 0 0 = c at hc
  generalize d.getD 0 0 = d at hd
  rw [lo2 hc hd]
  obtain ⟨c, rfl⟩ := Int.eq_ofNat_of_zero_le hc.1
  obtain ⟨d, rfl⟩ := Int.eq_ofNat_of_zero_le hd.1
  exact port_sum (by omega) (by omega)
theorem unpack13 (l : List Row) (h : l.length = 13) (hb : allU8 l = true) : (T_unpack wordV portV l).opt = some (.tup [hx (r1 l) (r2 l) (r3 l) (r4 l) (r5 l), .int .i64 0]) := by
  obtain ⟨x0, x1, x2, x3, x4, x5, x6, x7, x8, x9, x10, x11, x12, rfl⟩ := len13 h
  have hb := List.all_eq_true.1 hb
  have e1 := w4_eq (hb x0 (by simp)) (hb x1 (by simp)) (hb x2 (by simp)) (hb x3 (by simp))
  have e2 := w4_eq (hb x4 (by simp)) (hb x5 (by simp)) (hb x6 (by simp)) (hb x7 (by simp))
  have e3 := w2_eq (hb x8 (by simp)) (hb x9 (by simp))
  have e4 := w2_eq (hb x10 (by simp)) (hb x11 (by simp))
  refine Eq.trans (show _ = some (.tup [hx (wordV [x0, x1, x2, x3]) (wordV [x4, x5, x6, x7]) (portV [x8, x9]) (portV [x10, x11]) (x12.getD 0 0), .int .i64 0]) from rfl) ?_
  rw [e1, e2, e3, e4]
  rfl
theorem S_unpack : SummT Try.prog 12 (sgB fun l => .when (allU8 l) (.br (Nat.beq l.length 13) (.leaf (.tup [hx (r1 l) (r2 l) (r3 l) (r4 l) (r5 l), .int .i64 0])) (.leaf (.tup [hx 0 0 0 0 0, .int .i64 60])))) := sgB.summ (evFn_summ (facts Gaw_ok) 2 12) (fun l sv h => by
  obtain ⟨h1, h2⟩ := GT.opt_when h
  refine (e_unpack wordV portV l).trans (Eq.trans ?_ h2)
  cases hb : Nat.beq l.length 13 with
  | true =>
    exact unpack13 l (Nat.eq_of_beq_eq_true hb) h1
  | false =>
    have hl : ((l.length : Int) != 13) = true := by
      have := Nat.ne_of_beq_eq_false hb
      simp; omega
    unfold T_unpack
    rw [hl]; rfl)
end Go.Sx.Mk


/- Layer 6: Pack of both; HeaderPacks, HeaderBack. -/
namespace Go.Sx.Mk
open Go.Proofs Go.RowKit
def pkR (s d p q t : Int) : List Row := [[yS s 16777216], [yS s 65536], [yS s 256], [yS s 1], [yS d 16777216], [yS d 65536], [yS d 256], [yS d 1], [yS p 256], [yS p 1], [yS q 256], [yS q 1], [yS t 1]]
noncomputable def T_pack (s d p q t : Int) : GT SV := GT.leaf
    (SV.rows [CK.i IntKind.u8]
      [[IntKind.u8.wrap (s.fdiv (16777216 : Int))], [IntKind.u8.wrap (s.fdiv (65536 : Int))],
        [IntKind.u8.wrap (s.fdiv (256 : Int))], [IntKind.u8.wrap s], [IntKind.u8.wrap (d.fdiv (16777216 : Int))],
        [IntKind.u8.wrap (d.fdiv (65536 : Int))], [IntKind.u8.wrap (d.fdiv (256 : Int))], [IntKind.u8.wrap d],
        [IntKind.u8.wrap (p.fdiv (256 : Int))], [IntKind.u8.wrap p], [IntKind.u8.wrap (q.fdiv (256 : Int))],
        [IntKind.u8.wrap q], [t]])
theorem e_pack (s d p q t : Int) : evFn Try.prog Gaw ents [] nolp 2 14 [hx s d p q t] = (T_pack s d p q t).opt := by kernel_rfl
theorem pack_eq {s d p q t : Int} (hs : U32 s) (hd : U32 d) (hp : U16 p) (hq : U16 q) (ht : U8 t) : (T_pack s d p q t).opt = some (.rows [.i .u8] (pkR s d p q t)) := by
  unfold U16 at hp hq
  unfold pkR
  rw [bytes1 ht, ← by1_eq hs.1 hs.2, ← by1_eq hd.1 hd.2, ← by1_eq hp.1 (by omega), ← by1_eq hq.1 (by omega)]
  simp only [← byS_eq hs.1 hs.2, ← byS_eq hd.1 hd.2, ← byS_eq hp.1 (show p < 4294967296 by omega), ← byS_eq hq.1 (show q < 4294967296 by omega)]
  rfl
theorem S_pack : SummT Try.prog 14 (sgH fun s d p q t => .when (gdH s d p q t) (.leaf (.rows [.i .u8] [[yS s 16777216], [yS s 65536], [yS s 256], [yS s 1], [yS d 16777216], [yS d 65536], [yS d 256], [yS d 1], [yS p 256], [yS p 1], [yS q 256], [yS q 1], [yS t 1]]))) := sgH.summ (evFn_summ (facts Gaw_ok) 2 14) (fun s d p q t sv h => by
  obtain ⟨h1, h2⟩ := GT.opt_when h
  obtain ⟨b1, b2, b3, b4, b5⟩ := of_decide_eq_true h1
  exact ((e_pack s d p q t).trans (pack_eq b1 b2 b3 b4 b5)).trans h2)
end Go.Sx.Mk


/- Layer 6: HeaderPacks, HeaderBack. -/
namespace Go.Sx.Mk
open Go.Proofs Go.RowKit
def q1 (l : List Row) : Int := sure (Nat.beq l.length 13) (r1 l) 0
def q2 (l : List Row) : Int := sure (Nat.beq l.length 13) (r2 l) 0
def q3 (l : List Row) : Int := sure (Nat.beq l.length 13) (r3 l) 0
def q4 (l : List Row) : Int := sure (Nat.beq l.length 13) (r4 l) 0
def q5 (l : List Row) : Int := sure (Nat.beq l.length 13) (r5 l) 0
def qe (l : List Row) : Int := sure (Nat.beq l.length 13) 0 60
theorem un_one (l : List Row) : (GT.br (Nat.beq l.length 13) (.leaf (SV.tup [hx (r1 l) (r2 l) (r3 l) (r4 l) (r5 l), .int .i64 0])) (.leaf (SV.tup [hx 0 0 0 0 0, .int .i64 60]))).opt = some (SV.tup [hx (q1 l) (q2 l) (q3 l) (q4 l) (q5 l), .int .i64 (qe l)]) := by
  unfold q1 q2 q3 q4 q5 qe
  cases Nat.beq l.length 13 <;> rfl
theorem S_unpack1 : SummT Try.prog 12 (sgB fun l => .when (allU8 l) (.leaf (.tup [hx (q1 l) (q2 l) (q3 l) (q4 l) (q5 l), .int .i64 (qe l)]))) := sgB.summ S_unpack (fun l sv h => by
  obtain ⟨h1, h2⟩ := GT.opt_when h
  show (GT.when (allU8 l) _).opt = _
  rw [h1]
  exact (un_one l).trans h2)
theorem S_runpack1 : SummT Try.prog 13 (sgB fun l => .leaf (.tup [hx (q1 l) (q2 l) (q3 l) (q4 l) (q5 l), .int .i64 (qe l)])) := sgB.summ S_runpack (fun l sv h => (un_one l).trans h)
noncomputable def Gpk (g : Int → Int → Int → Int → Int → Bool) (au : List Row → Bool) (y : Int → Int → Int) (v1 v2 v3 v4 v5 ve : List Row → Int) (sm : List Row → List Row → Bool) : FuncId → Option (List SV → GT SV)
  | 999999 => some (fun _ => GT.stop)
  | 11 => some (sg0 (.leaf (.bool true)))
  | 14 => some (sgH fun s d p q t => .when (g s d p q t) (.leaf (.rows [.i .u8] [[y s 16777216], [y s 65536], [y s 256], [y s 1], [y d 16777216], [y d 65536], [y d 256], [y d 1], [y p 256], [y p 1], [y q 256], [y q 1], [y t 1]])))
  | 15 => some (sgH fun s d p q t => .leaf (.rows [.i .u8] [[y s 16777216], [y s 65536], [y s 256], [y s 1], [y d 16777216], [y d 65536], [y d 256], [y d 1], [y p 256], [y p 1], [y q 256], [y q 1], [y t 1]]))
  | 12 => some (sgB fun l => .when (au l) (.leaf (.tup [hx (v1 l) (v2 l) (v3 l) (v4 l) (v5 l), .int .i64 (ve l)])))
  | 13 => some (sgB fun l => .leaf (.tup [hx (v1 l) (v2 l) (v3 l) (v4 l) (v5 l), .int .i64 (ve l)]))
  | 16 => some (sgBB fun l m => .leaf (.bool (sm l m)))
  | _ => none
theorem Gpk_ok : ∀ g s, Gpk gdH allU8 yS q1 q2 q3 q4 q5 qe smV g = some s → SummT Try.prog g s := fun g s h => by
  unfold Gpk at h
  split at h
  · cases h; exact merge_ok
  · cases h; exact S_awake
  · cases h; exact S_pack
  · cases h; exact S_rpack
  · cases h; exact S_unpack1
  · cases h; exact S_runpack1
  · cases h; exact S_same
  · cases h
noncomputable def T_lhk (g : Int → Int → Int → Int → Int → Bool) (au : List Row → Bool) (y : Int → Int → Int) (v1 v2 v3 v4 v5 ve : List Row → Int) (sm : List Row → List Row → Bool) (s d p q t : Int) (l : List Row) : GT SV := GT.br (decide ((16777216 : Int) < (↑l.length : Int))) (GT.leaf (SV.bool true))
    (GT.br
      (decide
        ((0 : Int) ≤ (↑l.length : Int) ∧
          (↑l.length : Int) ≤ IntKind.i64.wrap ((↑l.length : Int) + (1 : Int)) ∧
            IntKind.i64.wrap ((↑l.length : Int) + (1 : Int)) < (4000000000 : Int)))
      (GT.br
        (decide
          ((0 : Int) ≤ IntKind.i64.wrap ((↑l.length : Int) + (1 : Int)) ∧
            IntKind.i64.wrap ((↑l.length : Int) + (1 : Int)) ≤
              (↑(cpR (List.replicate (IntKind.i64.wrap ((↑l.length : Int) + (1 : Int))).toNat [(0 : Int)])
                        (List.take l.length (List.drop (0 : Nat) l)) (0 : Nat) (↑l.length : Int).toNat).length :
                  Int) -
                (0 : Int)))
        (GT.br
          (decide
            ((0 : Int) ≤ (↑l.length : Int) ∧
              (↑l.length : Int) < (↑(IntKind.i64.wrap ((↑l.length : Int) + (1 : Int))).toNat : Int)))
          (GT.br
            (au
              (List.take (↑l.length : Int).toNat
                (List.drop (0 : Nat)
                  (stR
                    (cpR (List.replicate (IntKind.i64.wrap ((↑l.length : Int) + (1 : Int))).toNat [(0 : Int)])
                      (List.take l.length (List.drop (0 : Nat) l)) (0 : Nat) (↑l.length : Int).toNat)
                    ((0 : Nat) + (↑l.length : Int).toNat) (0 : Nat) (1 : Nat) [(99 : Int)]))))
            (GT.br (g s d p q t)
              (GT.br (g s d p q t)
                (GT.br
                  (au
                    (List.take (↑l.length : Int).toNat
                      (List.drop (0 : Nat)
                        (stR
                          (cpR (List.replicate (IntKind.i64.wrap ((↑l.length : Int) + (1 : Int))).toNat [(0 : Int)])
                            (List.take l.length (List.drop (0 : Nat) l)) (0 : Nat) (↑l.length : Int).toNat)
                          ((0 : Nat) + (↑l.length : Int).toNat) (0 : Nat) (1 : Nat) [(99 : Int)]))))
                  (GT.br
                    (sm
                      [[y s (16777216 : Int)], [y s (65536 : Int)], [y s (256 : Int)], [y s (1 : Int)],
                        [y d (16777216 : Int)], [y d (65536 : Int)], [y d (256 : Int)], [y d (1 : Int)],
                        [y p (256 : Int)], [y p (1 : Int)], [y q (256 : Int)], [y q (1 : Int)], [y t (1 : Int)]]
                      [[y s (16777216 : Int)], [y s (65536 : Int)], [y s (256 : Int)], [y s (1 : Int)],
                        [y d (16777216 : Int)], [y d (65536 : Int)], [y d (256 : Int)], [y d (1 : Int)],
                        [y p (256 : Int)], [y p (1 : Int)], [y q (256 : Int)], [y q (1 : Int)], [y t (1 : Int)]])
                    (GT.br (g s d p q t)
                      (GT.br
                        (v1
                                          (List.take (↑l.length : Int).toNat
                                            (List.drop (0 : Nat)
                                              (stR
                                                (cpR
                                                  (List.replicate
                                                    (IntKind.i64.wrap ((↑l.length : Int) + (1 : Int))).toNat
                                                    [(0 : Int)])
                                                  (List.take l.length (List.drop (0 : Nat) l)) (0 : Nat)
                                                  (↑l.length : Int).toNat)
                                                ((0 : Nat) + (↑l.length : Int).toNat) (0 : Nat) (1 : Nat)
                                                [(99 : Int)]))) ==
                                        v1 (List.take l.length (List.drop (0 : Nat) l)) &&
                                      (v2
                                            (List.take (↑l.length : Int).toNat
                                              (List.drop (0 : Nat)
                                                (stR
                                                  (cpR
                                                    (List.replicate
                                                      (IntKind.i64.wrap ((↑l.length : Int) + (1 : Int))).toNat
                                                      [(0 : Int)])
                                                    (List.take l.length (List.drop (0 : Nat) l)) (0 : Nat)
                                                    (↑l.length : Int).toNat)
                                                  ((0 : Nat) + (↑l.length : Int).toNat) (0 : Nat) (1 : Nat)
                                                  [(99 : Int)]))) ==
                                          v2 (List.take l.length (List.drop (0 : Nat) l)) &&
                                        (v3
                                              (List.take (↑l.length : Int).toNat
                                                (List.drop (0 : Nat)
                                                  (stR
                                                    (cpR
                                                      (List.replicate
                                                        (IntKind.i64.wrap ((↑l.length : Int) + (1 : Int))).toNat
                                                        [(0 : Int)])
                                                      (List.take l.length (List.drop (0 : Nat) l)) (0 : Nat)
                                                      (↑l.length : Int).toNat)
                                                    ((0 : Nat) + (↑l.length : Int).toNat) (0 : Nat) (1 : Nat)
                                                    [(99 : Int)]))) ==
                                            v3 (List.take l.length (List.drop (0 : Nat) l)) &&
                                          (v4
                                                (List.take (↑l.length : Int).toNat
                                                  (List.drop (0 : Nat)
                                                    (stR
                                                      (cpR
                                                        (List.replicate
                                                          (IntKind.i64.wrap ((↑l.length : Int) + (1 : Int))).toNat
                                                          [(0 : Int)])
                                                        (List.take l.length (List.drop (0 : Nat) l)) (0 : Nat)
                                                        (↑l.length : Int).toNat)
                                                      ((0 : Nat) + (↑l.length : Int).toNat) (0 : Nat) (1 : Nat)
                                                      [(99 : Int)]))) ==
                                              v4 (List.take l.length (List.drop (0 : Nat) l)) &&
                                            (v5
                                                  (List.take (↑l.length : Int).toNat
                                                    (List.drop (0 : Nat)
                                                      (stR
                                                        (cpR
                                                          (List.replicate
                                                            (IntKind.i64.wrap ((↑l.length : Int) + (1 : Int))).toNat
                                                            [(0 : Int)])
                                                          (List.take l.length (List.drop (0 : Nat) l)) (0 : Nat)
                                                          (↑l.length : Int).toNat)
                                                        ((0 : Nat) + (↑l.length : Int).toNat) (0 : Nat) (1 : Nat)
                                                        [(99 : Int)]))) ==
                                                v5 (List.take l.length (List.drop (0 : Nat) l)) &&
                                              true)))) &&
                                    ve
                                        (List.take (↑l.length : Int).toNat
                                          (List.drop (0 : Nat)
                                            (stR
                                              (cpR
                                                (List.replicate (IntKind.i64.wrap ((↑l.length : Int) + (1 : Int))).toNat
                                                  [(0 : Int)])
                                                (List.take l.length (List.drop (0 : Nat) l)) (0 : Nat)
                                                (↑l.length : Int).toNat)
                                              ((0 : Nat) + (↑l.length : Int).toNat) (0 : Nat) (1 : Nat)
                                              [(99 : Int)]))) ==
                                      ve (List.take l.length (List.drop (0 : Nat) l)) &&
                                  (v1
                                        (List.take (↑l.length : Int).toNat
                                          (List.drop (0 : Nat)
                                            (stR
                                              (cpR
                                                (List.replicate (IntKind.i64.wrap ((↑l.length : Int) + (1 : Int))).toNat
                                                  [(0 : Int)])
                                                (List.take l.length (List.drop (0 : Nat) l)) (0 : Nat)
                                                (↑l.length : Int).toNat)
                                              ((0 : Nat) + (↑l.length : Int).toNat) (0 : Nat) (1 : Nat)
                                              [(99 : Int)]))) ==
                                      v1 (List.take l.length (List.drop (0 : Nat) l)) &&
                                    (v2
                                          (List.take (↑l.length : Int).toNat
                                            (List.drop (0 : Nat)
                                              (stR
                                                (cpR
                                                  (List.replicate
                                                    (IntKind.i64.wrap ((↑l.length : Int) + (1 : Int))).toNat
                                                    [(0 : Int)])
                                                  (List.take l.length (List.drop (0 : Nat) l)) (0 : Nat)
                                                  (↑l.length : Int).toNat)
                                                ((0 : Nat) + (↑l.length : Int).toNat) (0 : Nat) (1 : Nat)
                                                [(99 : Int)]))) ==
                                        v2 (List.take l.length (List.drop (0 : Nat) l)) &&
                                      (v3
                                            (List.take (↑l.length : Int).toNat
                                              (List.drop (0 : Nat)
                                                (stR
                                                  (cpR
                                                    (List.replicate
                                                      (IntKind.i64.wrap ((↑l.length : Int) + (1 : Int))).toNat
                                                      [(0 : Int)])
                                                    (List.take l.length (List.drop (0 : Nat) l)) (0 : Nat)
                                                    (↑l.length : Int).toNat)
                                                  ((0 : Nat) + (↑l.length : Int).toNat) (0 : Nat) (1 : Nat)
                                                  [(99 : Int)]))) ==
                                          v3 (List.take l.length (List.drop (0 : Nat) l)) &&
                                        (v4
                                              (List.take (↑l.length : Int).toNat
                                                (List.drop (0 : Nat)
                                                  (stR
                                                    (cpR
                                                      (List.replicate
                                                        (IntKind.i64.wrap ((↑l.length : Int) + (1 : Int))).toNat
                                                        [(0 : Int)])
                                                      (List.take l.length (List.drop (0 : Nat) l)) (0 : Nat)
                                                      (↑l.length : Int).toNat)
                                                    ((0 : Nat) + (↑l.length : Int).toNat) (0 : Nat) (1 : Nat)
                                                    [(99 : Int)]))) ==
                                            v4 (List.take l.length (List.drop (0 : Nat) l)) &&
                                          (v5
                                                (List.take (↑l.length : Int).toNat
                                                  (List.drop (0 : Nat)
                                                    (stR
                                                      (cpR
                                                        (List.replicate
                                                          (IntKind.i64.wrap ((↑l.length : Int) + (1 : Int))).toNat
                                                          [(0 : Int)])
                                                        (List.take l.length (List.drop (0 : Nat) l)) (0 : Nat)
                                                        (↑l.length : Int).toNat)
                                                      ((0 : Nat) + (↑l.length : Int).toNat) (0 : Nat) (1 : Nat)
                                                      [(99 : Int)]))) ==
                                              v5 (List.take l.length (List.drop (0 : Nat) l)) &&
                                            true))))) &&
                                ve
                                    (List.take (↑l.length : Int).toNat
                                      (List.drop (0 : Nat)
                                        (stR
                                          (cpR
                                            (List.replicate (IntKind.i64.wrap ((↑l.length : Int) + (1 : Int))).toNat
                                              [(0 : Int)])
                                            (List.take l.length (List.drop (0 : Nat) l)) (0 : Nat)
                                            (↑l.length : Int).toNat)
                                          ((0 : Nat) + (↑l.length : Int).toNat) (0 : Nat) (1 : Nat) [(99 : Int)]))) ==
                                  ve (List.take l.length (List.drop (0 : Nat) l)) &&
                              (sm
                                  [[y s (16777216 : Int)], [y s (65536 : Int)], [y s (256 : Int)], [y s (1 : Int)],
                                    [y d (16777216 : Int)], [y d (65536 : Int)], [y d (256 : Int)], [y d (1 : Int)],
                                    [y p (256 : Int)], [y p (1 : Int)], [y q (256 : Int)], [y q (1 : Int)],
                                    [y t (1 : Int)]]
                                  [[y s (16777216 : Int)], [y s (65536 : Int)], [y s (256 : Int)], [y s (1 : Int)],
                                    [y d (16777216 : Int)], [y d (65536 : Int)], [y d (256 : Int)], [y d (1 : Int)],
                                    [y p (256 : Int)], [y p (1 : Int)], [y q (256 : Int)], [y q (1 : Int)],
                                    [y t (1 : Int)]] &&
                                sm
                                  [[y s (16777216 : Int)], [y s (65536 : Int)], [y s (256 : Int)], [y s (1 : Int)],
                                    [y d (16777216 : Int)], [y d (65536 : Int)], [y d (256 : Int)], [y d (1 : Int)],
                                    [y p (256 : Int)], [y p (1 : Int)], [y q (256 : Int)], [y q (1 : Int)],
                                    [y t (1 : Int)]]
                                  [[y s (16777216 : Int)], [y s (65536 : Int)], [y s (256 : Int)], [y s (1 : Int)],
                                    [y d (16777216 : Int)], [y d (65536 : Int)], [y d (256 : Int)], [y d (1 : Int)],
                                    [y p (256 : Int)], [y p (1 : Int)], [y q (256 : Int)], [y q (1 : Int)],
                                    [y t (1 : Int)]]) &&
                            sm
                              [[y s (16777216 : Int)], [y s (65536 : Int)], [y s (256 : Int)], [y s (1 : Int)],
                                [y d (16777216 : Int)], [y d (65536 : Int)], [y d (256 : Int)], [y d (1 : Int)],
                                [y p (256 : Int)], [y p (1 : Int)], [y q (256 : Int)], [y q (1 : Int)], [y t (1 : Int)]]
                              [[y s (16777216 : Int)], [y s (65536 : Int)], [y s (256 : Int)], [y s (1 : Int)],
                                [y d (16777216 : Int)], [y d (65536 : Int)], [y d (256 : Int)], [y d (1 : Int)],
                                [y p (256 : Int)], [y p (1 : Int)], [y q (256 : Int)], [y q (1 : Int)],
                                [y t (1 : Int)]] &&
                          (↑(14 : Nat) : Int) == (14 : Int))
                        (GT.br
                          (decide
                            ((0 : Int) ≤ (↑l.length : Int) ∧
                              (↑l.length : Int) < (↑(IntKind.i64.wrap ((↑l.length : Int) + (1 : Int))).toNat : Int)))
                          (GT.leaf
                            (SV.bool
                              (List.getD
                                    ((stR
                                          (cpR
                                            (List.replicate (IntKind.i64.wrap ((↑l.length : Int) + (1 : Int))).toNat
                                              [(0 : Int)])
                                            (List.take l.length (List.drop (0 : Nat) l)) (0 : Nat)
                                            (↑l.length : Int).toNat)
                                          ((0 : Nat) + (↑l.length : Int).toNat) (0 : Nat) (1 : Nat) [(99 : Int)]).getD
                                      ((0 : Nat) + (↑l.length : Int).toNat) [])
                                    (0 : Nat) (0 : Int) ==
                                  (99 : Int) &&
                                sm
                                  (List.take (↑l.length : Int).toNat
                                    (List.drop (0 : Nat)
                                      (stR
                                        (cpR
                                          (List.replicate (IntKind.i64.wrap ((↑l.length : Int) + (1 : Int))).toNat
                                            [(0 : Int)])
                                          (List.take l.length (List.drop (0 : Nat) l)) (0 : Nat)
                                          (↑l.length : Int).toNat)
                                        ((0 : Nat) + (↑l.length : Int).toNat) (0 : Nat) (1 : Nat) [(99 : Int)])))
                                  (List.take l.length (List.drop (0 : Nat) l)))))
                          GT.stop)
                        (GT.leaf (SV.bool false)))
                      GT.stop)
                    (GT.br
                      (v1
                                        (List.take (↑l.length : Int).toNat
                                          (List.drop (0 : Nat)
                                            (stR
                                              (cpR
                                                (List.replicate (IntKind.i64.wrap ((↑l.length : Int) + (1 : Int))).toNat
                                                  [(0 : Int)])
                                                (List.take l.length (List.drop (0 : Nat) l)) (0 : Nat)
                                                (↑l.length : Int).toNat)
                                              ((0 : Nat) + (↑l.length : Int).toNat) (0 : Nat) (1 : Nat)
                                              [(99 : Int)]))) ==
                                      v1 (List.take l.length (List.drop (0 : Nat) l)) &&
                                    (v2
                                          (List.take (↑l.length : Int).toNat
                                            (List.drop (0 : Nat)
                                              (stR
                                                (cpR
                                                  (List.replicate
                                                    (IntKind.i64.wrap ((↑l.length : Int) + (1 : Int))).toNat
                                                    [(0 : Int)])
                                                  (List.take l.length (List.drop (0 : Nat) l)) (0 : Nat)
                                                  (↑l.length : Int).toNat)
                                                ((0 : Nat) + (↑l.length : Int).toNat) (0 : Nat) (1 : Nat)
                                                [(99 : Int)]))) ==
                                        v2 (List.take l.length (List.drop (0 : Nat) l)) &&
                                      (v3
                                            (List.take (↑l.length : Int).toNat
                                              (List.drop (0 : Nat)
                                                (stR
                                                  (cpR
                                                    (List.replicate
                                                      (IntKind.i64.wrap ((↑l.length : Int) + (1 : Int))).toNat
                                                      [(0 : Int)])
                                                    (List.take l.length (List.drop (0 : Nat) l)) (0 : Nat)
                                                    (↑l.length : Int).toNat)
                                                  ((0 : Nat) + (↑l.length : Int).toNat) (0 : Nat) (1 : Nat)
                                                  [(99 : Int)]))) ==
                                          v3 (List.take l.length (List.drop (0 : Nat) l)) &&
                                        (v4
                                              (List.take (↑l.length : Int).toNat
                                                (List.drop (0 : Nat)
                                                  (stR
                                                    (cpR
                                                      (List.replicate
                                                        (IntKind.i64.wrap ((↑l.length : Int) + (1 : Int))).toNat
                                                        [(0 : Int)])
                                                      (List.take l.length (List.drop (0 : Nat) l)) (0 : Nat)
                                                      (↑l.length : Int).toNat)
                                                    ((0 : Nat) + (↑l.length : Int).toNat) (0 : Nat) (1 : Nat)
                                                    [(99 : Int)]))) ==
                                            v4 (List.take l.length (List.drop (0 : Nat) l)) &&
                                          (v5
                                                (List.take (↑l.length : Int).toNat
                                                  (List.drop (0 : Nat)
                                                    (stR
                                                      (cpR
                                                        (List.replicate
                                                          (IntKind.i64.wrap ((↑l.length : Int) + (1 : Int))).toNat
                                                          [(0 : Int)])
                                                        (List.take l.length (List.drop (0 : Nat) l)) (0 : Nat)
                                                        (↑l.length : Int).toNat)
                                                      ((0 : Nat) + (↑l.length : Int).toNat) (0 : Nat) (1 : Nat)
                                                      [(99 : Int)]))) ==
                                              v5 (List.take l.length (List.drop (0 : Nat) l)) &&
                                            true)))) &&
                                  ve
                                      (List.take (↑l.length : Int).toNat
                                        (List.drop (0 : Nat)
                                          (stR
                                            (cpR
                                              (List.replicate (IntKind.i64.wrap ((↑l.length : Int) + (1 : Int))).toNat
                                                [(0 : Int)])
                                              (List.take l.length (List.drop (0 : Nat) l)) (0 : Nat)
                                              (↑l.length : Int).toNat)
                                            ((0 : Nat) + (↑l.length : Int).toNat) (0 : Nat) (1 : Nat) [(99 : Int)]))) ==
                                    ve (List.take l.length (List.drop (0 : Nat) l)) &&
                                (v1
                                      (List.take (↑l.length : Int).toNat
                                        (List.drop (0 : Nat)
                                          (stR
                                            (cpR
                                              (List.replicate (IntKind.i64.wrap ((↑l.length : Int) + (1 : Int))).toNat
                                                [(0 : Int)])
                                              (List.take l.length (List.drop (0 : Nat) l)) (0 : Nat)
                                              (↑l.length : Int).toNat)
                                            ((0 : Nat) + (↑l.length : Int).toNat) (0 : Nat) (1 : Nat) [(99 : Int)]))) ==
                                    v1 (List.take l.length (List.drop (0 : Nat) l)) &&
                                  (v2
                                        (List.take (↑l.length : Int).toNat
                                          (List.drop (0 : Nat)
                                            (stR
                                              (cpR
                                                (List.replicate (IntKind.i64.wrap ((↑l.length : Int) + (1 : Int))).toNat
                                                  [(0 : Int)])
                                                (List.take l.length (List.drop (0 : Nat) l)) (0 : Nat)
                                                (↑l.length : Int).toNat)
                                              ((0 : Nat) + (↑l.length : Int).toNat) (0 : Nat) (1 : Nat)
                                              [(99 : Int)]))) ==
                                      v2 (List.take l.length (List.drop (0 : Nat) l)) &&
                                    (v3
                                          (List.take (↑l.length : Int).toNat
                                            (List.drop (0 : Nat)
                                              (stR
                                                (cpR
                                                  (List.replicate
                                                    (IntKind.i64.wrap ((↑l.length : Int) + (1 : Int))).toNat
                                                    [(0 : Int)])
                                                  (List.take l.length (List.drop (0 : Nat) l)) (0 : Nat)
                                                  (↑l.length : Int).toNat)
                                                ((0 : Nat) + (↑l.length : Int).toNat) (0 : Nat) (1 : Nat)
                                                [(99 : Int)]))) ==
                                        v3 (List.take l.length (List.drop (0 : Nat) l)) &&
                                      (v4
                                            (List.take (↑l.length : Int).toNat
                                              (List.drop (0 : Nat)
                                                (stR
                                                  (cpR
                                                    (List.replicate
                                                      (IntKind.i64.wrap ((↑l.length : Int) + (1 : Int))).toNat
                                                      [(0 : Int)])
                                                    (List.take l.length (List.drop (0 : Nat) l)) (0 : Nat)
                                                    (↑l.length : Int).toNat)
                                                  ((0 : Nat) + (↑l.length : Int).toNat) (0 : Nat) (1 : Nat)
                                                  [(99 : Int)]))) ==
                                          v4 (List.take l.length (List.drop (0 : Nat) l)) &&
                                        (v5
                                              (List.take (↑l.length : Int).toNat
                                                (List.drop (0 : Nat)
                                                  (stR
                                                    (cpR
                                                      (List.replicate
                                                        (IntKind.i64.wrap ((↑l.length : Int) + (1 : Int))).toNat
                                                        [(0 : Int)])
                                                      (List.take l.length (List.drop (0 : Nat) l)) (0 : Nat)
                                                      (↑l.length : Int).toNat)
                                                    ((0 : Nat) + (↑l.length : Int).toNat) (0 : Nat) (1 : Nat)
                                                    [(99 : Int)]))) ==
                                            v5 (List.take l.length (List.drop (0 : Nat) l)) &&
                                          true))))) &&
                              ve
                                  (List.take (↑l.length : Int).toNat
                                    (List.drop (0 : Nat)
                                      (stR
                                        (cpR
                                          (List.replicate (IntKind.i64.wrap ((↑l.length : Int) + (1 : Int))).toNat
                                            [(0 : Int)])
                                          (List.take l.length (List.drop (0 : Nat) l)) (0 : Nat)
                                          (↑l.length : Int).toNat)
                                        ((0 : Nat) + (↑l.length : Int).toNat) (0 : Nat) (1 : Nat) [(99 : Int)]))) ==
                                ve (List.take l.length (List.drop (0 : Nat) l)) &&
                            (sm
                                [[y s (16777216 : Int)], [y s (65536 : Int)], [y s (256 : Int)], [y s (1 : Int)],
                                  [y d (16777216 : Int)], [y d (65536 : Int)], [y d (256 : Int)], [y d (1 : Int)],
                                  [y p (256 : Int)], [y p (1 : Int)], [y q (256 : Int)], [y q (1 : Int)],
                                  [y t (1 : Int)]]
                                [[y s (16777216 : Int)], [y s (65536 : Int)], [y s (256 : Int)], [y s (1 : Int)],
                                  [y d (16777216 : Int)], [y d (65536 : Int)], [y d (256 : Int)], [y d (1 : Int)],
                                  [y p (256 : Int)], [y p (1 : Int)], [y q (256 : Int)], [y q (1 : Int)],
                                  [y t (1 : Int)]] &&
                              sm
                                [[y s (16777216 : Int)], [y s (65536 : Int)], [y s (256 : Int)], [y s (1 : Int)],
                                  [y d (16777216 : Int)], [y d (65536 : Int)], [y d (256 : Int)], [y d (1 : Int)],
                                  [y p (256 : Int)], [y p (1 : Int)], [y q (256 : Int)], [y q (1 : Int)],
                                  [y t (1 : Int)]]
                                [[y s (16777216 : Int)], [y s (65536 : Int)], [y s (256 : Int)], [y s (1 : Int)],
                                  [y d (16777216 : Int)], [y d (65536 : Int)], [y d (256 : Int)], [y d (1 : Int)],
                                  [y p (256 : Int)], [y p (1 : Int)], [y q (256 : Int)], [y q (1 : Int)],
                                  [y t (1 : Int)]]) &&
                          false &&
                        (↑(14 : Nat) : Int) == (14 : Int))
                      (GT.br
                        (decide
                          ((0 : Int) ≤ (↑l.length : Int) ∧
                            (↑l.length : Int) < (↑(IntKind.i64.wrap ((↑l.length : Int) + (1 : Int))).toNat : Int)))
                        (GT.leaf
                          (SV.bool
                            (List.getD
                                  ((stR
                                        (cpR
                                          (List.replicate (IntKind.i64.wrap ((↑l.length : Int) + (1 : Int))).toNat
                                            [(0 : Int)])
                                          (List.take l.length (List.drop (0 : Nat) l)) (0 : Nat)
                                          (↑l.length : Int).toNat)
                                        ((0 : Nat) + (↑l.length : Int).toNat) (0 : Nat) (1 : Nat) [(99 : Int)]).getD
                                    ((0 : Nat) + (↑l.length : Int).toNat) [])
                                  (0 : Nat) (0 : Int) ==
                                (99 : Int) &&
                              sm
                                (List.take (↑l.length : Int).toNat
                                  (List.drop (0 : Nat)
                                    (stR
                                      (cpR
                                        (List.replicate (IntKind.i64.wrap ((↑l.length : Int) + (1 : Int))).toNat
                                          [(0 : Int)])
                                        (List.take l.length (List.drop (0 : Nat) l)) (0 : Nat) (↑l.length : Int).toNat)
                                      ((0 : Nat) + (↑l.length : Int).toNat) (0 : Nat) (1 : Nat) [(99 : Int)])))
                                (List.take l.length (List.drop (0 : Nat) l)))))
                        GT.stop)
                      (GT.leaf (SV.bool false))))
                  GT.stop)
                GT.stop)
              GT.stop)
            GT.stop)
          GT.stop)
        GT.stop)
      GT.stop)
theorem e_lhk (g : Int → Int → Int → Int → Int → Bool) (au : List Row → Bool) (y : Int → Int → Int) (v1 v2 v3 v4 v5 ve : List Row → Int) (sm : List Row → List Row → Bool) (s d p q t : Int) (l : List Row) : ev (Gpk g au y v1 v2 v3 v4 v5 ve sm) 1 3 [hx s d p q t, .rows [.i .u8] l] = (T_lhk g au y v1 v2 v3 v4 v5 ve sm s d p q t l).opt := by kernel_rfl
noncomputable def T_lhb (g : Int → Int → Int → Int → Int → Bool) (au : List Row → Bool) (y : Int → Int → Int) (v1 v2 v3 v4 v5 ve : List Row → Int) (sm : List Row → List Row → Bool) (s d p q t : Int) (l : List Row) : GT SV := GT.br (decide ((16777216 : Int) < (↑l.length : Int))) (GT.leaf (SV.bool true))
    (GT.br (g s d p q t)
      (GT.br
        (au
          [[y s (16777216 : Int)], [y s (65536 : Int)], [y s (256 : Int)], [y s (1 : Int)], [y d (16777216 : Int)],
            [y d (65536 : Int)], [y d (256 : Int)], [y d (1 : Int)], [y p (256 : Int)], [y p (1 : Int)],
            [y q (256 : Int)], [y q (1 : Int)], [y t (1 : Int)]])
        (GT.br (au (List.take l.length (List.drop (0 : Nat) l)))
          (GT.br (!(ve (List.take l.length (List.drop (0 : Nat) l)) == (0 : Int)) == ((↑l.length : Int) == (13 : Int)))
            (GT.leaf (SV.bool false))
            (GT.br (ve (List.take l.length (List.drop (0 : Nat) l)) != (0 : Int))
              (GT.leaf
                (SV.bool
                  (v1
                            [[y s (16777216 : Int)], [y s (65536 : Int)], [y s (256 : Int)], [y s (1 : Int)],
                              [y d (16777216 : Int)], [y d (65536 : Int)], [y d (256 : Int)], [y d (1 : Int)],
                              [y p (256 : Int)], [y p (1 : Int)], [y q (256 : Int)], [y q (1 : Int)],
                              [y t (1 : Int)]] ==
                          s &&
                        (v2
                              [[y s (16777216 : Int)], [y s (65536 : Int)], [y s (256 : Int)], [y s (1 : Int)],
                                [y d (16777216 : Int)], [y d (65536 : Int)], [y d (256 : Int)], [y d (1 : Int)],
                                [y p (256 : Int)], [y p (1 : Int)], [y q (256 : Int)], [y q (1 : Int)],
                                [y t (1 : Int)]] ==
                            d &&
                          (v3
                                [[y s (16777216 : Int)], [y s (65536 : Int)], [y s (256 : Int)], [y s (1 : Int)],
                                  [y d (16777216 : Int)], [y d (65536 : Int)], [y d (256 : Int)], [y d (1 : Int)],
                                  [y p (256 : Int)], [y p (1 : Int)], [y q (256 : Int)], [y q (1 : Int)],
                                  [y t (1 : Int)]] ==
                              p &&
                            (v4
                                  [[y s (16777216 : Int)], [y s (65536 : Int)], [y s (256 : Int)], [y s (1 : Int)],
                                    [y d (16777216 : Int)], [y d (65536 : Int)], [y d (256 : Int)], [y d (1 : Int)],
                                    [y p (256 : Int)], [y p (1 : Int)], [y q (256 : Int)], [y q (1 : Int)],
                                    [y t (1 : Int)]] ==
                                q &&
                              (v5
                                    [[y s (16777216 : Int)], [y s (65536 : Int)], [y s (256 : Int)], [y s (1 : Int)],
                                      [y d (16777216 : Int)], [y d (65536 : Int)], [y d (256 : Int)], [y d (1 : Int)],
                                      [y p (256 : Int)], [y p (1 : Int)], [y q (256 : Int)], [y q (1 : Int)],
                                      [y t (1 : Int)]] ==
                                  t &&
                                true)))) &&
                      ve
                          [[y s (16777216 : Int)], [y s (65536 : Int)], [y s (256 : Int)], [y s (1 : Int)],
                            [y d (16777216 : Int)], [y d (65536 : Int)], [y d (256 : Int)], [y d (1 : Int)],
                            [y p (256 : Int)], [y p (1 : Int)], [y q (256 : Int)], [y q (1 : Int)], [y t (1 : Int)]] ==
                        (0 : Int) &&
                    true)))
              (GT.br
                (g (v1 (List.take l.length (List.drop (0 : Nat) l))) (v2 (List.take l.length (List.drop (0 : Nat) l)))
                  (v3 (List.take l.length (List.drop (0 : Nat) l))) (v4 (List.take l.length (List.drop (0 : Nat) l)))
                  (v5 (List.take l.length (List.drop (0 : Nat) l))))
                (GT.leaf
                  (SV.bool
                    (v1
                              [[y s (16777216 : Int)], [y s (65536 : Int)], [y s (256 : Int)], [y s (1 : Int)],
                                [y d (16777216 : Int)], [y d (65536 : Int)], [y d (256 : Int)], [y d (1 : Int)],
                                [y p (256 : Int)], [y p (1 : Int)], [y q (256 : Int)], [y q (1 : Int)],
                                [y t (1 : Int)]] ==
                            s &&
                          (v2
                                [[y s (16777216 : Int)], [y s (65536 : Int)], [y s (256 : Int)], [y s (1 : Int)],
                                  [y d (16777216 : Int)], [y d (65536 : Int)], [y d (256 : Int)], [y d (1 : Int)],
                                  [y p (256 : Int)], [y p (1 : Int)], [y q (256 : Int)], [y q (1 : Int)],
                                  [y t (1 : Int)]] ==
                              d &&
                            (v3
                                  [[y s (16777216 : Int)], [y s (65536 : Int)], [y s (256 : Int)], [y s (1 : Int)],
                                    [y d (16777216 : Int)], [y d (65536 : Int)], [y d (256 : Int)], [y d (1 : Int)],
                                    [y p (256 : Int)], [y p (1 : Int)], [y q (256 : Int)], [y q (1 : Int)],
                                    [y t (1 : Int)]] ==
                                p &&
                              (v4
                                    [[y s (16777216 : Int)], [y s (65536 : Int)], [y s (256 : Int)], [y s (1 : Int)],
                                      [y d (16777216 : Int)], [y d (65536 : Int)], [y d (256 : Int)], [y d (1 : Int)],
                                      [y p (256 : Int)], [y p (1 : Int)], [y q (256 : Int)], [y q (1 : Int)],
                                      [y t (1 : Int)]] ==
                                  q &&
                                (v5
                                      [[y s (16777216 : Int)], [y s (65536 : Int)], [y s (256 : Int)], [y s (1 : Int)],
                                        [y d (16777216 : Int)], [y d (65536 : Int)], [y d (256 : Int)], [y d (1 : Int)],
                                        [y p (256 : Int)], [y p (1 : Int)], [y q (256 : Int)], [y q (1 : Int)],
                                        [y t (1 : Int)]] ==
                                    t &&
                                  true)))) &&
                        ve
                            [[y s (16777216 : Int)], [y s (65536 : Int)], [y s (256 : Int)], [y s (1 : Int)],
                              [y d (16777216 : Int)], [y d (65536 : Int)], [y d (256 : Int)], [y d (1 : Int)],
                              [y p (256 : Int)], [y p (1 : Int)], [y q (256 : Int)], [y q (1 : Int)],
                              [y t (1 : Int)]] ==
                          (0 : Int) &&
                      sm
                        [[y (v1 (List.take l.length (List.drop (0 : Nat) l))) (16777216 : Int)],
                          [y (v1 (List.take l.length (List.drop (0 : Nat) l))) (65536 : Int)],
                          [y (v1 (List.take l.length (List.drop (0 : Nat) l))) (256 : Int)],
                          [y (v1 (List.take l.length (List.drop (0 : Nat) l))) (1 : Int)],
                          [y (v2 (List.take l.length (List.drop (0 : Nat) l))) (16777216 : Int)],
                          [y (v2 (List.take l.length (List.drop (0 : Nat) l))) (65536 : Int)],
                          [y (v2 (List.take l.length (List.drop (0 : Nat) l))) (256 : Int)],
                          [y (v2 (List.take l.length (List.drop (0 : Nat) l))) (1 : Int)],
                          [y (v3 (List.take l.length (List.drop (0 : Nat) l))) (256 : Int)],
                          [y (v3 (List.take l.length (List.drop (0 : Nat) l))) (1 : Int)],
                          [y (v4 (List.take l.length (List.drop (0 : Nat) l))) (256 : Int)],
                          [y (v4 (List.take l.length (List.drop (0 : Nat) l))) (1 : Int)],
                          [y (v5 (List.take l.length (List.drop (0 : Nat) l))) (1 : Int)]]
                        (List.take l.length (List.drop (0 : Nat) l)))))
                GT.stop)))
          GT.stop)
        GT.stop)
      GT.stop)
theorem e_lhb (g : Int → Int → Int → Int → Int → Bool) (au : List Row → Bool) (y : Int → Int → Int) (v1 v2 v3 v4 v5 ve : List Row → Int) (sm : List Row → List Row → Bool) (s d p q t : Int) (l : List Row) : ev (Gpk g au y v1 v2 v3 v4 v5 ve sm) 1 7 [hx s d p q t, .rows [.i .u8] l] = (T_lhb g au y v1 v2 v3 v4 v5 ve sm s d p q t l).opt := by kernel_rfl
theorem smV_refl (l : List Row) : smV l l = true := by
  unfold smV
  rw [sameF_refl (fun r => by unfold eq1; simp) l]
  simp
theorem au_pk (s d p q t : Int) : allU8 [[yS s 16777216], [yS s 65536], [yS s 256], [yS s 1], [yS d 16777216], [yS d 65536], [yS d 256], [yS d 1], [yS p 256], [yS p 1], [yS q 256], [yS q 1], [yS t 1]] = true := by
  have h : ∀ x k, byteR [yS x k] = true := fun x k => decide_eq_true (yS_U8 x k)
  simp only [allU8, List.all_cons, List.all_nil, h, Bool.and_self]
theorem packs {s d p q t : Int} (hs : U32 s) (hd : U32 d) (hp : U16 p) (hq : U16 q) (ht : U8 t) (l : List Row) (hu : allU8 l = true) : (T_lhk gdH allU8 yS q1 q2 q3 q4 q5 qe smV s d p q t l).opt = some (.bool true) := by
  have hg : gdH s d p q t = true := decide_eq_true ⟨hs, hd, hp, hq, ht⟩
  unfold T_lhk
  by_cases hl : 16777216 < (l.length : Int)
  · simp only [hl, decide_true]; rfl
  · have hw : IntKind.wrap .i64 ((l.length : Int) + 1) = ((l.length + 1 : Nat) : Int) := by rw [wrap_i64 (by omega) (by omega)]; simp
    have hn : ((l.length : Int)).toNat = l.length := by simp
    have hn1 : (((l.length + 1 : Nat) : Int)).toNat = l.length + 1 := by simp
    have hr := room_eq l 0 99
    have htk : List.take l.length (List.drop 0 l) = l := by simp
    have hlen : (cpR (List.replicate (l.length + 1) [(0 : Int)]) l 0 l.length).length = l.length + 1 := by
      have := congrArg List.length hr
      simpa [stR] using this
    rw [hw, hn, hn1, htk, hlen, Nat.zero_add, hr]
    have ht2 : List.take l.length (List.drop 0 (l ++ [[(99 : Int)]])) = l := by simp
    have hgd : (l ++ [[(99 : Int)]]).getD l.length [] = [99] := by simp [List.getD_eq_getElem?_getD]
    rw [ht2, hgd]
    have g1 : decide ((0 : Int) ≤ (l.length : Int) ∧ (l.length : Int) ≤ ((l.length + 1 : Nat) : Int) ∧ ((l.length + 1 : Nat) : Int) < 4000000000) = true := decide_eq_true (by omega)
    have g3 : decide ((0 : Int) ≤ (l.length : Int) ∧ (l.length : Int) < ((l.length + 1 : Nat) : Int)) = true := decide_eq_true (by omega)
    have g4 : decide ((0 : Int) ≤ ((l.length + 1 : Nat) : Int) ∧ ((l.length + 1 : Nat) : Int) ≤ ((l.length + 1 : Nat) : Int) - 0) = true := decide_eq_true (by omega)
    simp only [hl, decide_false, g1, g3, g4, hg, hu, smV_refl, BEq.rfl, Bool.and_true, List.getD_cons_zero]
    rfl
noncomputable def evHK (svs : List SV) : Option SV := ev (Gpk gdH allU8 yS q1 q2 q3 q4 q5 qe smV) 1 3 svs
theorem LHK.summ : Summ Try.prog 3 evHK := evFn_summ (facts Gpk_ok) 1 3
theorem all_z (z : List Int) (h : ∀ n ∈ z, U8 n) : allU8 (z.map fun n => ([n] : List Int)) = true := by
  refine List.all_eq_true.2 fun r hr => ?_
  obtain ⟨n, hn, rfl⟩ := List.mem_map.1 hr
  exact decide_eq_true (h n hn)
theorem LHK.ok (s d p q t : Int) (z : List Int) (hs : U32 s) (hd : U32 d) (hp : U16 p) (hq : U16 q) (ht : U8 t) (hz : ∀ n ∈ z, U8 n) : evHK [hx s d p q t, .rows [.i .u8] (z.map fun n => ([n] : List Int))] = some (.bool true) :=
  (e_lhk gdH allU8 yS q1 q2 q3 q4 q5 qe smV s d p q t _).trans (packs hs hd hp hq ht _ (all_z z hz))
theorem yb4 {a b c d : Int} (ha : U8 a) (hb : U8 b) (hc : U8 c) (hd : U8 d) : yS (a * 16777216 + b * 65536 + c * 256 + d) 16777216 = a ∧ yS (a * 16777216 + b * 65536 + c * 256 + d) 65536 = b ∧ yS (a * 16777216 + b * 65536 + c * 256 + d) 256 = c ∧ yS (a * 16777216 + b * 65536 + c * 256 + d) 1 = d := by
  unfold U8 at ha hb hc hd
  unfold yS
  simp only [w8, w64]
  rw [Int.emod_eq_of_lt (by omega) (show a * 16777216 + b * 65536 + c * 256 + d < 18446744073709551616 by omega)]
  simp only [Int.fdiv_eq_ediv_of_nonneg _ (show (0 : Int) ≤ 16777216 by omega), Int.fdiv_eq_ediv_of_nonneg _ (show (0 : Int) ≤ 65536 by omega), Int.fdiv_eq_ediv_of_nonneg _ (show (0 : Int) ≤ 256 by omega), Int.fdiv_eq_ediv_of_nonneg _ (show (0 : Int) ≤ 1 by omega)]
  omega
theorem yb2 {c d : Int} (hc : U8 c) (hd : U8 d) : yS (c * 256 + d) 256 = c ∧ yS (c * 256 + d) 1 = d := by
  unfold U8 at hc hd
  unfold yS
  simp only [w8, w64]
  rw [Int.emod_eq_of_lt (by omega) (show c * 256 + d < 18446744073709551616 by omega)]
  simp only [Int.fdiv_eq_ediv_of_nonneg _ (show (0 : Int) ≤ 256 by omega), Int.fdiv_eq_ediv_of_nonneg _ (show (0 : Int) ≤ 1 by omega)]
  omega
theorem q13 {a0 a1 a2 a3 a4 a5 a6 a7 a8 a9 a10 a11 a12 : Int} (h0 : U8 a0) (h1 : U8 a1) (h2 : U8 a2) (h3 : U8 a3) (h4 : U8 a4) (h5 : U8 a5) (h6 : U8 a6) (h7 : U8 a7) (h8 : U8 a8) (h9 : U8 a9) (h10 : U8 a10) (h11 : U8 a11) (L : List Row) (hL : L = [[a0], [a1], [a2], [a3], [a4], [a5], [a6], [a7], [a8], [a9], [a10], [a11], [a12]]) :
    q1 L = a0 * 16777216 + a1 * 65536 + a2 * 256 + a3 ∧ q2 L = a4 * 16777216 + a5 * 65536 + a6 * 256 + a7 ∧ q3 L = a8 * 256 + a9 ∧ q4 L = a10 * 256 + a11 ∧ q5 L = a12 ∧ qe L = 0 := by
  subst hL
  rw [← lo4 h0 h1 h2 h3, ← lo4 h4 h5 h6 h7, ← lo2 h8 h9, ← lo2 h10 h11]
  exact ⟨rfl, rfl, rfl, rfl, rfl, rfl⟩
theorem unp_pk {s d p q t : Int} (hs : U32 s) (hd : U32 d) (hp : U16 p) (hq : U16 q) (ht : U8 t) (L : List Row) (hL : L = pkR s d p q t) : q1 L = s ∧ q2 L = d ∧ q3 L = p ∧ q4 L = q ∧ q5 L = t ∧ qe L = 0 := by
  obtain ⟨a0, a1, a2, a3, u0, u1, u2, u3, es, e0, e1, e2, e3⟩ := bytes4 hs
  obtain ⟨a4, a5, a6, a7, u4, u5, u6, u7, ed, e4, e5, e6, e7⟩ := bytes4 hd
  obtain ⟨a8, a9, u8, u9, ep, e8, e9⟩ := bytes2 hp
  obtain ⟨a10, a11, u10, u11, eq, e10, e11⟩ := bytes2 hq
  have e12 := bytes1 ht
  unfold pkR at hL
  rw [e0, e1, e2, e3, e4, e5, e6, e7, e8, e9, e10, e11, e12] at hL
  rw [es, ed, ep, eq]
  exact q13 u0 u1 u2 u3 u4 u5 u6 u7 u8 u9 u10 u11 L hL
theorem len13z {z : List Int} (h : z.length = 13) : ∃ x0 x1 x2 x3 x4 x5 x6 x7 x8 x9 x10 x11 x12, z = [x0, x1, x2, x3, x4, x5, x6, x7, x8, x9, x10, x11, x12] := by
  match z, h with
  | [x0, x1, x2, x3, x4, x5, x6, x7, x8, x9, x10, x11, x12], _ => exact ⟨x0, x1, x2, x3, x4, x5, x6, x7, x8, x9, x10, x11, x12, rfl⟩
/-- 13 bytes and their header -/
theorem pk_un (z : List Int) (h : z.length = 13) (hz : ∀ n ∈ z, U8 n) (L : List Row) (hL : L = z.map fun n => ([n] : List Int)) : pkR (q1 L) (q2 L) (q3 L) (q4 L) (q5 L) = L ∧ gdH (q1 L) (q2 L) (q3 L) (q4 L) (q5 L) = true := by
  obtain ⟨a0, a1, a2, a3, a4, a5, a6, a7, a8, a9, a10, a11, a12, rfl⟩ := len13z h
  have h0 := hz a0 (by simp)
  have h1 := hz a1 (by simp)
  have h2 := hz a2 (by simp)
  have h3 := hz a3 (by simp)
  have h4 := hz a4 (by simp)
  have h5 := hz a5 (by simp)
  have h6 := hz a6 (by simp)
  have h7 := hz a7 (by simp)
  have h8 := hz a8 (by simp)
  have h9 := hz a9 (by simp)
  have h10 := hz a10 (by simp)
  have h11 := hz a11 (by simp)
  have h12 := hz a12 (by simp)
  obtain ⟨e1, e2, e3, e4, e5, _⟩ := q13 h0 h1 h2 h3 h4 h5 h6 h7 h8 h9 h10 h11 (a12 := a12) L (by rw [hL]; rfl)
  rw [e1, e2, e3, e4, e5]
  obtain ⟨f0, f1, f2, f3⟩ := yb4 h0 h1 h2 h3
  obtain ⟨f4, f5, f6, f7⟩ := yb4 h4 h5 h6 h7
  obtain ⟨f8, f9⟩ := yb2 h8 h9
  obtain ⟨f10, f11⟩ := yb2 h10 h11
  unfold pkR
  rw [f0, f1, f2, f3, f4, f5, f6, f7, f8, f9, f10, f11, bytes1 h12, hL]
  refine ⟨rfl, decide_eq_true ?_⟩
  unfold U8 at h0 h1 h2 h3 h4 h5 h6 h7 h8 h9 h10 h11
  exact ⟨⟨by omega, by omega⟩, ⟨by omega, by omega⟩, ⟨by omega, by omega⟩, ⟨by omega, by omega⟩, h12⟩
theorem back {s d p q t : Int} (hs : U32 s) (hd : U32 d) (hp : U16 p) (hq : U16 q) (ht : U8 t) (z : List Int) (hz : ∀ n ∈ z, U8 n) (l : List Row) (hl0 : l = z.map fun n => ([n] : List Int)) : (T_lhb gdH allU8 yS q1 q2 q3 q4 q5 qe smV s d p q t l).opt = some (.bool true) := by
  have hg : gdH s d p q t = true := decide_eq_true ⟨hs, hd, hp, hq, ht⟩
  have hu : allU8 l = true := by rw [hl0]; exact all_z z hz
  have htk : List.take l.length (List.drop 0 l) = l := by simp
  obtain ⟨f1, f2, f3, f4, f5, f6⟩ := unp_pk hs hd hp hq ht _ rfl
  have hau := au_pk s d p q t
  unfold pkR at f1 f2 f3 f4 f5 f6
  unfold T_lhb
  by_cases hl : 16777216 < (l.length : Int)
  · simp only [hl, decide_true]; rfl
  rw [hg, hau, htk, hu, f1, f2, f3, f4, f5, f6]
  cases hb : Nat.beq l.length 13 with
  | true =>
    have hl13 := Nat.eq_of_beq_eq_true hb
    obtain ⟨k1, k2⟩ := pk_un z (by rw [hl0] at hl13; simpa using hl13) hz l hl0
    have he : qe l = 0 := by unfold qe; rw [hb]; rfl
    unfold pkR at k1
    rw [he, k1, k2, smV_refl, hl13]
    simp only [BEq.rfl, hl, decide_false]
    rfl
  | false =>
    have hl13 := Nat.ne_of_beq_eq_false hb
    have he : qe l = 60 := by unfold qe; rw [hb]; rfl
    have h3 : ((l.length : Int) == 13) = false := by rw [beq_eq_false_iff_ne]; omega
    rw [he, h3]
    simp only [BEq.rfl, hl, decide_false]
    rfl
noncomputable def evHB (svs : List SV) : Option SV := ev (Gpk gdH allU8 yS q1 q2 q3 q4 q5 qe smV) 1 7 svs
theorem LHB.summ : Summ Try.prog 7 evHB := evFn_summ (facts Gpk_ok) 1 7
theorem LHB.ok (s d p q t : Int) (z : List Int) (hs : U32 s) (hd : U32 d) (hp : U16 p) (hq : U16 q) (ht : U8 t) (hz : ∀ n ∈ z, U8 n) : evHB [hx s d p q t, .rows [.i .u8] (z.map fun n => ([n] : List Int))] = some (.bool true) :=
  (e_lhb gdH allU8 yS q1 q2 q3 q4 q5 qe smV s d p q t _).trans (back hs hd hp hq ht z hz _ rfl)
end Go.Sx.Mk


/- Layer 6: Bit and Turn of both; HeaderBits. -/
namespace Go.Sx.Mk
open Go.Proofs Go.RowKit
theorem Summ.pt {P : Program} {f : FuncId} {s : List SV → Option SV} (h : ∀ svs sv, s svs = some sv → ∃ s0, Summ P f s0 ∧ s0 svs = some sv) : Summ P f s := fun w args svs sv hs hr => by
  obtain ⟨s0, h1, h2⟩ := h svs sv hs
  exact h1 w args svs sv h2 hr
def pkI (y : Int → Int → Int) (s d p q t : Int) : List Int := [y s 16777216, y s 65536, y s 256, y s 1, y d 16777216, y d 65536, y d 256, y d 1, y p 256, y p 1, y q 256, y q 1, y t 1]
def pkRy (y : Int → Int → Int) (s d p q t : Int) : List Row := [[y s 16777216], [y s 65536], [y s 256], [y s 1], [y d 16777216], [y d 65536], [y d 256], [y d 1], [y p 256], [y p 1], [y q 256], [y q 1], [y t 1]]
theorem S_packed1 : SummT Try.prog 32 (sgH fun s d p q t => .when (gdH s d p q t) (.leaf (.agg [.int .u8 (yS s 16777216), .int .u8 (yS s 65536), .int .u8 (yS s 256), .int .u8 (yS s 1), .int .u8 (yS d 16777216), .int .u8 (yS d 65536), .int .u8 (yS d 256), .int .u8 (yS d 1), .int .u8 (yS p 256), .int .u8 (yS p 1), .int .u8 (yS q 256), .int .u8 (yS q 1), .int .u8 (yS t 1)]))) := sgH.summ S_packed (fun s d p q t sv h => by
  obtain ⟨h1, h2⟩ := GT.opt_when h
  obtain ⟨hs, hd, hp, hq, ht⟩ := of_decide_eq_true h1
  refine Eq.trans ?_ h2
  rw [bytes1 ht, ← by1_eq hs.1 hs.2, ← by1_eq hd.1 hd.2, ← by1_eq hp.1 (by omega), ← by1_eq hq.1 (by omega)]
  simp only [← byS_eq hs.1 hs.2, ← byS_eq hd.1 hd.2, ← byS_eq hp.1 (show p < 4294967296 by omega), ← byS_eq hq.1 (show q < 4294967296 by omega)]
  rfl)
noncomputable def Gbt (g : Int → Int → Int → Int → Int → Bool) (au : List Row → Bool) (y : Int → Int → Int) (v1 v2 v3 v4 v5 ve : List Row → Int) : FuncId → Option (List SV → GT SV)
  | 32 => some (sgH fun s d p q t => .when (g s d p q t) (.leaf (.agg [.int .u8 (y s 16777216), .int .u8 (y s 65536), .int .u8 (y s 256), .int .u8 (y s 1), .int .u8 (y d 16777216), .int .u8 (y d 65536), .int .u8 (y d 256), .int .u8 (y d 1), .int .u8 (y p 256), .int .u8 (y p 1), .int .u8 (y q 256), .int .u8 (y q 1), .int .u8 (y t 1)])))
  | 15 => some (sgH fun s d p q t => .leaf (.rows [.i .u8] [[y s 16777216], [y s 65536], [y s 256], [y s 1], [y d 16777216], [y d 65536], [y d 256], [y d 1], [y p 256], [y p 1], [y q 256], [y q 1], [y t 1]]))
  | 12 => some (sgB fun l => .when (au l) (.leaf (.tup [hx (v1 l) (v2 l) (v3 l) (v4 l) (v5 l), .int .i64 (ve l)])))
  | 13 => some (sgB fun l => .leaf (.tup [hx (v1 l) (v2 l) (v3 l) (v4 l) (v5 l), .int .i64 (ve l)]))
  | _ => none
theorem Gbt_ok : ∀ g s, Gbt gdH allU8 yS q1 q2 q3 q4 q5 qe g = some s → SummT Try.prog g s := fun g s h => by
  unfold Gbt at h
  split at h
  · cases h; exact S_packed1
  · cases h; exact S_rpack
  · cases h; exact S_unpack1
  · cases h; exact S_runpack1
  · cases h
noncomputable def Gst : FuncId → Option (List SV → GT SV)
  | 32 => some (fun _ => GT.stop)
  | 15 => some (fun _ => GT.stop)
  | _ => none
theorem Gst_ok : ∀ g s, Gst g = some s → SummT Try.prog g s := fun g s h => by
  unfold Gst at h
  split at h
  · cases h; exact merge_ok
  · cases h; exact merge_ok
  · cases h
noncomputable def T_bit0 (s d p q t i : Int) : GT SV := GT.br (decide (i < (0 : Int))) (GT.leaf (SV.tup [SV.int IntKind.i64 (0 : Int), SV.int IntKind.i64 (1 : Int)]))
    (GT.br (decide ((104 : Int) ≤ i)) (GT.leaf (SV.tup [SV.int IntKind.i64 (0 : Int), SV.int IntKind.i64 (1 : Int)]))
      GT.stop)
theorem e_bit0 (s d p q t i : Int) : ev Gst 2 25 [hx s d p q t, .int .i64 i] = (T_bit0 s d p q t i).opt := by kernel_rfl
noncomputable def T_rbit0 (s d p q t i : Int) : GT SV := GT.br (decide (i < (0 : Int))) (GT.leaf (SV.tup [SV.int IntKind.i64 (0 : Int), SV.int IntKind.i64 (1 : Int)]))
    (GT.br (decide ((103 : Int) < i)) (GT.leaf (SV.tup [SV.int IntKind.i64 (0 : Int), SV.int IntKind.i64 (1 : Int)]))
      GT.stop)
theorem e_rbit0 (s d p q t i : Int) : ev Gst 2 26 [hx s d p q t, .int .i64 i] = (T_rbit0 s d p q t i).opt := by kernel_rfl
noncomputable def T_turn0 (s d p q t i : Int) : GT SV := GT.br (decide (i < (0 : Int)))
    (GT.leaf
      (SV.tup
        [SV.agg
            [SV.int IntKind.u32 (0 : Int), SV.int IntKind.u32 (0 : Int), SV.int IntKind.u16 (0 : Int),
              SV.int IntKind.u16 (0 : Int), SV.int IntKind.u8 (0 : Int)],
          SV.int IntKind.i64 (1 : Int)]))
    (GT.br (decide ((104 : Int) ≤ i))
      (GT.leaf
        (SV.tup
          [SV.agg
              [SV.int IntKind.u32 (0 : Int), SV.int IntKind.u32 (0 : Int), SV.int IntKind.u16 (0 : Int),
                SV.int IntKind.u16 (0 : Int), SV.int IntKind.u8 (0 : Int)],
            SV.int IntKind.i64 (1 : Int)]))
      GT.stop)
theorem e_turn0 (s d p q t i : Int) : ev Gst 2 27 [hx s d p q t, .int .i64 i] = (T_turn0 s d p q t i).opt := by kernel_rfl
noncomputable def T_rturn0 (s d p q t i : Int) : GT SV := GT.br (decide (i < (0 : Int)))
    (GT.leaf
      (SV.tup
        [SV.agg
            [SV.int IntKind.u32 (0 : Int), SV.int IntKind.u32 (0 : Int), SV.int IntKind.u16 (0 : Int),
              SV.int IntKind.u16 (0 : Int), SV.int IntKind.u8 (0 : Int)],
          SV.int IntKind.i64 (1 : Int)]))
    (GT.br (decide ((103 : Int) < i))
      (GT.leaf
        (SV.tup
          [SV.agg
              [SV.int IntKind.u32 (0 : Int), SV.int IntKind.u32 (0 : Int), SV.int IntKind.u16 (0 : Int),
                SV.int IntKind.u16 (0 : Int), SV.int IntKind.u8 (0 : Int)],
            SV.int IntKind.i64 (1 : Int)]))
      GT.stop)
theorem e_rturn0 (s d p q t i : Int) : ev Gst 2 28 [hx s d p q t, .int .i64 i] = (T_rturn0 s d p q t i).opt := by kernel_rfl
theorem e_bits (g : Int → Int → Int → Int → Int → Bool) (au : List Row → Bool) (y : Int → Int → Int) (v1 v2 v3 v4 v5 ve : List Row → Int) (s d p q t : Int) : ((List.range 104).map fun (n : Nat) => ev (Gbt g au y v1 v2 v3 v4 v5 ve) 2 25 [hx s d p q t, .int .i64 (n : Int)]) =
    (List.range 104).map fun (n : Nat) => (GT.when (g s d p q t) (.leaf (.tup [.int .i64 (IntKind.wrap .i64 (Go.bits .and .u8 (((pkI y s d p q t).getD (n / 8) 0).fdiv ((2 ^ (7 - n % 8) : Nat) : Int)) 1)), .int .i64 0]))).opt := by kernel_rfl
theorem e_rbits (g : Int → Int → Int → Int → Int → Bool) (au : List Row → Bool) (y : Int → Int → Int) (v1 v2 v3 v4 v5 ve : List Row → Int) (s d p q t : Int) : ((List.range 104).map fun (n : Nat) => evFn Try.prog (Gbt g au y v1 v2 v3 v4 v5 ve) ents [15] nolp 2 26 [hx s d p q t, .int .i64 (n : Int)]) =
    (List.range 104).map fun (n : Nat) => (GT.leaf (.tup [.int .i64 (q6 ((pkI y s d p q t).getD (n / 8) 0) ((2 ^ (7 - n % 8) : Nat) : Int)), .int .i64 0])).opt := by kernel_rfl
def unL (v1 v2 v3 v4 v5 ve : List Row → Int) (l : List Row) : SV := .tup [hx (v1 l) (v2 l) (v3 l) (v4 l) (v5 l), .int .i64 (ve l)]
theorem e_turns (g : Int → Int → Int → Int → Int → Bool) (au : List Row → Bool) (y : Int → Int → Int) (v1 v2 v3 v4 v5 ve : List Row → Int) (s d p q t : Int) : ((List.range 104).map fun (n : Nat) => ev (Gbt g au y v1 v2 v3 v4 v5 ve) 2 27 [hx s d p q t, .int .i64 (n : Int)]) =
    (List.range 104).map fun (n : Nat) => (GT.when (g s d p q t) (GT.when (au ((pkRy y s d p q t).set (n / 8) [Go.bits .xor .u8 ((pkI y s d p q t).getD (n / 8) 0) ((2 ^ (7 - n % 8) : Nat) : Int)])) (.leaf (unL v1 v2 v3 v4 v5 ve ((pkRy y s d p q t).set (n / 8) [Go.bits .xor .u8 ((pkI y s d p q t).getD (n / 8) 0) ((2 ^ (7 - n % 8) : Nat) : Int)]))))).opt := by kernel_rfl
theorem e_rturns (g : Int → Int → Int → Int → Int → Bool) (au : List Row → Bool) (y : Int → Int → Int) (v1 v2 v3 v4 v5 ve : List Row → Int) (s d p q t : Int) : ((List.range 104).map fun (n : Nat) => evFn Try.prog (Gbt g au y v1 v2 v3 v4 v5 ve) ents [15] nolp 2 28 [hx s d p q t, .int .i64 (n : Int)]) =
    (List.range 104).map fun (n : Nat) => (GT.br (q6 ((pkI y s d p q t).getD (n / 8) 0) ((2 ^ (7 - n % 8) : Nat) : Int) == 1)
      (.leaf (unL v1 v2 v3 v4 v5 ve ((pkRy y s d p q t).set (n / 8) [IntKind.wrap .u8 ((pkI y s d p q t).getD (n / 8) 0 - ((2 ^ (7 - n % 8) : Nat) : Int))])))
      (.leaf (unL v1 v2 v3 v4 v5 ve ((pkRy y s d p q t).set (n / 8) [IntKind.wrap .u8 ((pkI y s d p q t).getD (n / 8) 0 + ((2 ^ (7 - n % 8) : Nat) : Int))])))).opt := by kernel_rfl
end Go.Sx.Mk


/- Layer 6: Bit and Turn of both, by value; HeaderBits. -/
namespace Go.Sx.Mk
open Go.Proofs Go.RowKit
def inR (i : Int) : Bool := decide (0 ≤ i ∧ i ≤ 103)
def bv (s d p q t : Int) (n : Nat) : Int := q6 ((pkI yS s d p q t).getD (n / 8) 0) ((2 ^ (7 - n % 8) : Nat) : Int)
def bV (s d p q t i : Int) : Int := sure (inR i) (bv s d p q t i.toNat) 0
def bE (i : Int) : Int := sure (inR i) 0 1
def tnL (s d p q t : Int) (n : Nat) : List Row := (pkRy yS s d p q t).set (n / 8) [Go.bits .xor .u8 ((pkI yS s d p q t).getD (n / 8) 0) ((2 ^ (7 - n % 8) : Nat) : Int)]
def tV (f : List Row → Int) (s d p q t i : Int) : Int := sure (inR i) (f (tnL s d p q t i.toNat)) 0
theorem inR_of {i : Int} (h : inR i = true) : ∃ n : Nat, i = (n : Int) ∧ n < 104 := by
  have := of_decide_eq_true h
  obtain ⟨m, rfl⟩ := Int.eq_ofNat_of_zero_le this.1
  exact ⟨m, rfl, by omega⟩
theorem in_map {α : Type} {f g : Nat → α} (h : (List.range 104).map f = (List.range 104).map g) {n : Nat} (hn : n < 104) : f n = g n := List.map_inj_left.1 h n (by simpa using hn)
theorem pkI_U8 (s d p q t : Int) : ∀ x ∈ pkI yS s d p q t, U8 x := by
  intro x hx
  simp only [pkI, List.mem_cons, List.not_mem_nil, or_false] at hx
  rcases hx with rfl | rfl | rfl | rfl | rfl | rfl | rfl | rfl | rfl | rfl | rfl | rfl | rfl <;> exact yS_U8 _ _
theorem pkI_get (s d p q t : Int) (n : Nat) : U8 ((pkI yS s d p q t).getD n 0) := by
  rw [List.getD_eq_getElem?_getD]
  cases h : (pkI yS s d p q t)[n]? with
  | none => exact ⟨by decide, by decide⟩
  | some x => exact pkI_U8 s d p q t x (List.mem_of_getElem? h)
/-- a byte and one of its bits -/
theorem bit_tab : ((List.range 256).all fun a => (List.range 8).all fun k => (IntKind.wrap .i64 (Go.bits .and .u8 (((a : Nat) : Int).fdiv ((2 ^ k : Nat) : Int)) 1) == q6 ((a : Nat) : Int) ((2 ^ k : Nat) : Int)) &&
    (Go.bits .xor .u8 ((a : Nat) : Int) ((2 ^ k : Nat) : Int) == sure (q6 ((a : Nat) : Int) ((2 ^ k : Nat) : Int) == 1) (IntKind.wrap .u8 (((a : Nat) : Int) - ((2 ^ k : Nat) : Int))) (IntKind.wrap .u8 (((a : Nat) : Int) + ((2 ^ k : Nat) : Int)))) &&
    decide (0 ≤ Go.bits .xor .u8 ((a : Nat) : Int) ((2 ^ k : Nat) : Int) ∧ Go.bits .xor .u8 ((a : Nat) : Int) ((2 ^ k : Nat) : Int) < 256)) = true := by kernel_rfl
theorem bit_of {a : Int} (h : U8 a) (n : Nat) : IntKind.wrap .i64 (Go.bits .and .u8 (a.fdiv ((2 ^ (7 - n % 8) : Nat) : Int)) 1) = q6 a ((2 ^ (7 - n % 8) : Nat) : Int) ∧
    Go.bits .xor .u8 a ((2 ^ (7 - n % 8) : Nat) : Int) = sure (q6 a ((2 ^ (7 - n % 8) : Nat) : Int) == 1) (IntKind.wrap .u8 (a - ((2 ^ (7 - n % 8) : Nat) : Int))) (IntKind.wrap .u8 (a + ((2 ^ (7 - n % 8) : Nat) : Int))) ∧ U8 (Go.bits .xor .u8 a ((2 ^ (7 - n % 8) : Nat) : Int)) := by
  obtain ⟨m, rfl, hm⟩ := nat_of h
  have h1 := List.all_eq_true.1 (List.all_eq_true.1 bit_tab m (by simpa using hm)) (7 - n % 8) (by simp; omega)
  rw [Bool.and_eq_true, Bool.and_eq_true] at h1
  have h2 := of_decide_eq_true h1.2
  exact ⟨eq_of_beq h1.1.1, eq_of_beq h1.1.2, h2⟩
theorem tn_U8 (s d p q t : Int) (n : Nat) : allU8 (tnL s d p q t n) = true := by
  refine List.all_eq_true.2 fun r hr => ?_
  rcases List.mem_or_eq_of_mem_set hr with h | h
  · exact List.all_eq_true.1 (au_pk s d p q t) r h
  · subst h
    exact decide_eq_true (bit_of (pkI_get s d p q t _) n).2.2
theorem S_bit : SummT Try.prog 25 (sgHI fun s d p q t i => .when (gdH s d p q t) (.leaf (.tup [.int .i64 (bV s d p q t i), .int .i64 (bE i)]))) := by
  have hA : ∀ s d p q t i sv, (GT.when (gdH s d p q t) (.leaf (SV.tup [.int .i64 (bV s d p q t i), .int .i64 (bE i)]))).opt = some sv → ∃ s0, Summ Try.prog 25 s0 ∧ s0 [hx s d p q t, .int .i64 i] = some sv := by
    intro s d p q t i sv h
    obtain ⟨h1, h2⟩ := GT.opt_when h
    cases hi : inR i with
    | true =>
      obtain ⟨n, rfl, hn⟩ := inR_of hi
      refine ⟨_, evFn_summ (facts Gbt_ok) 2 25, (in_map (e_bits gdH allU8 yS q1 q2 q3 q4 q5 qe s d p q t) hn).trans (Eq.trans ?_ h2)⟩
      unfold bV bE
      rw [hi, h1, (bit_of (pkI_get s d p q t (n / 8)) n).1]
      rfl
    | false =>
      refine ⟨_, evFn_summ (facts Gst_ok) 2 25, (e_bit0 s d p q t i).trans (Eq.trans ?_ h2)⟩
      have := of_decide_eq_false hi
      unfold T_bit0 bV bE
      rw [hi]
      by_cases h0 : i < 0
      · rw [decide_eq_true h0]; rfl
      · rw [decide_eq_false h0, decide_eq_true (show (104 : Int) ≤ i by omega)]; rfl
  refine Summ.pt fun svs sv h => ?_
  unfold sgHI at h
  split at h
  · exact hA _ _ _ _ _ _ _ h
  · cases h
theorem S_rbit : SummT Try.prog 26 (sgHI fun s d p q t i => .leaf (.tup [.int .i64 (bV s d p q t i), .int .i64 (bE i)])) := by
  have hA : ∀ s d p q t i sv, (GT.leaf (SV.tup [.int .i64 (bV s d p q t i), .int .i64 (bE i)])).opt = some sv → ∃ s0, Summ Try.prog 26 s0 ∧ s0 [hx s d p q t, .int .i64 i] = some sv := by
    intro s d p q t i sv h2
    cases hi : inR i with
    | true =>
      obtain ⟨n, rfl, hn⟩ := inR_of hi
      refine ⟨_, evFn_summ (facts Gbt_ok) 2 26, (in_map (e_rbits gdH allU8 yS q1 q2 q3 q4 q5 qe s d p q t) hn).trans (Eq.trans ?_ h2)⟩
      unfold bV bE
      rw [hi]
      rfl
    | false =>
      refine ⟨_, evFn_summ (facts Gst_ok) 2 26, (e_rbit0 s d p q t i).trans (Eq.trans ?_ h2)⟩
      have := of_decide_eq_false hi
      unfold T_rbit0 bV bE
      rw [hi]
      by_cases h0 : i < 0
      · rw [decide_eq_true h0]; rfl
      · rw [decide_eq_false h0, decide_eq_true (show (103 : Int) < i by omega)]; rfl
  refine Summ.pt fun svs sv h => ?_
  unfold sgHI at h
  split at h
  · exact hA _ _ _ _ _ _ _ h
  · cases h
theorem S_turn : SummT Try.prog 27 (sgHI fun s d p q t i => .when (gdH s d p q t) (.leaf (.tup [hx (tV q1 s d p q t i) (tV q2 s d p q t i) (tV q3 s d p q t i) (tV q4 s d p q t i) (tV q5 s d p q t i), .int .i64 (bE i)]))) := by
  have hA : ∀ s d p q t i sv, (GT.when (gdH s d p q t) (.leaf (SV.tup [hx (tV q1 s d p q t i) (tV q2 s d p q t i) (tV q3 s d p q t i) (tV q4 s d p q t i) (tV q5 s d p q t i), .int .i64 (bE i)]))).opt = some sv → ∃ s0, Summ Try.prog 27 s0 ∧ s0 [hx s d p q t, .int .i64 i] = some sv := by
    intro s d p q t i sv h
    obtain ⟨h1, h2⟩ := GT.opt_when h
    cases hi : inR i with
    | true =>
      obtain ⟨n, rfl, hn⟩ := inR_of hi
      refine ⟨_, evFn_summ (facts Gbt_ok) 2 27, (in_map (e_turns gdH allU8 yS q1 q2 q3 q4 q5 qe s d p q t) hn).trans (Eq.trans ?_ h2)⟩
      have hu := tn_U8 s d p q t n
      have hl : (tnL s d p q t n).length = 13 := by unfold tnL; rw [List.length_set]; rfl
      have he : qe (tnL s d p q t n) = 0 := by unfold qe; rw [hl]; rfl
      unfold tV bE
      rw [hi, h1]
      show (GT.when (allU8 (tnL s d p q t n)) (.leaf (unL q1 q2 q3 q4 q5 qe (tnL s d p q t n)))).opt = _
      rw [hu]
      unfold unL
      rw [he]
      rfl
    | false =>
      refine ⟨_, evFn_summ (facts Gst_ok) 2 27, (e_turn0 s d p q t i).trans (Eq.trans ?_ h2)⟩
      have := of_decide_eq_false hi
      unfold T_turn0 tV bE
      rw [hi]
      by_cases h0 : i < 0
      · rw [decide_eq_true h0]; rfl
      · rw [decide_eq_false h0, decide_eq_true (show (104 : Int) ≤ i by omega)]; rfl
  refine Summ.pt fun svs sv h => ?_
  unfold sgHI at h
  split at h
  · exact hA _ _ _ _ _ _ _ h
  · cases h
theorem S_rturn : SummT Try.prog 28 (sgHI fun s d p q t i => .leaf (.tup [hx (tV q1 s d p q t i) (tV q2 s d p q t i) (tV q3 s d p q t i) (tV q4 s d p q t i) (tV q5 s d p q t i), .int .i64 (bE i)])) := by
  have hA : ∀ s d p q t i sv, (GT.leaf (SV.tup [hx (tV q1 s d p q t i) (tV q2 s d p q t i) (tV q3 s d p q t i) (tV q4 s d p q t i) (tV q5 s d p q t i), .int .i64 (bE i)])).opt = some sv → ∃ s0, Summ Try.prog 28 s0 ∧ s0 [hx s d p q t, .int .i64 i] = some sv := by
    intro s d p q t i sv h2
    cases hi : inR i with
    | true =>
      obtain ⟨n, rfl, hn⟩ := inR_of hi
      refine ⟨_, evFn_summ (facts Gbt_ok) 2 28, (in_map (e_rturns gdH allU8 yS q1 q2 q3 q4 q5 qe s d p q t) hn).trans (Eq.trans ?_ h2)⟩
      have hl : (tnL s d p q t n).length = 13 := by unfold tnL; rw [List.length_set]; rfl
      have he : qe (tnL s d p q t n) = 0 := by unfold qe; rw [hl]; rfl
      have hx := (bit_of (pkI_get s d p q t (n / 8)) n).2.1
      have key : (GT.br (q6 ((pkI yS s d p q t).getD (n / 8) 0) ((2 ^ (7 - n % 8) : Nat) : Int) == 1)
          (.leaf (unL q1 q2 q3 q4 q5 qe ((pkRy yS s d p q t).set (n / 8) [IntKind.wrap .u8 ((pkI yS s d p q t).getD (n / 8) 0 - ((2 ^ (7 - n % 8) : Nat) : Int))])))
          (.leaf (unL q1 q2 q3 q4 q5 qe ((pkRy yS s d p q t).set (n / 8) [IntKind.wrap .u8 ((pkI yS s d p q t).getD (n / 8) 0 + ((2 ^ (7 - n % 8) : Nat) : Int))])))).opt = some (unL q1 q2 q3 q4 q5 qe (tnL s d p q t n)) := by
        unfold tnL
        rw [hx]
        cases (q6 ((pkI yS s d p q t).getD (n / 8) 0) ((2 ^ (7 - n % 8) : Nat) : Int) == 1) <;> rfl
      refine key.trans ?_
      unfold unL tV bE
      rw [hi, he]
      rfl
    | false =>
      refine ⟨_, evFn_summ (facts Gst_ok) 2 28, (e_rturn0 s d p q t i).trans (Eq.trans ?_ h2)⟩
      have := of_decide_eq_false hi
      unfold T_rturn0 tV bE
      rw [hi]
      by_cases h0 : i < 0
      · rw [decide_eq_true h0]; rfl
      · rw [decide_eq_false h0, decide_eq_true (show (103 : Int) < i by omega)]; rfl
  refine Summ.pt fun svs sv h => ?_
  unfold sgHI at h
  split at h
  · exact hA _ _ _ _ _ _ _ h
  · cases h
noncomputable def Ghb (g : Int → Int → Int → Int → Int → Bool) (b t1 t2 t3 t4 t5 : Int → Int → Int → Int → Int → Int → Int) (be : Int → Int) : FuncId → Option (List SV → GT SV)
  | 999999 => some (fun _ => GT.stop)
  | 11 => some (sg0 (.leaf (.bool true)))
  | 25 => some (sgHI fun s d p q t i => .when (g s d p q t) (.leaf (.tup [.int .i64 (b s d p q t i), .int .i64 (be i)])))
  | 26 => some (sgHI fun s d p q t i => .leaf (.tup [.int .i64 (b s d p q t i), .int .i64 (be i)]))
  | 27 => some (sgHI fun s d p q t i => .when (g s d p q t) (.leaf (.tup [hx (t1 s d p q t i) (t2 s d p q t i) (t3 s d p q t i) (t4 s d p q t i) (t5 s d p q t i), .int .i64 (be i)])))
  | 28 => some (sgHI fun s d p q t i => .leaf (.tup [hx (t1 s d p q t i) (t2 s d p q t i) (t3 s d p q t i) (t4 s d p q t i) (t5 s d p q t i), .int .i64 (be i)]))
  | _ => none
theorem Ghb_ok : ∀ g s, Ghb gdH bV (tV q1) (tV q2) (tV q3) (tV q4) (tV q5) bE g = some s → SummT Try.prog g s := fun g s h => by
  unfold Ghb at h
  split at h
  · cases h; exact merge_ok
  · cases h; exact S_awake
  · cases h; exact S_bit
  · cases h; exact S_rbit
  · cases h; exact S_turn
  · cases h; exact S_rturn
  · cases h
noncomputable def T_hbt (g : Int → Int → Int → Int → Int → Bool) (b t1 t2 t3 t4 t5 : Int → Int → Int → Int → Int → Int → Int) (be : Int → Int) (s d p q t i : Int) : GT SV := GT.br (g s d p q t)
    (GT.br (g s d p q t)
      (GT.leaf
        (SV.bool
          (b s d p q t i == b s d p q t i && be i == be i &&
              (t1 s d p q t i == t1 s d p q t i &&
                (t2 s d p q t i == t2 s d p q t i &&
                  (t3 s d p q t i == t3 s d p q t i &&
                    (t4 s d p q t i == t4 s d p q t i && (t5 s d p q t i == t5 s d p q t i && true))))) &&
            be i == be i)))
      GT.stop)
    GT.stop
theorem e_hbt (g : Int → Int → Int → Int → Int → Bool) (b t1 t2 t3 t4 t5 : Int → Int → Int → Int → Int → Int → Int) (be : Int → Int) (s d p q t i : Int) : ev (Ghb g b t1 t2 t3 t4 t5 be) 1 8 [hx s d p q t, .int .i64 i] = (T_hbt g b t1 t2 t3 t4 t5 be s d p q t i).opt := by kernel_rfl
theorem hbits {s d p q t : Int} (hs : U32 s) (hd : U32 d) (hp : U16 p) (hq : U16 q) (ht : U8 t) (i : Int) : (T_hbt gdH bV (tV q1) (tV q2) (tV q3) (tV q4) (tV q5) bE s d p q t i).opt = some (.bool true) := by
  have hg : gdH s d p q t = true := decide_eq_true ⟨hs, hd, hp, hq, ht⟩
  unfold T_hbt
  rw [hg]
  simp only [BEq.rfl, Bool.and_true]
  rfl
noncomputable def evHBt (svs : List SV) : Option SV := ev (Ghb gdH bV (tV q1) (tV q2) (tV q3) (tV q4) (tV q5) bE) 1 8 svs
theorem LHBt.summ : Summ Try.prog 8 evHBt := evFn_summ (facts Ghb_ok) 1 8
theorem LHBt.ok (s d p q t i : Int) (hs : U32 s) (hd : U32 d) (hp : U16 p) (hq : U16 q) (ht : U8 t) (_ : I64 i) : evHBt [hx s d p q t, .int .i64 i] = some (.bool true) := (e_hbt gdH bV (tV q1) (tV q2) (tV q3) (tV q4) (tV q5) bE s d p q t i).trans (hbits hs hd hp hq ht i)
end Go.Sx.Mk


/- Layer 6: HeaderOrders, its loops. -/
namespace Go.Sx.Mk
open Go.Proofs Go.RowKit
noncomputable def bodyoa : Code := bodyOf 9 [0,1,0,1,1,1,1,1]
def liveoa : List (Nat × Option (List CK)) := [(2, none), (3, none), (5, none), (6, none), (7, none), (8, none)]
def outoa : List (Nat × Option (List CK)) := [(2, none), (3, none), (7, none)]
def mkoa (s : Int) (d : Int) (p : Int) (q : Int) (t : Int) (s' : Int) (d' : Int) (p' : Int) (q' : Int) (t' : Int) (l : List Row) (m : List Row) (wt : Int) (i : Int) : St := ⟨sel 169 [2, 3, 5, 6, 7, 8] [.ptr 0 0, .ptr 1 0, .vw 2, .vw 3, .int .i64 wt, .int .i64 i], [.cells [.int .u32 s, .int .u32 d, .int .u16 p, .int .u16 q, .int .u8 t], .cells [.int .u32 s', .int .u32 d', .int .u16 p', .int .u16 q', .int .u8 t'], .vec true [.i .u8] l none, .vec true [.i .u8] m none]⟩
def finoa (s : Int) (d : Int) (p : Int) (q : Int) (t : Int) (s' : Int) (d' : Int) (p' : Int) (q' : Int) (t' : Int) (wt : Int) : St := ⟨sel 169 [2, 3, 7] [.ptr 0 0, .ptr 1 0, .int .i64 wt], [.cells [.int .u32 s, .int .u32 d, .int .u16 p, .int .u16 q, .int .u8 t], .cells [.int .u32 s', .int .u32 d', .int .u16 p', .int .u16 q', .int .u8 t']]⟩
structure Xoa where
  s : Int
  d : Int
  p : Int
  q : Int
  t : Int
  s' : Int
  d' : Int
  p' : Int
  q' : Int
  t' : Int
  l : List Row
  m : List Row
  wt : Int
  i : Int
def Xoa.st (x : Xoa) : St := mkoa x.s x.d x.p x.q x.t x.s' x.d' x.p' x.q' x.t' x.l x.m x.wt x.i
def pickoa : List SV → List Blk → Option Xoa
  | [.ptr 0 0, .ptr 1 0, .vw 2, .vw 3, .int .i64 wt, .int .i64 i], [.cells [.int .u32 s, .int .u32 d, .int .u16 p, .int .u16 q, .int .u8 t], .cells [.int .u32 s', .int .u32 d', .int .u16 p', .int .u16 q', .int .u8 t'], .vec true [.i .u8] l none, .vec true [.i .u8] m none] => some ⟨s, d, p, q, t, s', d', p', q', t', l, m, wt, i⟩
  | _, _ => none
theorem pickoa_ok : ∀ vals mem x, pickoa vals mem = some x → x.st = ⟨sel 169 [2, 3, 5, 6, 7, 8] vals, mem⟩ := by
  intro vals mem x h
  unfold pickoa at h
  split at h
  · cases h; rfl
  · cases h
theorem step_oa (again : St → Option (E × St)) (s d p q t s' d' p' q' t' : Int) (l m : List Row) (wt i : Int) : step Try.prog G0 ents [] 1 bodyoa liveoa outoa again (mkoa s d p q t s' d' p' q' t' l m wt i) = sure (decide (i < (13 : Int)))
    (sure (wt == (0 : Int))
      (sure (decide ((0 : Int) ≤ i ∧ i < (↑l.length : Int)))
        (sure (decide ((0 : Int) ≤ i ∧ i < (↑m.length : Int)))
          (sure
            (decide
              (List.getD (l.getD i.toNat []) (0 : Nat) (0 : Int) < List.getD (m.getD i.toNat []) (0 : Nat) (0 : Int)))
            (sure (decide ((0 : Int) ≤ i ∧ i < (↑l.length : Int)))
              (sure (decide ((0 : Int) ≤ i ∧ i < (↑m.length : Int)))
                (sure
                  (decide
                    (List.getD (m.getD i.toNat []) (0 : Nat) (0 : Int) <
                      List.getD (l.getD i.toNat []) (0 : Nat) (0 : Int)))
                  (again (mkoa s d p q t s' d' p' q' t' l m (1 : Int) (IntKind.i64.wrap (i + (1 : Int)))))
                  (again (mkoa s d p q t s' d' p' q' t' l m (-1 : Int) (IntKind.i64.wrap (i + (1 : Int))))))
                none)
              none)
            (sure (decide ((0 : Int) ≤ i ∧ i < (↑l.length : Int)))
              (sure (decide ((0 : Int) ≤ i ∧ i < (↑m.length : Int)))
                (sure
                  (decide
                    (List.getD (m.getD i.toNat []) (0 : Nat) (0 : Int) <
                      List.getD (l.getD i.toNat []) (0 : Nat) (0 : Int)))
                  (again (mkoa s d p q t s' d' p' q' t' l m (1 : Int) (IntKind.i64.wrap (i + (1 : Int)))))
                  (again (mkoa s d p q t s' d' p' q' t' l m wt (IntKind.i64.wrap (i + (1 : Int))))))
                none)
              none))
          none)
        none)
      (some (E.brk (0 : Nat), finoa s d p q t s' d' p' q' t' wt)))
    (some (E.brk (0 : Nat), finoa s d p q t s' d' p' q' t' wt)) := by kernel_rfl
def lexV : List Row → List Row → Int
  | x :: xs, y :: ys => sure (decide (x.getD 0 0 < y.getD 0 0)) (-1) (sure (decide (y.getD 0 0 < x.getD 0 0)) 1 (lexV xs ys))
  | _, _ => 0
noncomputable def Gl2 (g : Int → Int → Int → Int → Int → Bool) (b : Int → Int → Int → Int → Int → Int → Int) (be : Int → Int) : FuncId → Option (List SV → GT SV)
  | 25 => some (sgHI fun s d p q t i => .when (g s d p q t) (.leaf (.tup [.int .i64 (b s d p q t i), .int .i64 (be i)])))
  | _ => none
theorem Gl2_ok : ∀ g s, Gl2 gdH bV bE g = some s → SummT Try.prog g s := fun g s h => by
  unfold Gl2 at h
  split at h
  · cases h; exact S_bit
  · cases h
noncomputable def bodyob : Code := bodyOf 9 [0,1,0,1,1,1,1,1,1,1,1,1,1,1,1]
def liveob : List (Nat × Option (List CK)) := [(2, none), (3, none), (9, none), (10, none), (11, none), (12, none), (13, none), (14, none), (15, none)]
def outob : List (Nat × Option (List CK)) := [(2, none), (3, none), (4, none), (9, none), (10, none), (11, none), (12, none), (13, none), (14, none)]
def mkob (s : Int) (d : Int) (p : Int) (q : Int) (t : Int) (s' : Int) (d' : Int) (p' : Int) (q' : Int) (t' : Int) (c : Int) (n : Int) (pb : Int) (pe : Int) (qb : Int) (qq : Int) (i : Int) : St := ⟨sel 169 [2, 3, 9, 10, 11, 12, 13, 14, 15] [.ptr 0 0, .ptr 1 0, .int .i64 c, .int .i64 n, .int .i64 pb, .int .i64 pe, .int .i64 qb, .int .i64 qq, .int .i64 i], [.cells [.int .u32 s, .int .u32 d, .int .u16 p, .int .u16 q, .int .u8 t], .cells [.int .u32 s', .int .u32 d', .int .u16 p', .int .u16 q', .int .u8 t']]⟩
def finob (s : Int) (d : Int) (p : Int) (q : Int) (t : Int) (s' : Int) (d' : Int) (p' : Int) (q' : Int) (t' : Int) (c : Int) (n : Int) (pb : Int) (pe : Int) (qb : Int) (qq : Int) (r : SV) : St := ⟨sel 169 [2, 3, 4, 9, 10, 11, 12, 13, 14] [.ptr 0 0, .ptr 1 0, r, .int .i64 c, .int .i64 n, .int .i64 pb, .int .i64 pe, .int .i64 qb, .int .i64 qq], [.cells [.int .u32 s, .int .u32 d, .int .u16 p, .int .u16 q, .int .u8 t], .cells [.int .u32 s', .int .u32 d', .int .u16 p', .int .u16 q', .int .u8 t']]⟩
structure Xob where
  s : Int
  d : Int
  p : Int
  q : Int
  t : Int
  s' : Int
  d' : Int
  p' : Int
  q' : Int
  t' : Int
  c : Int
  n : Int
  pb : Int
  pe : Int
  qb : Int
  qq : Int
  i : Int
def Xob.st (x : Xob) : St := mkob x.s x.d x.p x.q x.t x.s' x.d' x.p' x.q' x.t' x.c x.n x.pb x.pe x.qb x.qq x.i
def pickob : List SV → List Blk → Option Xob
  | [.ptr 0 0, .ptr 1 0, .int .i64 c, .int .i64 n, .int .i64 pb, .int .i64 pe, .int .i64 qb, .int .i64 qq, .int .i64 i], [.cells [.int .u32 s, .int .u32 d, .int .u16 p, .int .u16 q, .int .u8 t], .cells [.int .u32 s', .int .u32 d', .int .u16 p', .int .u16 q', .int .u8 t']] => some ⟨s, d, p, q, t, s', d', p', q', t', c, n, pb, pe, qb, qq, i⟩
  | _, _ => none
theorem pickob_ok : ∀ vals mem x, pickob vals mem = some x → x.st = ⟨sel 169 [2, 3, 9, 10, 11, 12, 13, 14, 15] vals, mem⟩ := by
  intro vals mem x h
  unfold pickob at h
  split at h
  · cases h; rfl
  · cases h
theorem step_ob (again : St → Option (E × St)) (g : Int → Int → Int → Int → Int → Bool) (b : Int → Int → Int → Int → Int → Int → Int) (be : Int → Int) (s d p q t s' d' p' q' t' c n pb pe qb qq i : Int) : step Try.prog (Gl2 g b be) ents [] 1 bodyob liveob outob again (mkob s d p q t s' d' p' q' t' c n pb pe qb qq i) = sure (decide (i < n))
    (sure (g s d p q t)
      (sure (g s' d' p' q' t')
        (sure (b s d p q t i != b s' d' p' q' t' i)
          (some (E.ret, finob s d p q t s' d' p' q' t' c n pb pe qb qq (SV.bool false)))
          (again (mkob s d p q t s' d' p' q' t' c n pb pe qb qq (IntKind.i64.wrap (i + (1 : Int))))))
        none)
      none)
    (some (E.brk (2 : Nat), finob s d p q t s' d' p' q' t' c n pb pe qb qq SV.poison)) := by kernel_rfl
theorem end_oa (s d p q t s' d' p' q' t' : Int) (l m : List Row) (wt i : Int) (h : (wt == 0) = false) (n : Nat) : loopN (step Try.prog G0 ents [] 1 bodyoa liveoa outoa) (n + 1) (mkoa s d p q t s' d' p' q' t' l m wt i) = some (.brk 0, finoa s d p q t s' d' p' q' t' wt) := by
  rw [loopN_succ]
  rw [step_oa, h]
  cases decide (i < 13) <;> rfl
set_option maxHeartbeats 1000000 in
theorem run_oa (s d p q t s' d' p' q' t' : Int) : ∀ (rs rr pre prr : List Row), prr.length = pre.length → rs.length = rr.length → (pre ++ rs).length = 13 →
    loopN (step Try.prog G0 ents [] 1 bodyoa liveoa outoa) (rs.length + 2) (mkoa s d p q t s' d' p' q' t' (pre ++ rs) (prr ++ rr) 0 (pre.length : Nat)) = some (.brk 0, finoa s d p q t s' d' p' q' t' (lexV rs rr))
  | [], rr, pre, prr, hp, _, h13 => by
    rw [show ([] : List Row).length + 2 = 1 + 1 from rfl, loopN_succ]
    rw [step_oa, decide_eq_false (show ¬ ((pre.length : Nat) : Int) < 13 by simp at h13; omega)]
    rfl
  | x :: rs, [], pre, prr, _, h, _ => by simp at h
  | x :: rs, y :: rr, pre, prr, hp, h, h13 => by
    rw [show (x :: rs).length + 2 = (rs.length + 2) + 1 from rfl, loopN_succ]
    have hl : pre.length + rs.length + 1 = 13 := by simp at h13; omega
    have h0 : ((pre.length : Nat) : Int) < 13 := by omega
    have h1 : (0 : Int) ≤ ((pre.length : Nat) : Int) ∧ ((pre.length : Nat) : Int) < (((pre ++ x :: rs).length : Nat) : Int) := ⟨by omega, by rw [h13]; exact h0⟩
    have h2 : (0 : Int) ≤ ((pre.length : Nat) : Int) ∧ ((pre.length : Nat) : Int) < (((prr ++ y :: rr).length : Nat) : Int) := ⟨by omega, by simp [hp]; omega⟩
    have h3 : IntKind.wrap .i64 (((pre.length : Nat) : Int) + 1) = (((pre ++ [x]).length : Nat) : Int) := by rw [wrap_i64 (by omega) (by omega)]; simp
    have h5 : pre ++ x :: rs = (pre ++ [x]) ++ rs := by simp
    have h5' : prr ++ y :: rr = (prr ++ [y]) ++ rr := by simp
    have ih := run_oa s d p q t s' d' p' q' t' rs rr (pre ++ [x]) (prr ++ [y]) (by simp [hp]) (by simpa using h) (by rw [← h5]; exact h13)
    rw [← h5, ← h5'] at ih
    have g1 : (pre ++ x :: rs).getD (((pre.length : Nat) : Int)).toNat [] = x := mid_get0 pre x rs _ rfl
    have g2 : (prr ++ y :: rr).getD (((pre.length : Nat) : Int)).toNat [] = y := mid_get0 prr y rr _ hp.symm
    rw [step_oa, g1, g2, h3]
    simp only [h0, h1, h2, decide_true, and_self, lexV, BEq.rfl]
    by_cases c1 : x.getD 0 0 < y.getD 0 0
    · rw [decide_eq_true c1, decide_eq_false (show ¬ y.getD 0 0 < x.getD 0 0 by omega)]
      exact end_oa s d p q t s' d' p' q' t' _ _ (-1) _ rfl _
    · rw [decide_eq_false c1]
      by_cases c2 : y.getD 0 0 < x.getD 0 0
      · rw [decide_eq_true c2]
        exact end_oa s d p q t s' d' p' q' t' _ _ 1 _ rfl _
      · rw [decide_eq_false c2]
        exact ih
def okoa (l m : List Row) : Bool := Nat.beq l.length 13 && Nat.beq m.length 13
theorem loopoa : LoopOK Try.prog bodyoa (fun st => (sumT 169 [2, 3, 5, 6, 7, 8] pickoa (fun x => .when (x.i == 0 && (x.wt == 0 && okoa x.l x.m)) (.leaf (.brk 0, finoa x.s x.d x.p x.q x.t x.s' x.d' x.p' x.q' x.t' (lexV x.l x.m)))) st).opt) := by
  refine loop_one (imp := []) (facts G0_ok) 0 1 bodyoa (lpOK_none _) liveoa outoa 169 [2, 3, 5, 6, 7, 8] pickoa Xoa.st (fun x => x.i == 0 && (x.wt == 0 && okoa x.l x.m)) _ pickoa_ok ?_
  intro x h1 _
  simp only [okoa, Bool.and_eq_true] at h1
  obtain ⟨hi, hw, hl, hm⟩ := h1
  have h5 := run_oa x.s x.d x.p x.q x.t x.s' x.d' x.p' x.q' x.t' x.l x.m [] [] rfl (by rw [Nat.eq_of_beq_eq_true hl, Nat.eq_of_beq_eq_true hm]) (Nat.eq_of_beq_eq_true hl)
  refine ⟨x.l.length + 2, ?_⟩
  unfold Xoa.st
  rw [eq_of_beq hi, eq_of_beq hw]
  exact h5
def annoa (ok : List Row → List Row → Bool) (lx : List Row → List Row → Int) : Ann := ⟨liveoa, 0, some (sumT 169 [2, 3, 5, 6, 7, 8] pickoa (fun x => .when (x.i == 0 && (x.wt == 0 && ok x.l x.m)) (.leaf (.brk 0, finoa x.s x.d x.p x.q x.t x.s' x.d' x.p' x.q' x.t' (lx x.l x.m)))))⟩
/-- so many bits alike, from one on -/
def alB (s d p q t s' d' p' q' t' : Int) : Nat → Nat → Bool
  | _, 0 => true
  | i, r + 1 => sure (bV s d p q t (i : Nat) != bV s' d' p' q' t' (i : Nat)) false (alB s d p q t s' d' p' q' t' (i + 1) r)
def dlV (s d p q t s' d' p' q' t' n : Int) : Bool := alB s d p q t s' d' p' q' t' 0 n.toNat
set_option maxHeartbeats 1000000 in
theorem run_ob (s d p q t s' d' p' q' t' c pb pe qb qq : Int) (hg : gdH s d p q t = true) (hg' : gdH s' d' p' q' t' = true) : ∀ (r i : Nat), i + r ≤ 104 →
    loopN (step Try.prog (Gl2 gdH bV bE) ents [] 1 bodyob liveob outob) (r + 1) (mkob s d p q t s' d' p' q' t' c ((i + r : Nat) : Int) pb pe qb qq (i : Nat)) =
      some (if alB s d p q t s' d' p' q' t' i r then (.brk 2, finob s d p q t s' d' p' q' t' c ((i + r : Nat) : Int) pb pe qb qq .poison) else (.ret, finob s d p q t s' d' p' q' t' c ((i + r : Nat) : Int) pb pe qb qq (.bool false)))
  | 0, i, _ => by
    rw [loopN_succ]
    rw [step_ob, decide_eq_false (show ¬ ((i : Nat) : Int) < ((i + 0 : Nat) : Int) by omega)]
    rfl
  | r + 1, i, h => by
    rw [loopN_succ]
    have ih := run_ob s d p q t s' d' p' q' t' c pb pe qb qq hg hg' r (i + 1) (by omega)
    rw [show i + 1 + r = i + (r + 1) by omega] at ih
    rw [step_ob, hg, hg', decide_eq_true (show ((i : Nat) : Int) < ((i + (r + 1) : Nat) : Int) by omega)]
    rw [show IntKind.wrap .i64 (((i : Nat) : Int) + 1) = ((i + 1 : Nat) : Int) by rw [wrap_i64 (by omega) (by omega)]; simp]
    unfold alB
    cases (bV s d p q t ((i : Nat) : Int) != bV s' d' p' q' t' ((i : Nat) : Int)) with
    | true => rfl
    | false => exact ih
def okob (g : Int → Int → Int → Int → Int → Bool) (s d p q t s' d' p' q' t' n : Int) : Bool := decide (0 ≤ n ∧ n ≤ 104) && (g s d p q t && g s' d' p' q' t')
theorem loopob : LoopOK Try.prog bodyob (fun st => (sumT 169 [2, 3, 9, 10, 11, 12, 13, 14, 15] pickob (fun x => .when (x.i == 0 && okob gdH x.s x.d x.p x.q x.t x.s' x.d' x.p' x.q' x.t' x.n) (.br (dlV x.s x.d x.p x.q x.t x.s' x.d' x.p' x.q' x.t' x.n)
    (.leaf (.brk 2, finob x.s x.d x.p x.q x.t x.s' x.d' x.p' x.q' x.t' x.c x.n x.pb x.pe x.qb x.qq .poison)) (.leaf (.ret, finob x.s x.d x.p x.q x.t x.s' x.d' x.p' x.q' x.t' x.c x.n x.pb x.pe x.qb x.qq (.bool false))))) st).opt) := by
  refine loop_two (imp := []) (facts Gl2_ok) 0 1 bodyob (lpOK_none _) liveob outob 169 [2, 3, 9, 10, 11, 12, 13, 14, 15] pickob Xob.st (fun x => x.i == 0 && okob gdH x.s x.d x.p x.q x.t x.s' x.d' x.p' x.q' x.t' x.n) (fun x => dlV x.s x.d x.p x.q x.t x.s' x.d' x.p' x.q' x.t' x.n) _ _ pickob_ok ?_
  intro x h1 _
  simp only [okob, Bool.and_eq_true] at h1
  obtain ⟨hi, hn, hg, hg'⟩ := h1
  have hn := of_decide_eq_true hn
  obtain ⟨k, hk⟩ := Int.eq_ofNat_of_zero_le hn.1
  have h5 := run_ob x.s x.d x.p x.q x.t x.s' x.d' x.p' x.q' x.t' x.c x.pb x.pe x.qb x.qq hg hg' k 0 (by omega)
  refine ⟨k + 1, ?_⟩
  unfold Xob.st dlV
  rw [eq_of_beq hi, hk]
  rw [Nat.zero_add] at h5
  exact h5
def annob (ok : Int → Int → Int → Int → Int → Int → Int → Int → Int → Int → Int → Bool) (dl : Int → Int → Int → Int → Int → Int → Int → Int → Int → Int → Int → Bool) : Ann := ⟨liveob, 0, some (sumT 169 [2, 3, 9, 10, 11, 12, 13, 14, 15] pickob (fun x => .when (x.i == 0 && ok x.s x.d x.p x.q x.t x.s' x.d' x.p' x.q' x.t' x.n) (.br (dl x.s x.d x.p x.q x.t x.s' x.d' x.p' x.q' x.t' x.n)
    (.leaf (.brk 2, finob x.s x.d x.p x.q x.t x.s' x.d' x.p' x.q' x.t' x.c x.n x.pb x.pe x.qb x.qq .poison)) (.leaf (.ret, finob x.s x.d x.p x.q x.t x.s' x.d' x.p' x.q' x.t' x.c x.n x.pb x.pe x.qb x.qq (.bool false))))))⟩
noncomputable def Gor (g : Int → Int → Int → Int → Int → Bool) (g2 : Int → Int → Int → Int → Int → Int → Int → Int → Int → Int → Bool) (y : Int → Int → Int) (cm df : Int → Int → Int → Int → Int → Int → Int → Int → Int → Int → Int) (b t1 t2 t3 t4 t5 : Int → Int → Int → Int → Int → Int → Int) (be : Int → Int) : FuncId → Option (List SV → GT SV)
  | 999999 => some (fun _ => GT.stop)
  | 11 => some (sg0 (.leaf (.bool true)))
  | 14 => some (sgH fun s d p q t => .when (g s d p q t) (.leaf (.rows [.i .u8] [[y s 16777216], [y s 65536], [y s 256], [y s 1], [y d 16777216], [y d 65536], [y d 256], [y d 1], [y p 256], [y p 1], [y q 256], [y q 1], [y t 1]])))
  | 17 => some (sgHH fun s d p q t s' d' p' q' t' => .leaf (.int .i64 (cm s d p q t s' d' p' q' t')))
  | 19 => some (sgHH fun s d p q t s' d' p' q' t' => .when (g2 s d p q t s' d' p' q' t') (.leaf (.int .i64 (df s d p q t s' d' p' q' t'))))
  | 25 => some (sgHI fun s d p q t i => .when (g s d p q t) (.leaf (.tup [.int .i64 (b s d p q t i), .int .i64 (be i)])))
  | 27 => some (sgHI fun s d p q t i => .when (g s d p q t) (.leaf (.tup [hx (t1 s d p q t i) (t2 s d p q t i) (t3 s d p q t i) (t4 s d p q t i) (t5 s d p q t i), .int .i64 (be i)])))
  | 21 => some (sgH fun s d p q t => .leaf (.tup [hx (n1 s d p q t) (n2 d p q t) (n3 p q t) (n4 q t) (n5 t), .bool (nb s d p q t)]))
  | _ => none
theorem Gor_ok : ∀ g s, Gor gdH gdHH yS cm10 dif10 bV (tV q1) (tV q2) (tV q3) (tV q4) (tV q5) bE g = some s → SummT Try.prog g s := fun g s h => by
  unfold Gor at h
  split at h
  · cases h; exact merge_ok
  · cases h; exact S_awake
  · cases h; exact S_pack
  · cases h; exact S_cmp
  · cases h; exact S_dif
  · cases h; exact S_bit
  · cases h; exact S_turn
  · cases h; exact S_next
  · cases h
noncomputable def T_lho (g : Int → Int → Int → Int → Int → Bool) (g2 : Int → Int → Int → Int → Int → Int → Int → Int → Int → Int → Bool) (y : Int → Int → Int) (cm df : Int → Int → Int → Int → Int → Int → Int → Int → Int → Int → Int) (b t1 t2 t3 t4 t5 : Int → Int → Int → Int → Int → Int → Int) (be : Int → Int) (ok : List Row → List Row → Bool) (lx : List Row → List Row → Int) (okb dl : Int → Int → Int → Int → Int → Int → Int → Int → Int → Int → Int → Bool) (s d p q t s' d' p' q' t' : Int) : GT SV := GT.br (g s d p q t)
    (GT.br (g s' d' p' q' t')
      (GT.br
        (ok
          [[y s (16777216 : Int)], [y s (65536 : Int)], [y s (256 : Int)], [y s (1 : Int)], [y d (16777216 : Int)],
            [y d (65536 : Int)], [y d (256 : Int)], [y d (1 : Int)], [y p (256 : Int)], [y p (1 : Int)],
            [y q (256 : Int)], [y q (1 : Int)], [y t (1 : Int)]]
          [[y s' (16777216 : Int)], [y s' (65536 : Int)], [y s' (256 : Int)], [y s' (1 : Int)], [y d' (16777216 : Int)],
            [y d' (65536 : Int)], [y d' (256 : Int)], [y d' (1 : Int)], [y p' (256 : Int)], [y p' (1 : Int)],
            [y q' (256 : Int)], [y q' (1 : Int)], [y t' (1 : Int)]])
        (GT.br (g2 s d p q t s' d' p' q' t')
          (GT.br
            (cm s d p q t s' d' p' q' t' !=
                    lx
                      [[y s (16777216 : Int)], [y s (65536 : Int)], [y s (256 : Int)], [y s (1 : Int)],
                        [y d (16777216 : Int)], [y d (65536 : Int)], [y d (256 : Int)], [y d (1 : Int)],
                        [y p (256 : Int)], [y p (1 : Int)], [y q (256 : Int)], [y q (1 : Int)], [y t (1 : Int)]]
                      [[y s' (16777216 : Int)], [y s' (65536 : Int)], [y s' (256 : Int)], [y s' (1 : Int)],
                        [y d' (16777216 : Int)], [y d' (65536 : Int)], [y d' (256 : Int)], [y d' (1 : Int)],
                        [y p' (256 : Int)], [y p' (1 : Int)], [y q' (256 : Int)], [y q' (1 : Int)], [y t' (1 : Int)]] ||
                  !(df s d p q t s' d' p' q' t' == (-1 : Int)) ==
                      (s == s' && (d == d' && (p == p' && (q == q' && (t == t' && true))))) ||
                decide (df s d p q t s' d' p' q' t' < (-1 : Int)) ||
              decide ((103 : Int) < df s d p q t s' d' p' q' t'))
            (GT.leaf (SV.bool false))
            (GT.br (df s d p q t s' d' p' q' t' == (-1 : Int))
              (GT.leaf (SV.bool (cm s d p q t s' d' p' q' t' == (0 : Int))))
              (GT.br (g s d p q t)
                (GT.br (g s' d' p' q' t')
                  (GT.br (okb s d p q t s' d' p' q' t' (df s d p q t s' d' p' q' t'))
                    (GT.br (dl s d p q t s' d' p' q' t' (df s d p q t s' d' p' q' t'))
                      (GT.br (g s d p q t)
                        (GT.br
                          (ifB
                            (be (df s d p q t s' d' p' q' t') == (0 : Int) &&
                                    be (df s d p q t s' d' p' q' t') == (0 : Int) &&
                                  be (df s d p q t s' d' p' q' t') == (0 : Int) &&
                                b s d p q t (df s d p q t s' d' p' q' t') !=
                                  b s' d' p' q' t' (df s d p q t s' d' p' q' t') &&
                              (b s d p q t (df s d p q t s' d' p' q' t') == (0 : Int)) ==
                                (cm s d p q t s' d' p' q' t' == (-1 : Int)))
                            (g2 (t1 s d p q t (df s d p q t s' d' p' q' t'))
                              (t2 s d p q t (df s d p q t s' d' p' q' t')) (t3 s d p q t (df s d p q t s' d' p' q' t'))
                              (t4 s d p q t (df s d p q t s' d' p' q' t')) (t5 s d p q t (df s d p q t s' d' p' q' t'))
                              s' d' p' q' t')
                            true)
                          (GT.br
                            (ifB
                              (be (df s d p q t s' d' p' q' t') == (0 : Int) &&
                                        be (df s d p q t s' d' p' q' t') == (0 : Int) &&
                                      be (df s d p q t s' d' p' q' t') == (0 : Int) &&
                                    b s d p q t (df s d p q t s' d' p' q' t') !=
                                      b s' d' p' q' t' (df s d p q t s' d' p' q' t') &&
                                  (b s d p q t (df s d p q t s' d' p' q' t') == (0 : Int)) ==
                                    (cm s d p q t s' d' p' q' t' == (-1 : Int)) &&
                                df (t1 s d p q t (df s d p q t s' d' p' q' t'))
                                    (t2 s d p q t (df s d p q t s' d' p' q' t'))
                                    (t3 s d p q t (df s d p q t s' d' p' q' t'))
                                    (t4 s d p q t (df s d p q t s' d' p' q' t'))
                                    (t5 s d p q t (df s d p q t s' d' p' q' t')) s' d' p' q' t' !=
                                  df s d p q t s' d' p' q' t')
                              (g2 (t1 s d p q t (df s d p q t s' d' p' q' t'))
                                (t2 s d p q t (df s d p q t s' d' p' q' t'))
                                (t3 s d p q t (df s d p q t s' d' p' q' t'))
                                (t4 s d p q t (df s d p q t s' d' p' q' t'))
                                (t5 s d p q t (df s d p q t s' d' p' q' t')) s d p q t)
                              true)
                            (GT.leaf
                              (SV.bool
                                (be (df s d p q t s' d' p' q' t') == (0 : Int) &&
                                            be (df s d p q t s' d' p' q' t') == (0 : Int) &&
                                          be (df s d p q t s' d' p' q' t') == (0 : Int) &&
                                        b s d p q t (df s d p q t s' d' p' q' t') !=
                                          b s' d' p' q' t' (df s d p q t s' d' p' q' t') &&
                                      (b s d p q t (df s d p q t s' d' p' q' t') == (0 : Int)) ==
                                        (cm s d p q t s' d' p' q' t' == (-1 : Int)) &&
                                    df (t1 s d p q t (df s d p q t s' d' p' q' t'))
                                        (t2 s d p q t (df s d p q t s' d' p' q' t'))
                                        (t3 s d p q t (df s d p q t s' d' p' q' t'))
                                        (t4 s d p q t (df s d p q t s' d' p' q' t'))
                                        (t5 s d p q t (df s d p q t s' d' p' q' t')) s' d' p' q' t' !=
                                      df s d p q t s' d' p' q' t' &&
                                  df (t1 s d p q t (df s d p q t s' d' p' q' t'))
                                      (t2 s d p q t (df s d p q t s' d' p' q' t'))
                                      (t3 s d p q t (df s d p q t s' d' p' q' t'))
                                      (t4 s d p q t (df s d p q t s' d' p' q' t'))
                                      (t5 s d p q t (df s d p q t s' d' p' q' t')) s d p q t ==
                                    df s d p q t s' d' p' q' t')))
                            GT.stop)
                          GT.stop)
                        GT.stop)
                      (GT.leaf (SV.bool false)))
                    GT.stop)
                  GT.stop)
                GT.stop)))
          GT.stop)
        GT.stop)
      GT.stop)
    GT.stop
theorem e_lho (g : Int → Int → Int → Int → Int → Bool) (g2 : Int → Int → Int → Int → Int → Int → Int → Int → Int → Int → Bool) (y : Int → Int → Int) (cm df : Int → Int → Int → Int → Int → Int → Int → Int → Int → Int → Int) (b t1 t2 t3 t4 t5 : Int → Int → Int → Int → Int → Int → Int) (be : Int → Int) (ok : List Row → List Row → Bool) (lx : List Row → List Row → Int) (okb dl : Int → Int → Int → Int → Int → Int → Int → Int → Int → Int → Int → Bool) (s d p q t s' d' p' q' t' : Int) : evFn Try.prog (Gor g g2 y cm df b t1 t2 t3 t4 t5 be) ents [] (lpL [(9, [0, 1, 0, 1, 1, 1, 1, 1], annoa ok lx), (9, [0, 1, 0, 1, 1, 1, 1, 1, 1, 1, 1, 1, 1, 1, 1], annob okb dl)]) 1 9 [hx s d p q t, hx s' d' p' q' t'] = (T_lho g g2 y cm df b t1 t2 t3 t4 t5 be ok lx okb dl s d p q t s' d' p' q' t').opt := by kernel_rfl
end Go.Sx.Mk


/- Layer 6: the order of headers is that of their bytes; the first bit in which they differ. -/
namespace Go.Sx.Mk
open Go.Proofs Go.RowKit
def val : List Int → Int
  | [] => 0
  | x :: l => x * 256 ^ l.length + val l
def lexI : List Int → List Int → Int
  | x :: xs, y :: ys => sure (decide (x < y)) (-1) (sure (decide (y < x)) 1 (lexI xs ys))
  | _, _ => 0
def AllU (l : List Int) : Prop := ∀ x ∈ l, U8 x
theorem AllU.tail {x : Int} {l : List Int} (h : AllU (x :: l)) : AllU l := fun y hy => h y (by simp [hy])
theorem val_lt : ∀ (l : List Int), AllU l → 0 ≤ val l ∧ val l < 256 ^ l.length
  | [], _ => by simp [val]
  | x :: l, h => by
    have hx := h x (by simp)
    have ih := val_lt l h.tail
    simp only [val, List.length_cons, Int.pow_succ]
    have hp : (0 : Int) < 256 ^ l.length := Int.pow_pos (by omega)
    obtain ⟨hx0, hx1⟩ := hx
    have h1 : 0 ≤ x * 256 ^ l.length := Int.mul_nonneg hx0 (by omega)
    have h2 : x * 256 ^ l.length ≤ 255 * 256 ^ l.length := Int.mul_le_mul_of_nonneg_right (by omega) (by omega)
    omega
theorem cmpV_lt {a b : Int} (h : a < b) : cmpV a b = -1 := by unfold cmpV; rw [decide_eq_true h]; rfl
theorem cmpV_gt {a b : Int} (h : b < a) : cmpV a b = 1 := by unfold cmpV; rw [decide_eq_false (by omega), decide_eq_true h]; rfl
theorem cmpV_eq (a : Int) : cmpV a a = 0 := by unfold cmpV; rw [decide_eq_false (by omega)]; rfl
theorem lexI_val : ∀ (X Y : List Int), X.length = Y.length → AllU X → AllU Y → lexI X Y = cmpV (val X) (val Y)
  | [], [], _, _, _ => rfl
  | [], _ :: _, h, _, _ => by simp at h
  | _ :: _, [], h, _, _ => by simp at h
  | x :: X, y :: Y, h, hx, hy => by
    have hl : X.length = Y.length := by simpa using h
    have ih := lexI_val X Y hl hx.tail hy.tail
    have vx := val_lt X hx.tail
    have vy := val_lt Y hy.tail
    have hp : (0 : Int) < 256 ^ X.length := Int.pow_pos (by omega)
    rw [← hl] at vy
    simp only [lexI, val]
    rw [← hl]
    have key : ∀ a b : Int, a < b → a * 256 ^ X.length + 256 ^ X.length ≤ b * 256 ^ X.length := fun a b hab => by
      have := Int.mul_le_mul_of_nonneg_right (show a + 1 ≤ b by omega) (show (0 : Int) ≤ 256 ^ X.length by omega)
      rw [Int.add_mul, Int.one_mul] at this
      exact this
    by_cases c1 : x < y
    · rw [decide_eq_true c1]
      have := key x y c1
      exact (cmpV_lt (by omega)).symm
    · rw [decide_eq_false c1]
      by_cases c2 : y < x
      · rw [decide_eq_true c2]
        have := key y x c2
        exact (cmpV_gt (by omega)).symm
      · rw [decide_eq_false c2]
        have : x = y := by omega
        subst this
        show lexI X Y = _
        rw [ih]
        unfold cmpV
        rw [show decide (x * 256 ^ X.length + val X < x * 256 ^ X.length + val Y) = decide (val X < val Y) by simp, show decide (x * 256 ^ X.length + val Y < x * 256 ^ X.length + val X) = decide (val Y < val X) by simp]
theorem lexV_rows : ∀ (X Y : List Int), lexV (X.map fun n => [n]) (Y.map fun n => [n]) = lexI X Y
  | [], _ => rfl
  | _ :: _, [] => rfl
  | x :: X, y :: Y => by
    simp only [List.map_cons, lexV, lexI, List.getD_cons_zero]
    rw [lexV_rows X Y]
def numH (s d p q t : Int) : Int := s * 4722366482869645213696 + d * 1099511627776 + p * 16777216 + q * 256 + t
theorem val_pk {s d p q t : Int} (hs : U32 s) (hd : U32 d) (hp : U16 p) (hq : U16 q) (ht : U8 t) : val (pkI yS s d p q t) = numH s d p q t := by
  obtain ⟨a0, a1, a2, a3, u0, u1, u2, u3, es, e0, e1, e2, e3⟩ := bytes4 hs
  obtain ⟨a4, a5, a6, a7, u4, u5, u6, u7, ed, e4, e5, e6, e7⟩ := bytes4 hd
  obtain ⟨a8, a9, u8, u9, ep, e8, e9⟩ := bytes2 hp
  obtain ⟨a10, a11, u10, u11, eq, e10, e11⟩ := bytes2 hq
  have e12 := bytes1 ht
  unfold pkI
  rw [e0, e1, e2, e3, e4, e5, e6, e7, e8, e9, e10, e11, e12]
  unfold numH
  rw [es, ed, ep, eq]
  simp only [val, List.length_cons, List.length_nil]
  omega
theorem pkI_all (s d p q t : Int) : AllU (pkI yS s d p q t) := pkI_U8 s d p q t
theorem or5_lex {s d p q t s' d' p' q' t' : Int} (hs : U32 s) (hd : U32 d) (hp : U16 p) (hq : U16 q) (ht : U8 t) (hs' : U32 s') (hd' : U32 d') (hp' : U16 p') (hq' : U16 q') (ht' : U8 t') :
    cm10 s d p q t s' d' p' q' t' = cmpV (numH s d p q t) (numH s' d' p' q' t') := by
  unfold U32 at hs hd hs' hd'
  unfold U16 at hp hq hp' hq'
  unfold U8 at ht ht'
  unfold cm10
  generalize hN : numH s d p q t = N
  generalize hM : numH s' d' p' q' t' = M
  unfold numH at hN hM
  rcases Int.lt_trichotomy s s' with h | h | h
  · rw [cmpV_lt h, cmpV_lt (show N < M by omega)]; rfl
  · subst h
    rw [cmpV_eq]
    rcases Int.lt_trichotomy d d' with h | h | h
    · rw [cmpV_lt h, cmpV_lt (show N < M by omega)]; rfl
    · subst h
      rw [cmpV_eq]
      rcases Int.lt_trichotomy p p' with h | h | h
      · rw [cmpV_lt h, cmpV_lt (show N < M by omega)]; rfl
      · subst h
        rw [cmpV_eq]
        rcases Int.lt_trichotomy q q' with h | h | h
        · rw [cmpV_lt h, cmpV_lt (show N < M by omega)]; rfl
        · subst h
          rw [cmpV_eq]
          rcases Int.lt_trichotomy t t' with h | h | h
          · rw [cmpV_lt h, cmpV_lt (show N < M by omega)]; rfl
          · subst h
            rw [cmpV_eq, show N = M by omega, cmpV_eq]; rfl
          · rw [cmpV_gt h, cmpV_gt (show M < N by omega)]; rfl
        · rw [cmpV_gt h, cmpV_gt (show M < N by omega)]; rfl
      · rw [cmpV_gt h, cmpV_gt (show M < N by omega)]; rfl
    · rw [cmpV_gt h, cmpV_gt (show M < N by omega)]; rfl
  · rw [cmpV_gt h, cmpV_gt (show M < N by omega)]; rfl
theorem cm_lex {s d p q t s' d' p' q' t' : Int} (hs : U32 s) (hd : U32 d) (hp : U16 p) (hq : U16 q) (ht : U8 t) (hs' : U32 s') (hd' : U32 d') (hp' : U16 p') (hq' : U16 q') (ht' : U8 t') :
    cm10 s d p q t s' d' p' q' t' = lexI (pkI yS s d p q t) (pkI yS s' d' p' q' t') := by
  rw [lexI_val (pkI yS s d p q t) (pkI yS s' d' p' q' t') rfl (pkI_all s d p q t) (pkI_all s' d' p' q' t'), val_pk hs hd hp hq ht, val_pk hs' hd' hp' hq' ht']
  exact or5_lex hs hd hp hq ht hs' hd' hp' hq' ht'
/-! bits of lists of bytes -/
def bitAt (X : List Int) (i : Nat) : Int := q6 (X.getD (i / 8) 0) ((2 ^ (7 - i % 8) : Nat) : Int)
theorem bitAt_succ (x : Int) (X : List Int) (i : Nat) : bitAt (x :: X) (i + 8) = bitAt X i := by
  unfold bitAt
  rw [show (i + 8) / 8 = i / 8 + 1 by omega, show (i + 8) % 8 = i % 8 by omega]
  rfl
theorem bitAt_head (x : Int) (X : List Int) {i : Nat} (h : i < 8) : bitAt (x :: X) i = q6 x ((2 ^ (7 - i) : Nat) : Int) := by
  unfold bitAt
  rw [show i / 8 = 0 by omega, show i % 8 = i by omega]
  rfl
theorem q6_01 {a : Int} (h : U8 a) (k : Nat) : q6 a ((2 ^ k : Nat) : Int) = 0 ∨ q6 a ((2 ^ k : Nat) : Int) = 1 := by
  obtain ⟨m, rfl, hm⟩ := nat_of h
  rw [q6_eq hm]
  omega
theorem bitAt_01 {X : List Int} (h : AllU X) (i : Nat) : bitAt X i = 0 ∨ bitAt X i = 1 := by
  refine q6_01 ?_ _
  rw [List.getD_eq_getElem?_getD]
  cases hx : X[i / 8]? with
  | none => exact ⟨by decide, by decide⟩
  | some x => exact h x (List.mem_of_getElem? hx)
theorem q6_zero {a : Nat} (ha : a < 256) (k : Nat) : q6 a ((2 ^ k : Nat) : Int) = 0 ↔ a.testBit k = false := by
  rw [q6_eq ha, Nat.testBit_eq_decide_div_mod_eq]
  rcases Nat.mod_two_eq_zero_or_one (a / 2 ^ k) with h | h <;> rw [h] <;> simp
/-- the first one among eight -/
theorem fd_tab : ((List.range 255).all fun x => (x + 1).testBit (7 - (fdX (x + 1)).toNat) && decide (fdX (x + 1) = ((fdX (x + 1)).toNat : Int)) && decide ((fdX (x + 1)).toNat < 8) && ((List.range 8).all fun j => !decide (j < (fdX (x + 1)).toNat) || !(x + 1).testBit (7 - j))) = true := by kernel_rfl
theorem fd_spec {x : Nat} (h0 : x ≠ 0) (h : x < 256) : ∃ z : Nat, fdX x = (z : Int) ∧ z < 8 ∧ x.testBit (7 - z) = true ∧ ∀ j < z, x.testBit (7 - j) = false := by
  have := List.all_eq_true.1 fd_tab (x - 1) (by simp; omega)
  rw [show x - 1 + 1 = x by omega, Bool.and_eq_true, Bool.and_eq_true, Bool.and_eq_true] at this
  obtain ⟨⟨⟨h1, h2⟩, h3⟩, h4⟩ := this
  have h2 := of_decide_eq_true h2
  have h3 := of_decide_eq_true h3
  refine ⟨(fdX x).toNat, h2, h3, h1, fun j hj => ?_⟩
  have h5 := List.all_eq_true.1 h4 j (by simp; omega)
  rw [decide_eq_true hj] at h5
  simpa using h5
theorem lt_bit {a b : Nat} (k : Nat) (ha : a.testBit k = false) (hb : b.testBit k = true) (h : ∀ j, k < j → a.testBit j = b.testBit j) : a < b := by
  have hc : a / 2 ^ (k + 1) = b / 2 ^ (k + 1) := Nat.eq_of_testBit_eq fun i => by
    rw [Nat.testBit_div_two_pow, Nat.testBit_div_two_pow]
    exact h _ (by omega)
  rw [Nat.pow_succ, ← Nat.div_div_eq_div_mul, ← Nat.div_div_eq_div_mul] at hc
  rw [Nat.testBit_eq_decide_div_mod_eq] at ha hb
  have ha := of_decide_eq_false ha
  have hb := of_decide_eq_true hb
  refine Nat.lt_of_not_le fun hle => ?_
  have := Nat.div_le_div_right (c := 2 ^ k) hle
  omega
theorem byte_diff {a b : Nat} (ha : a < 256) (hb : b < 256) (hab : a ≠ b) : ∃ z : Nat, lz8 (Go.bits .xor .u8 a b) = (z : Int) ∧ z < 8 ∧ q6 a ((2 ^ (7 - z) : Nat) : Int) ≠ q6 b ((2 ^ (7 - z) : Nat) : Int) ∧ (∀ j < z, q6 a ((2 ^ (7 - j) : Nat) : Int) = q6 b ((2 ^ (7 - j) : Nat) : Int)) ∧ (q6 a ((2 ^ (7 - z) : Nat) : Int) = 0 ↔ a < b) := by
  have h0 := xor_ne hab
  have hx : a ^^^ b < 2 ^ 8 := Nat.xor_lt_two_pow (n := 8) ha hb
  obtain ⟨z, h1, h2, h3, h4⟩ := fd_spec h0 (by omega)
  have hne : q6 a ((2 ^ (7 - z) : Nat) : Int) ≠ q6 b ((2 ^ (7 - z) : Nat) : Int) := by
    have := q6_ne ha hb (7 - z)
    rw [h3] at this
    simpa using this
  have hbit : a.testBit (7 - z) ≠ b.testBit (7 - z) := by
    rw [Nat.testBit_xor] at h3
    intro e
    rw [e] at h3
    simp at h3
  have hup : ∀ k, 7 - z < k → a.testBit k = b.testBit k := by
    intro k hk
    by_cases h8 : k < 8
    · have := h4 (7 - k) (by omega)
      rw [show 7 - (7 - k) = k by omega, Nat.testBit_xor] at this
      cases h5 : a.testBit k <;> cases h6 : b.testBit k <;> rw [h5, h6] at this <;> simp at this <;> rfl
    · have h5 : 256 ≤ 2 ^ k := by have := Nat.pow_le_pow_right (n := 2) (by omega) (show 8 ≤ k by omega); omega
      rw [Nat.testBit_lt_two_pow (by omega), Nat.testBit_lt_two_pow (by omega)]
  refine ⟨z, ?_, h2, hne, ?_, ?_⟩
  · rw [bits_xor ha hb, lz_eq h0 (by omega), h1]
  · intro j hj
    have := q6_ne ha hb (7 - j)
    rw [h4 j hj] at this
    simpa using this
  · rw [q6_zero ha]
    constructor
    · intro h5
      refine lt_bit (7 - z) h5 ?_ hup
      rw [h5] at hbit
      cases h6 : b.testBit (7 - z) with
      | true => rfl
      | false => exact absurd h6.symm hbit
    · intro h5
      cases h6 : a.testBit (7 - z) with
      | false => rfl
      | true =>
        have h7 : b.testBit (7 - z) = false := by
          cases h8 : b.testBit (7 - z) with
          | false => rfl
          | true => exact absurd (h6.trans h8.symm) hbit
        have := lt_bit (7 - z) h7 h6 (fun k hk => (hup k hk).symm)
        omega
/-- Differ: no bit, or the first one in which two lists of bytes differ -/
theorem dfV_spec : ∀ (X Y : List Int) (n : Int), X.length = Y.length → AllU X → AllU Y →
    (dfV (List.zip X Y) n = -1 ∧ X = Y) ∨ ∃ i : Nat, i < 8 * X.length ∧ dfV (List.zip X Y) n = n + i ∧ bitAt X i ≠ bitAt Y i ∧ (∀ j < i, bitAt X j = bitAt Y j) ∧ (bitAt X i = 0 ↔ lexI X Y = -1)
  | [], [], n, _, _, _ => .inl ⟨rfl, rfl⟩
  | [], _ :: _, _, h, _, _ => by simp at h
  | _ :: _, [], _, h, _, _ => by simp at h
  | x :: X, y :: Y, n, h, hx, hy => by
    have hl : X.length = Y.length := by simpa using h
    by_cases hxy : x = y
    · subst hxy
      have e : dfV (List.zip (x :: X) (x :: Y)) n = dfV (List.zip X Y) (n + 8) := by
        simp only [List.zip_cons_cons, dfV, BEq.rfl, sure]
      have e2 : lexI (x :: X) (x :: Y) = lexI X Y := by
        simp only [lexI]
        rw [decide_eq_false (Int.lt_irrefl x)]
        rfl
      rcases dfV_spec X Y (n + 8) hl hx.tail hy.tail with ⟨h1, h2⟩ | ⟨i, h1, h2, h3, h4, h5⟩
      · exact .inl ⟨e.trans h1, by rw [h2]⟩
      · refine .inr ⟨i + 8, by simp; omega, by rw [e, h2]; omega, ?_, ?_, ?_⟩
        · rw [bitAt_succ, bitAt_succ]; exact h3
        · intro j hj
          by_cases h8 : j < 8
          · rw [bitAt_head _ _ h8, bitAt_head _ _ h8]
          · have := h4 (j - 8) (by omega)
            rw [← bitAt_succ x X, ← bitAt_succ x Y, show j - 8 + 8 = j by omega] at this
            exact this
        · rw [bitAt_succ, e2]; exact h5
    · obtain ⟨a, rfl, ha⟩ := nat_of (hx x (by simp))
      obtain ⟨b, rfl, hb⟩ := nat_of (hy y (by simp))
      have hab : a ≠ b := fun e => hxy (by rw [e])
      obtain ⟨z, h1, h2, h3, h4, h5⟩ := byte_diff ha hb hab
      refine .inr ⟨z, by simp; omega, ?_, ?_, ?_, ?_⟩
      · simp only [List.zip_cons_cons, dfV]
        rw [show ((a : Int) == (b : Int)) = false by rw [beq_eq_false_iff_ne]; exact hxy, h1]
        rfl
      · rw [bitAt_head _ _ h2, bitAt_head _ _ h2]; exact h3
      · intro j hj
        rw [bitAt_head _ _ (by omega), bitAt_head _ _ (by omega)]; exact h4 j hj
      · rw [bitAt_head _ _ h2, h5]
        simp only [lexI]
        by_cases c : (a : Int) < (b : Int)
        · rw [decide_eq_true c]
          exact ⟨fun _ => rfl, fun _ => by omega⟩
        · rw [decide_eq_false c, decide_eq_true (show (b : Int) < (a : Int) by omega)]
          exact ⟨fun h => absurd h (by omega), fun h => by cases h⟩
theorem dfV_uniq {X Y : List Int} (hl : X.length = Y.length) (hX : AllU X) (hY : AllU Y) {i : Nat} (h1 : bitAt X i ≠ bitAt Y i) (h2 : ∀ j < i, bitAt X j = bitAt Y j) : dfV (List.zip X Y) 0 = (i : Int) := by
  rcases dfV_spec X Y 0 hl hX hY with ⟨_, e⟩ | ⟨k, _, e, h3, h4, _⟩
  · exact absurd (by rw [e]) h1
  · rcases Nat.lt_trichotomy k i with h | h | h
    · exact absurd (h2 k h) h3
    · rw [e, h]; omega
    · exact absurd (h4 i h) h1
/-- a bit that is turned -/
theorem bit_turned {X : List Int} (hX : AllU X) {i : Nat} (hi : i < 8 * X.length) : (∀ j, bitAt (X.set (i / 8) (Go.bits .xor .u8 (X.getD (i / 8) 0) ((2 ^ (7 - i % 8) : Nat) : Int))) j = bitAt X j ↔ j ≠ i) := by
  intro j
  have hm : i / 8 < X.length := by omega
  have hb := hX (X.getD (i / 8) 0) (by rw [List.getD_eq_getElem?_getD, List.getElem?_eq_getElem hm]; exact List.getElem_mem hm)
  obtain ⟨a, ha, hlt⟩ := nat_of hb
  by_cases hj : j / 8 = i / 8
  · unfold bitAt
    have e1 : (X.set (i / 8) (Go.bits .xor .u8 (X.getD (i / 8) 0) ((2 ^ (7 - i % 8) : Nat) : Int))).getD (j / 8) 0 = Go.bits .xor .u8 (X.getD (i / 8) 0) ((2 ^ (7 - i % 8) : Nat) : Int) := by
      rw [hj]; simp [List.getD_eq_getElem?_getD, hm]
    have hp : 2 ^ (7 - i % 8) < 256 := by
      have := Nat.pow_le_pow_right (n := 2) (by omega) (show 7 - i % 8 ≤ 7 by omega)
      omega
    have hx : a ^^^ 2 ^ (7 - i % 8) < 2 ^ 8 := Nat.xor_lt_two_pow (n := 8) hlt hp
    rw [e1, hj, ha, bits_xor hlt hp]
    have := q6_ne (by omega) hlt (7 - j % 8) (a := a ^^^ 2 ^ (7 - i % 8)) (b := a)
    have e2 : (a ^^^ 2 ^ (7 - i % 8)) ^^^ a = 2 ^ (7 - i % 8) := by
      rw [Nat.xor_comm, ← Nat.xor_assoc, Nat.xor_self, Nat.zero_xor]
    rw [e2, Nat.testBit_two_pow] at this
    constructor
    · intro h e
      rw [h] at this
      simp only [bne_self_eq_false] at this
      have h7 : 7 - i % 8 = 7 - j % 8 := by rw [e]
      rw [decide_eq_true h7] at this
      cases this
    · intro h
      have h7 : ¬ (7 - i % 8 = 7 - j % 8) := by omega
      rw [decide_eq_false h7] at this
      simpa using this
  · have e1 : (X.set (i / 8) (Go.bits .xor .u8 (X.getD (i / 8) 0) ((2 ^ (7 - i % 8) : Nat) : Int))).getD (j / 8) 0 = X.getD (j / 8) 0 := by
      simp [List.getD_eq_getElem?_getD, List.getElem?_set_ne (Ne.symm hj)]
    unfold bitAt
    rw [e1]
    exact ⟨fun _ e => hj (by rw [e]), fun _ => rfl⟩
end Go.Sx.Mk


/- Layer 6: HeaderOrders. -/
namespace Go.Sx.Mk
open Go.Proofs Go.RowKit
theorem bV_at (s d p q t : Int) {i : Nat} (h : i < 104) : bV s d p q t (i : Int) = bitAt (pkI yS s d p q t) i := by
  have hi : inR (i : Int) = true := decide_eq_true ⟨by omega, by omega⟩
  unfold bV
  rw [hi]
  rfl
theorem bE_at {i : Nat} (h : i < 104) : bE (i : Int) = 0 := by
  have hi : inR (i : Int) = true := decide_eq_true ⟨by omega, by omega⟩
  unfold bE
  rw [hi]
  rfl
theorem alB_true (s d p q t s' d' p' q' t' : Int) : ∀ (r i : Nat), i + r ≤ 104 → (∀ j, j < i + r → bitAt (pkI yS s d p q t) j = bitAt (pkI yS s' d' p' q' t') j) → alB s d p q t s' d' p' q' t' i r = true
  | 0, i, _, _ => rfl
  | r + 1, i, h, hb => by
    unfold alB
    rw [bV_at s d p q t (i := i) (by omega), bV_at s' d' p' q' t' (i := i) (by omega), hb i (by omega), bne_self_eq_false]
    exact alB_true s d p q t s' d' p' q' t' r (i + 1) (by omega) (fun j hj => hb j (by omega))
theorem pkR_map (s d p q t : Int) : pkR s d p q t = (pkI yS s d p q t).map fun n => ([n] : List Int) := rfl
theorem pk_inj {s d p q t s' d' p' q' t' : Int} (hs : U32 s) (hd : U32 d) (hp : U16 p) (hq : U16 q) (ht : U8 t) (hs' : U32 s') (hd' : U32 d') (hp' : U16 p') (hq' : U16 q') (ht' : U8 t')
    (h : pkI yS s d p q t = pkI yS s' d' p' q' t') : s = s' ∧ d = d' ∧ p = p' ∧ q = q' ∧ t = t' := by
  obtain ⟨a1, a2, a3, a4, a5, _⟩ := unp_pk hs hd hp hq ht (pkR s d p q t) rfl
  obtain ⟨b1, b2, b3, b4, b5, _⟩ := unp_pk hs' hd' hp' hq' ht' (pkR s d p q t) (by rw [pkR_map, pkR_map, h])
  exact ⟨a1.symm.trans b1, a2.symm.trans b2, a3.symm.trans b3, a4.symm.trans b4, a5.symm.trans b5⟩
theorem map_inj {X Y : List Int} (h : (X.map fun n => ([n] : List Int)) = Y.map fun n => ([n] : List Int)) : X = Y := by
  have := congrArg (List.map fun r : List Int => r.getD 0 0) h
  rw [List.map_map, List.map_map, show ((fun r : List Int => r.getD 0 0) ∘ fun n => ([n] : List Int)) = id from rfl, List.map_id, List.map_id] at this
  exact this
/-- a header with one bit turned, as bytes -/
theorem turned {s d p q t : Int} {i : Nat} (hi : i < 104) : ∃ T : List Int, T = (pkI yS s d p q t).set (i / 8) (Go.bits .xor .u8 ((pkI yS s d p q t).getD (i / 8) 0) ((2 ^ (7 - i % 8) : Nat) : Int)) ∧ AllU T ∧ T.length = 13 ∧
    pkI yS (tV q1 s d p q t i) (tV q2 s d p q t i) (tV q3 s d p q t i) (tV q4 s d p q t i) (tV q5 s d p q t i) = T ∧ gdH (tV q1 s d p q t i) (tV q2 s d p q t i) (tV q3 s d p q t i) (tV q4 s d p q t i) (tV q5 s d p q t i) = true := by
  have hin : inR (i : Int) = true := decide_eq_true ⟨by omega, by omega⟩
  have hU : AllU ((pkI yS s d p q t).set (i / 8) (Go.bits .xor .u8 ((pkI yS s d p q t).getD (i / 8) 0) ((2 ^ (7 - i % 8) : Nat) : Int))) := by
    intro x hx
    rcases List.mem_or_eq_of_mem_set hx with h | h
    · exact pkI_all s d p q t x h
    · rw [h]; exact (bit_of (pkI_get s d p q t _) i).2.2
  have hlen : ((pkI yS s d p q t).set (i / 8) (Go.bits .xor .u8 ((pkI yS s d p q t).getD (i / 8) 0) ((2 ^ (7 - i % 8) : Nat) : Int))).length = 13 := by rw [List.length_set]; rfl
  have hL : tnL s d p q t i = ((pkI yS s d p q t).set (i / 8) (Go.bits .xor .u8 ((pkI yS s d p q t).getD (i / 8) 0) ((2 ^ (7 - i % 8) : Nat) : Int))).map fun n => ([n] : List Int) := by
    unfold tnL
    rw [List.map_set]
    rfl
  obtain ⟨k1, k2⟩ := pk_un _ hlen hU _ hL
  refine ⟨_, rfl, hU, hlen, ?_, ?_⟩
  · refine map_inj ?_
    rw [← pkR_map, ← hL]
    unfold tV
    rw [hin]
    exact k1
  · unfold tV
    rw [hin]
    exact k2
theorem orders {s d p q t s' d' p' q' t' : Int} (hs : U32 s) (hd : U32 d) (hp : U16 p) (hq : U16 q) (ht : U8 t) (hs' : U32 s') (hd' : U32 d') (hp' : U16 p') (hq' : U16 q') (ht' : U8 t') :
    (T_lho gdH gdHH yS cm10 dif10 bV (tV q1) (tV q2) (tV q3) (tV q4) (tV q5) bE okoa lexV (okob gdH) dlV s d p q t s' d' p' q' t').opt = some (.bool true) := by
  have a1 : gdH s d p q t = true := decide_eq_true ⟨hs, hd, hp, hq, ht⟩
  have a2 : gdH s' d' p' q' t' = true := decide_eq_true ⟨hs', hd', hp', hq', ht'⟩
  have g1 : gdHH s d p q t s' d' p' q' t' = true := by unfold gdHH; rw [a1, a2]; rfl
  have hcm := cm_lex hs hd hp hq ht hs' hd' hp' hq' ht'
  have hlx := lexV_rows (pkI yS s d p q t) (pkI yS s' d' p' q' t')
  rw [← hcm] at hlx
  have hok : okoa ((pkI yS s d p q t).map fun n => ([n] : List Int)) ((pkI yS s' d' p' q' t').map fun n => ([n] : List Int)) = true := rfl
  have hdf := dfV_spec (pkI yS s d p q t) (pkI yS s' d' p' q' t') 0 rfl (pkI_all s d p q t) (pkI_all s' d' p' q' t')
  have hdd : dif10 s d p q t s' d' p' q' t' = dfV (List.zip (pkI yS s d p q t) (pkI yS s' d' p' q' t')) 0 := rfl
  rw [← hdd] at hdf
  unfold pkI at hlx hok
  simp only [List.map_cons, List.map_nil] at hlx hok
  unfold T_lho
  rw [a1, a2, hok, hlx, g1, bne_self_eq_false, Bool.false_or]
  rcases hdf with ⟨h1, h2⟩ | ⟨i, h1, h2, h3, h4, h5⟩
  · obtain ⟨rfl, rfl, rfl, rfl, rfl⟩ := pk_inj hs hd hp hq ht hs' hd' hp' hq' ht' h2
    rw [h1, cm10_self]
    simp only [BEq.rfl]
    rfl
  · have hi : i < 104 := h1
    rw [Int.zero_add] at h2
    have hne : (s == s' && (d == d' && (p == p' && (q == q' && (t == t' && true))))) = false := by
      cases hb : (s == s' && (d == d' && (p == p' && (q == q' && (t == t' && true))))) with
      | false => rfl
      | true =>
        simp only [Bool.and_eq_true, beq_iff_eq] at hb
        obtain ⟨rfl, rfl, rfl, rfl, rfl, _⟩ := hb
        exact absurd rfl h3
    obtain ⟨T, hT, hTU, hTl, hTp, hTg⟩ := turned (s := s) (d := d) (p := p) (q := q) (t := t) hi
    have hbt := bit_turned (pkI_all s d p q t) (i := i) (by exact h1)
    rw [← hT] at hbt
    have k1 : dif10 (tV q1 s d p q t i) (tV q2 s d p q t i) (tV q3 s d p q t i) (tV q4 s d p q t i) (tV q5 s d p q t i) s d p q t = (i : Int) := by
      show dfV (List.zip (pkI yS (tV q1 s d p q t i) (tV q2 s d p q t i) (tV q3 s d p q t i) (tV q4 s d p q t i) (tV q5 s d p q t i)) (pkI yS s d p q t)) 0 = _
      rw [hTp]
      exact dfV_uniq hTl hTU (pkI_all s d p q t) (fun e => (hbt i).1 e rfl) (fun j hj => (hbt j).2 (by omega))
    have k2 : dif10 (tV q1 s d p q t i) (tV q2 s d p q t i) (tV q3 s d p q t i) (tV q4 s d p q t i) (tV q5 s d p q t i) s' d' p' q' t' ≠ (i : Int) := by
      show dfV (List.zip (pkI yS (tV q1 s d p q t i) (tV q2 s d p q t i) (tV q3 s d p q t i) (tV q4 s d p q t i) (tV q5 s d p q t i)) (pkI yS s' d' p' q' t')) 0 ≠ _
      rw [hTp]
      intro e
      rcases dfV_spec T (pkI yS s' d' p' q' t') 0 hTl hTU (pkI_all s' d' p' q' t') with ⟨e1, _⟩ | ⟨k, _, e1, e2, _, _⟩
      · rw [e1] at e; omega
      · have hk : k = i := by rw [e1] at e; omega
        subst hk
        have x1 := bitAt_01 (pkI_all s d p q t) k
        have x2 := bitAt_01 (pkI_all s' d' p' q' t') k
        have x3 := bitAt_01 hTU k
        have x4 : bitAt T k ≠ bitAt (pkI yS s d p q t) k := fun e => (hbt k).1 e rfl
        omega
    have g3 : gdHH (tV q1 s d p q t i) (tV q2 s d p q t i) (tV q3 s d p q t i) (tV q4 s d p q t i) (tV q5 s d p q t i) s' d' p' q' t' = true := by unfold gdHH; rw [hTg, a2]; rfl
    have g4 : gdHH (tV q1 s d p q t i) (tV q2 s d p q t i) (tV q3 s d p q t i) (tV q4 s d p q t i) (tV q5 s d p q t i) s d p q t = true := by unfold gdHH; rw [hTg, a1]; rfl
    have hokb : okob gdH s d p q t s' d' p' q' t' (i : Int) = true := by
      unfold okob
      rw [a1, a2, decide_eq_true (show (0 : Int) ≤ (i : Int) ∧ (i : Int) ≤ 104 from ⟨by omega, by omega⟩)]
      rfl
    have hdl : dlV s d p q t s' d' p' q' t' (i : Int) = true := alB_true s d p q t s' d' p' q' t' i 0 (by omega) (fun j hj => h4 j (by omega))
    have hb1 : (bV s d p q t (i : Int) != bV s' d' p' q' t' (i : Int)) = true := by
      rw [bV_at s d p q t hi, bV_at s' d' p' q' t' hi, bne_iff_ne]
      exact h3
    have hb2 : (bV s d p q t (i : Int) == 0) = (cm10 s d p q t s' d' p' q' t' == -1) := by
      rw [bV_at s d p q t hi, hcm]
      have := h5
      cases hx : (bitAt (pkI yS s d p q t) i == 0) with
      | true =>
        rw [beq_iff_eq] at hx
        rw [h5.1 hx]; rfl
      | false =>
        rw [beq_eq_false_iff_ne] at hx
        symm
        rw [beq_eq_false_iff_ne]
        exact fun e => hx (h5.2 e)
    have z1 : ((i : Int) == -1) = false := by rw [beq_eq_false_iff_ne]; omega
    have z2 : decide ((i : Int) < -1) = false := decide_eq_false (by omega)
    have z3 : decide ((103 : Int) < (i : Int)) = false := decide_eq_false (by omega)
    have k3 : (dif10 (tV q1 s d p q t i) (tV q2 s d p q t i) (tV q3 s d p q t i) (tV q4 s d p q t i) (tV q5 s d p q t i) s' d' p' q' t' != (i : Int)) = true := by rw [bne_iff_ne]; exact k2
    rw [h2, hne, z1, z2, z3, hokb, hdl, bE_at hi, g3, g4, k3, k1, hb1, hb2]
    simp only [BEq.rfl]
    rfl
noncomputable def evHO (svs : List SV) : Option SV := evFn Try.prog (Gor gdH gdHH yS cm10 dif10 bV (tV q1) (tV q2) (tV q3) (tV q4) (tV q5) bE) ents [] (lpL [(9, [0, 1, 0, 1, 1, 1, 1, 1], annoa okoa lexV), (9, [0, 1, 0, 1, 1, 1, 1, 1, 1, 1, 1, 1, 1, 1, 1], annob (okob gdH) dlV)]) 1 9 svs
theorem LHO.summ : Summ Try.prog 9 evHO := evFn_summ (factsL Gor_ok _ (fun x hx => by
  rcases List.mem_cons.1 hx with rfl | hx
  · exact fun s h => by cases h; exact loopoa
  · rw [List.mem_singleton] at hx
    subst hx
    exact fun s h => by cases h; exact loopob)) 1 9
theorem LHO.ok (s d p q t s' d' p' q' t' : Int) (hs : U32 s) (hd : U32 d) (hp : U16 p) (hq : U16 q) (ht : U8 t) (hs' : U32 s') (hd' : U32 d') (hp' : U16 p') (hq' : U16 q') (ht' : U8 t') : evHO [hx s d p q t, hx s' d' p' q' t'] = some (.bool true) :=
  (e_lho gdH gdHH yS cm10 dif10 bV (tV q1) (tV q2) (tV q3) (tV q4) (tV q5) bE okoa lexV (okob gdH) dlV s d p q t s' d' p' q' t').trans (orders hs hd hp hq ht hs' hd' hp' hq' ht')
end Go.Sx.Mk


/- Layer 6: HeaderSteps. -/
namespace Go.Sx.Mk
open Go.Proofs Go.RowKit
/-- so many bits are 1 -/
def onesF (b : Int → Int) (be : Int → Int) : Nat → Bool
  | 0 => true
  | n + 1 => onesF b be n && (b (n : Nat) == 1) && (be (n : Nat) == 0)
def nestG (g : Bool) : Nat → GT SV → GT SV
  | 0, t => t
  | n + 1, t => .br g (nestG g n t) .stop
noncomputable def Gsp (g : Int → Int → Int → Int → Int → Bool) (cm : Int → Int → Int → Int → Int → Int → Int → Int → Int → Int → Int) (b : Int → Int → Int → Int → Int → Int → Int) (be : Int → Int) (m : Int → Int → Int → Int → Int → Bool) (m1 m2 : Int → Int → Int → Int → Int → Int) (m3 : Int → Int → Int → Int) (m4 : Int → Int → Int) (m5 : Int → Int) : FuncId → Option (List SV → GT SV)
  | 999999 => some (fun _ => GT.stop)
  | 11 => some (sg0 (.leaf (.bool true)))
  | 17 => some (sgHH fun s d p q t s' d' p' q' t' => .leaf (.int .i64 (cm s d p q t s' d' p' q' t')))
  | 25 => some (sgHI fun s d p q t i => .when (g s d p q t) (.leaf (.tup [.int .i64 (b s d p q t i), .int .i64 (be i)])))
  | 21 => some (sgH fun s d p q t => .leaf (.tup [hx (m1 s d p q t) (m2 s d p q t) (m3 p q t) (m4 q t) (m5 t), .bool (m s d p q t)]))
  | _ => none
theorem Gsp_ok : ∀ g s, Gsp gdH cm10 bV bE nb n1 (fun _ d p q t => n2 d p q t) n3 n4 n5 g = some s → SummT Try.prog g s := fun g s h => by
  unfold Gsp at h
  split at h
  · cases h; exact merge_ok
  · cases h; exact S_awake
  · cases h; exact S_cmp
  · cases h; exact S_bit
  · cases h; exact S_next
  · cases h
noncomputable def T_lhs (g : Int → Int → Int → Int → Int → Bool) (cm : Int → Int → Int → Int → Int → Int → Int → Int → Int → Int → Int) (b : Int → Int → Int → Int → Int → Int → Int) (be : Int → Int) (m : Int → Int → Int → Int → Int → Bool) (m1 m2 : Int → Int → Int → Int → Int → Int) (m3 : Int → Int → Int → Int) (m4 : Int → Int → Int) (m5 : Int → Int) (s d p q t s' d' p' q' t' : Int) : GT SV :=
  nestG (g s d p q t) 104 (.br (m s d p q t == onesF (b s d p q t) be 104) (.leaf (.bool false)) (.br (!m s d p q t)
    (.leaf (.bool ((m1 s d p q t == 0 && (m2 s d p q t == 0 && (m3 p q t == 0 && (m4 q t == 0 && (m5 t == 0 && true))))) && decide (cm s' d' p' q' t' s d p q t ≤ 0))))
    (.leaf (.bool ((cm s d p q t (m1 s d p q t) (m2 s d p q t) (m3 p q t) (m4 q t) (m5 t) == -1) && !((cm s d p q t s' d' p' q' t' == -1) && (cm s' d' p' q' t' (m1 s d p q t) (m2 s d p q t) (m3 p q t) (m4 q t) (m5 t) == -1)))))))
theorem e_lhs (g : Int → Int → Int → Int → Int → Bool) (cm : Int → Int → Int → Int → Int → Int → Int → Int → Int → Int → Int) (b : Int → Int → Int → Int → Int → Int → Int) (be : Int → Int) (m : Int → Int → Int → Int → Int → Bool) (m1 m2 : Int → Int → Int → Int → Int → Int) (m3 : Int → Int → Int → Int) (m4 : Int → Int → Int) (m5 : Int → Int) (s d p q t s' d' p' q' t' : Int) :
    ev (Gsp g cm b be m m1 m2 m3 m4 m5) 1 10 [hx s d p q t, hx s' d' p' q' t'] = (T_lhs g cm b be m m1 m2 m3 m4 m5 s d p q t s' d' p' q' t').opt := by kernel_rfl
theorem nest_true (t : GT SV) : ∀ n, (nestG true n t).opt = t.opt
  | 0 => rfl
  | n + 1 => nest_true t n
theorem onesF_iff (b be : Int → Int) : ∀ n, onesF b be n = true ↔ ∀ i < n, b (i : Nat) = 1 ∧ be (i : Nat) = 0
  | 0 => ⟨fun _ i hi => by omega, fun _ => rfl⟩
  | n + 1 => by
    unfold onesF
    rw [Bool.and_eq_true, Bool.and_eq_true, onesF_iff b be n, beq_iff_eq, beq_iff_eq]
    constructor
    · rintro ⟨⟨h1, h2⟩, h3⟩ i hi
      rcases Nat.lt_or_ge i n with h | h
      · exact h1 i h
      · have : i = n := by omega
        subst this
        exact ⟨h2, h3⟩
    · intro h
      exact ⟨⟨fun i hi => h i (by omega), (h n (by omega)).1⟩, (h n (by omega)).2⟩
theorem full_tab : ((List.range 256).all fun a => !((List.range 8).all fun j => q6 ((a : Nat) : Int) ((2 ^ (7 - j) : Nat) : Int) == 1) || a == 255) = true := by kernel_rfl
theorem full_byte {a : Int} (h : U8 a) (hb : ∀ j < 8, q6 a ((2 ^ (7 - j) : Nat) : Int) = 1) : a = 255 := by
  obtain ⟨m, rfl, hm⟩ := nat_of h
  have := List.all_eq_true.1 full_tab m (by simpa using hm)
  rw [Bool.or_eq_true, beq_iff_eq] at this
  rcases this with h | h
  · exfalso
    have h2 : ((List.range 8).all fun j => q6 ((m : Nat) : Int) ((2 ^ (7 - j) : Nat) : Int) == 1) = true := List.all_eq_true.2 fun j hj => by
      rw [beq_iff_eq]
      exact hb j (by simpa using hj)
    rw [h2] at h
    cases h
  · omega
theorem full_max : ((List.range 104).all fun i => bitAt (pkI yS 4294967295 4294967295 65535 65535 255) i == 1) = true := by kernel_rfl
theorem pk_max : pkI yS 4294967295 4294967295 65535 65535 255 = List.replicate 13 255 := by kernel_rfl
/-- all bits are 1 just in the last header -/
theorem ones_iff {s d p q t : Int} (hs : U32 s) (hd : U32 d) (hp : U16 p) (hq : U16 q) (ht : U8 t) : onesF (bV s d p q t) bE 104 = true ↔ s = 4294967295 ∧ d = 4294967295 ∧ p = 65535 ∧ q = 65535 ∧ t = 255 := by
  rw [onesF_iff]
  constructor
  · intro h
    have hX : pkI yS s d p q t = List.replicate 13 255 := by
      refine List.ext_getElem rfl fun m h1 h2 => ?_
      rw [List.getElem_replicate]
      have hm : m < 13 := h1
      refine full_byte (pkI_all s d p q t _ (List.getElem_mem h1)) fun j hj => ?_
      have := (h (8 * m + j) (by omega)).1
      rw [bV_at s d p q t (by omega)] at this
      unfold bitAt at this
      rw [show (8 * m + j) / 8 = m by omega, show (8 * m + j) % 8 = j by omega, List.getD_eq_getElem?_getD, List.getElem?_eq_getElem h1] at this
      exact this
    exact pk_inj hs hd hp hq ht ⟨by omega, by omega⟩ ⟨by omega, by omega⟩ ⟨by omega, by omega⟩ ⟨by omega, by omega⟩ ⟨by omega, by omega⟩ (hX.trans pk_max.symm)
  · rintro ⟨rfl, rfl, rfl, rfl, rfl⟩ i hi
    refine ⟨?_, bE_at hi⟩
    rw [bV_at _ _ _ _ _ hi]
    exact eq_of_beq (List.all_eq_true.1 full_max i (by simpa using hi))
theorem nx_inj {s d p q t a b c e f : Int} {g : Bool} (h : nxH s d p q t = .tup [hx a b c e f, .bool g]) : n1 s d p q t = a ∧ n2 d p q t = b ∧ n3 p q t = c ∧ n4 q t = e ∧ n5 t = f ∧ nb s d p q t = g := by
  unfold nxH hx at h
  simp only [SV.tup.injEq, List.cons.injEq, SV.agg.injEq, SV.int.injEq, SV.bool.injEq, true_and, and_true] at h
  obtain ⟨⟨h1, h2, h3, h4, h5⟩, h6⟩ := h
  exact ⟨h1, h2, h3, h4, h5, h6⟩
theorem next_spec {s d p q t : Int} (hs : U32 s) (hd : U32 d) (hp : U16 p) (hq : U16 q) (ht : U8 t) (hm : ¬ (s = 4294967295 ∧ d = 4294967295 ∧ p = 65535 ∧ q = 65535 ∧ t = 255)) :
    ∃ a b c e f : Int, nxH s d p q t = .tup [hx a b c e f, .bool true] ∧ U32 a ∧ U32 b ∧ U16 c ∧ U16 e ∧ U8 f ∧ numH a b c e f = numH s d p q t + 1 := by
  unfold U32 U16 U8 at *
  unfold numH
  by_cases h1 : t < 255
  · exact ⟨s, d, p, q, t + 1, nx_t ht.1 h1, hs, hd, hp, hq, by omega, by omega⟩
  have e1 : t = 255 := by omega
  subst e1
  by_cases h2 : q < 65535
  · exact ⟨s, d, p, q + 1, 0, nx_q hq.1 h2, hs, hd, hp, by omega, by omega, by omega⟩
  have e2 : q = 65535 := by omega
  subst e2
  by_cases h3 : p < 65535
  · exact ⟨s, d, p + 1, 0, 0, nx_p hp.1 h3, hs, hd, by omega, by omega, by omega, by omega⟩
  have e3 : p = 65535 := by omega
  subst e3
  by_cases h4 : d < 4294967295
  · exact ⟨s, d + 1, 0, 0, 0, nx_d hd.1 h4, hs, by omega, by omega, by omega, by omega, by omega⟩
  have e4 : d = 4294967295 := by omega
  subst e4
  have h5 : s < 4294967295 := by omega
  exact ⟨s + 1, 0, 0, 0, 0, nx_s hs.1 h5, by omega, by omega, by omega, by omega, by omega, by omega⟩
theorem cmpV_m1 (a b : Int) : (cmpV a b == -1) = decide (a < b) := by
  rcases Int.lt_trichotomy a b with h | h | h
  · rw [cmpV_lt h, decide_eq_true h]; rfl
  · subst h; rw [cmpV_eq, decide_eq_false (Int.lt_irrefl a)]; rfl
  · rw [cmpV_gt h, decide_eq_false (by omega)]; rfl
theorem steps {s d p q t s' d' p' q' t' : Int} (hs : U32 s) (hd : U32 d) (hp : U16 p) (hq : U16 q) (ht : U8 t) (hs' : U32 s') (hd' : U32 d') (hp' : U16 p') (hq' : U16 q') (ht' : U8 t') :
    (T_lhs gdH cm10 bV bE nb n1 (fun _ d p q t => n2 d p q t) n3 n4 n5 s d p q t s' d' p' q' t').opt = some (.bool true) := by
  have a1 : gdH s d p q t = true := decide_eq_true ⟨hs, hd, hp, hq, ht⟩
  unfold T_lhs
  rw [a1, nest_true]
  by_cases hm : s = 4294967295 ∧ d = 4294967295 ∧ p = 65535 ∧ q = 65535 ∧ t = 255
  · have ho := (ones_iff hs hd hp hq ht).2 hm
    obtain ⟨rfl, rfl, rfl, rfl, rfl⟩ := hm
    obtain ⟨k1, k2, k3, k4, k5, k6⟩ := nx_inj nx_all
    have hc : decide (cm10 s' d' p' q' t' 4294967295 4294967295 65535 65535 255 ≤ 0) = true := by
      rw [or5_lex hs' hd' hp' hq' ht' hs hd hp hq ht]
      refine decide_eq_true ?_
      unfold U32 U16 U8 at *
      generalize hN : numH s' d' p' q' t' = N
      generalize hM : numH 4294967295 4294967295 65535 65535 255 = M
      unfold numH at hN hM
      rcases Int.lt_trichotomy N M with h | h | h
      · rw [cmpV_lt h]; decide
      · rw [h, cmpV_eq]; decide
      · omega
    simp only [ho, k1, k2, k3, k4, k5, k6, hc]
    rfl
  · have ho : onesF (bV s d p q t) bE 104 = false := by
      cases h : onesF (bV s d p q t) bE 104 with
      | false => rfl
      | true => exact absurd ((ones_iff hs hd hp hq ht).1 h) hm
    obtain ⟨a, b, c, e, f, h1, h2, h3, h4, h5, h6, h7⟩ := next_spec hs hd hp hq ht hm
    obtain ⟨k1, k2, k3, k4, k5, k6⟩ := nx_inj h1
    have hc1 : (cm10 s d p q t a b c e f == -1) = true := by
      rw [or5_lex hs hd hp hq ht h2 h3 h4 h5 h6, cmpV_m1]
      exact decide_eq_true (by omega)
    have hc2 : ((cm10 s d p q t s' d' p' q' t' == -1) && (cm10 s' d' p' q' t' a b c e f == -1)) = false := by
      rw [or5_lex hs hd hp hq ht hs' hd' hp' hq' ht', or5_lex hs' hd' hp' hq' ht' h2 h3 h4 h5 h6, cmpV_m1, cmpV_m1, h7]
      by_cases h : numH s d p q t < numH s' d' p' q' t'
      · rw [decide_eq_false (show ¬ numH s' d' p' q' t' < numH s d p q t + 1 by omega), Bool.and_false]
      · rw [decide_eq_false h, Bool.false_and]
    simp only [ho, k1, k2, k3, k4, k5, k6, hc1, hc2]
    rfl
noncomputable def evHS (svs : List SV) : Option SV := ev (Gsp gdH cm10 bV bE nb n1 (fun _ d p q t => n2 d p q t) n3 n4 n5) 1 10 svs
theorem LHS.summ : Summ Try.prog 10 evHS := evFn_summ (facts Gsp_ok) 1 10
theorem LHS.ok (s d p q t s' d' p' q' t' : Int) (hs : U32 s) (hd : U32 d) (hp : U16 p) (hq : U16 q) (ht : U8 t) (hs' : U32 s') (hd' : U32 d') (hp' : U16 p') (hq' : U16 q') (ht' : U8 t') : evHS [hx s d p q t, hx s' d' p' q' t'] = some (.bool true) :=
  (e_lhs gdH cm10 bV bE nb n1 (fun _ d p q t => n2 d p q t) n3 n4 n5 s d p q t s' d' p' q' t').trans (steps hs hd hp hq ht hs' hd' hp' hq' ht')
end Go.Sx.Mk
