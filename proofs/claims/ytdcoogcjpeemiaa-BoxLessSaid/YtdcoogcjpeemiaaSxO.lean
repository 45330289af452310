/- What the functions of the layer answer, by value, and the plain laws behind the statement. Conditions: none beyond those that each theorem names. -/
import Derived.Test.YtdcoogcjpeemiaaSxN
set_option linter.unusedVariables false
set_option linter.unusedSimpArgs false
/- Boxes, by value: Less of the reference. -/
namespace Go.Sx.Mk
open Go.Proofs Go.RowKit
noncomputable def bodyrl : Code := bodyOf 14 [0, 1, 0, 1, 1, 1, 1, 1, 1, 1, 1, 1, 1, 1, 1, 1, 1, 1, 1, 1, 1, 1]
def liverl : List (Nat × Option (List CK)) := [(7, some ([.i .u32, .i .u32, .i .u32, .i .u32, .i .u16, .i .u16, .i .u16, .i .u16, .i .u8, .i .u8])), (8, none), (9, none), (10, none)]
def outrl : List (Nat × Option (List CK)) := [(7, some ([.i .u32, .i .u32, .i .u32, .i .u32, .i .u16, .i .u16, .i .u16, .i .u16, .i .u8, .i .u8]))]
def mkrl (a0 : Int) (a1 : Int) (a2 : Int) (a3 : Int) (a4 : Int) (a5 : Int) (a6 : Int) (a7 : Int) (a8 : Int) (a9 : Int) (l : List Row) (o : List Row) (i : Int) : St := ⟨sel 223 [7, 8, 9, 10] [.vw 0, .ptr 1 0, .vw 2, .int .i64 i], [.vec true [.i .u32, .i .u32, .i .u32, .i .u32, .i .u16, .i .u16, .i .u16, .i .u16, .i .u8, .i .u8] o none, .cells [.int .u32 a0, .int .u32 a1, .int .u32 a2, .int .u32 a3, .int .u16 a4, .int .u16 a5, .int .u16 a6, .int .u16 a7, .int .u8 a8, .int .u8 a9], .vec true [.i .u8, .i .u8] l none]⟩
def finrl (o : List Row) : St := ⟨sel 223 [7] [.vw 0], [.vec true [.i .u32, .i .u32, .i .u32, .i .u32, .i .u16, .i .u16, .i .u16, .i .u16, .i .u8, .i .u8] o none]⟩
structure Xrl where
  a0 : Int
  a1 : Int
  a2 : Int
  a3 : Int
  a4 : Int
  a5 : Int
  a6 : Int
  a7 : Int
  a8 : Int
  a9 : Int
  l : List Row
  o : List Row
  i : Int
def Xrl.st (x : Xrl) : St := mkrl x.a0 x.a1 x.a2 x.a3 x.a4 x.a5 x.a6 x.a7 x.a8 x.a9 x.l x.o x.i
def pickrl : List SV → List Blk → Option Xrl
  | [.vw 0, .ptr 1 0, .vw 2, .int .i64 i], [.vec true [.i .u32, .i .u32, .i .u32, .i .u32, .i .u16, .i .u16, .i .u16, .i .u16, .i .u8, .i .u8] o none, .cells [.int .u32 a0, .int .u32 a1, .int .u32 a2, .int .u32 a3, .int .u16 a4, .int .u16 a5, .int .u16 a6, .int .u16 a7, .int .u8 a8, .int .u8 a9], .vec true [.i .u8, .i .u8] l none] => some ⟨a0, a1, a2, a3, a4, a5, a6, a7, a8, a9, l, o, i⟩
  | _, _ => none
theorem pickrl_ok : ∀ vals mem x, pickrl vals mem = some x → x.st = ⟨sel 223 [7, 8, 9, 10] vals, mem⟩ := by
  intro vals mem x h
  unfold pickrl at h
  split at h
  · cases h; rfl
  · cases h
theorem step_rl (again : St → Option (E × St)) (a0 a1 a2 a3 a4 a5 a6 a7 a8 a9 : Int) (l o : List Row) (i : Int) : step Try.prog G0 ents [] 2 bodyrl liverl outrl again (mkrl a0 a1 a2 a3 a4 a5 a6 a7 a8 a9 l o i) = sure (decide (i < (↑l.length : Int)))
    (sure (decide ((0 : Int) ≤ i ∧ i < (↑l.length : Int)))
      (sure (decide (o.length + (1 : Nat) < (4000000000 : Nat)))
        (again
          (mkrl a0 a1 a2 a3 a4 a5 a6 a7 (List.getD (l.getD i.toNat []) (0 : Nat) (0 : Int))
            (List.getD (l.getD i.toNat []) ((0 : Nat) + (1 : Nat)) (0 : Int)) l
            (o ++
              [[a0, a1, a2, a3, a4, a5, a6, a7, List.getD (l.getD i.toNat []) (0 : Nat) (0 : Int),
                  List.getD (l.getD i.toNat []) ((0 : Nat) + (1 : Nat)) (0 : Int)]])
            (IntKind.i64.wrap (i + (1 : Int)))))
        none)
      none)
    (some (E.brk (0 : Nat), finrl o)) := by kernel_rfl
theorem run_rl : ∀ (rs pre o : List Row) (a0 a1 a2 a3 a4 a5 a6 a7 a8 a9 : Int), o.length + rs.length ≤ 400 → pre.length + rs.length ≤ 200 →
    loopN (step Try.prog G0 ents [] 2 bodyrl liverl outrl) (rs.length + 1) (mkrl a0 a1 a2 a3 a4 a5 a6 a7 a8 a9 (pre ++ rs) o (pre.length : Nat)) = some (.brk 0, finrl (o ++ rs.map (row_l5 a0 a1 a2 a3 a4 a5 a6 a7 a8 a9)))
  | [], pre, o, a0, a1, a2, a3, a4, a5, a6, a7, a8, a9, _, _ => by
    rw [show ([] : List Row).length + 1 = 0 + 1 from rfl, loopN_succ, step_rl, decide_eq_false (show ¬ ((pre.length : Nat) : Int) < (((pre ++ ([] : List Row)).length : Nat) : Int) by simp)]
    simp [sure]
  | x :: rs, pre, o, a0, a1, a2, a3, a4, a5, a6, a7, a8, a9, ho, hp => by
    rw [show (x :: rs).length + 1 = (rs.length + 1) + 1 from rfl, loopN_succ]
    simp only [List.length_cons] at ho hp
    have hl : (pre ++ x :: rs).length = pre.length + rs.length + 1 := by simp; omega
    have h1 : ((pre.length : Nat) : Int) < (((pre ++ x :: rs).length : Nat) : Int) := by omega
    have h2 : (0 : Int) ≤ ((pre.length : Nat) : Int) ∧ ((pre.length : Nat) : Int) < (((pre ++ x :: rs).length : Nat) : Int) := ⟨by omega, h1⟩
    have h3 : IntKind.wrap .i64 (((pre.length : Nat) : Int) + 1) = (((pre ++ [x]).length : Nat) : Int) := by rw [wrap_i64 (by omega) (by omega)]; simp
    have h5 : pre ++ x :: rs = (pre ++ [x]) ++ rs := by simp
    have ih := run_rl rs (pre ++ [x]) (o ++ [row_l5 a0 a1 a2 a3 a4 a5 a6 a7 a8 a9 x]) a0 a1 a2 a3 a4 a5 a6 a7 (x.getD 0 0) (x.getD 1 0) (by simp; omega) (by simp; omega)
    rw [← h5] at ih
    have g2 : o.length + 1 < 4000000000 := by omega
    rw [step_rl, h3]
    rw [show ((pre ++ x :: rs).getD (((pre.length : Nat) : Int)).toNat [] = x) from mid_get0 pre x rs _ rfl]
    simp only [h1, h2, g2, decide_true, and_self, sure]
    refine ih.trans ?_
    rw [show row_l5 a0 a1 a2 a3 a4 a5 a6 a7 (x.getD 0 0) (x.getD 1 0) = row_l5 a0 a1 a2 a3 a4 a5 a6 a7 a8 a9 from rfl]
    simp
def ok_rl (l o : List Row) (i : Int) : Bool := i == 0 && (decide (o.length ≤ 200) && decide (l.length ≤ 200))
theorem looprl : LoopOK Try.prog bodyrl (fun st => (sumT 223 [7, 8, 9, 10] pickrl (fun x => .when (ok_rl x.l x.o x.i) (.leaf (.brk 0, finrl (x.o ++ mp_l5 x.a0 x.a1 x.a2 x.a3 x.a4 x.a5 x.a6 x.a7 x.a8 x.a9 x.l)))) st).opt) := by
  refine loop_one (imp := []) (facts G0_ok) 0 2 bodyrl (lpOK_none _) liverl outrl 223 [7, 8, 9, 10] pickrl Xrl.st (fun x => ok_rl x.l x.o x.i) _ pickrl_ok ?_
  intro x h1 _
  unfold ok_rl at h1
  simp only [Bool.and_eq_true, beq_iff_eq, decide_eq_true_eq] at h1
  obtain ⟨h4, h5, h6⟩ := h1
  have h7 := run_rl x.l [] x.o x.a0 x.a1 x.a2 x.a3 x.a4 x.a5 x.a6 x.a7 x.a8 x.a9 (by omega) (by simpa using h6)
  refine ⟨x.l.length + 1, ?_⟩
  unfold Xrl.st
  rw [h4]
  exact h7
def annrl (ok : List Row → List Row → Int → Bool) (mp : Int → Int → Int → Int → Int → Int → Int → Int → Int → Int → List Row → List Row) : Ann := ⟨liverl, 0, some (sumT 223 [7, 8, 9, 10] pickrl (fun x => .when (ok x.l x.o x.i) (.leaf (.brk 0, finrl (x.o ++ mp x.a0 x.a1 x.a2 x.a3 x.a4 x.a5 x.a6 x.a7 x.a8 x.a9 x.l)))))⟩
noncomputable def Grl (g : Bx → Bool) (ck : Bx → Int) (g2 : Bx → Bx → Bool) (mX : Bx → Bx → Bx) (mB : Bx → Bx → Bool) (ms : I4 (List Row)) : FuncId → Option (List SV → GT SV)
  | 25 => some (sgBx fun b => .when (g b) (.leaf (.int .i64 (ck b))))
  | 19 => some (sgBB fun a b => .when (g2 a b) (.leaf (.tup [bx (mX a b), .bool (mB a b)])))
  | 36 => some (Mm.sgMM fun a b c d => .leaf (.rows KM (ms a b c d)))
  | 999999 => some (fun _ => GT.stop)
  | _ => none
theorem Grl_ok : ∀ g s, Grl okB ckB okBB bmX bmB Mm.lessRr g = some s → SummT Try.prog g s := fun g s h => by
  unfold Grl at h
  split at h
  · cases h; exact S_rbk
  · cases h; exact S_rbm
  · cases h; exact Mm.S23
  · cases h; exact merge_ok
  · cases h
def ap (c : Bool) (l : List Row) (r : Row) : List Row := sure c (l ++ [r]) l
def ap1 (c : Bool) (v x : Int) : Int := sure c v x
def ok_c (o : List Row) : Bool := decide (o.length ≤ 200)
def bxC (b : Bx) : List SV := [.int .u32 b.sl, .int .u32 b.sh, .int .u32 b.dl, .int .u32 b.dh, .int .u16 b.pl, .int .u16 b.ph, .int .u16 b.ql, .int .u16 b.qh, .int .u8 b.mv, .int .u8 b.mc]
def bxP : List SV → Option Bx
  | [.int .u32 sl, .int .u32 sh, .int .u32 dl, .int .u32 dh, .int .u16 pl, .int .u16 ph, .int .u16 ql, .int .u16 qh, .int .u8 mv, .int .u8 mc] => some ⟨sl, sh, dl, dh, pl, ph, ql, qh, mv, mc⟩
  | _ => none
theorem bxP_ok {l : List SV} {b : Bx} (h : bxP l = some b) : l = bxC b := by
  unfold bxP at h
  split at h
  · cases h; rfl
  · cases h
structure Xc where
  c : Bool
  a : Bx
  b : Bx
  m : Bx
  o : List Row
  x : Bx
def mkc (sl : Nat) (x : Xc) : St := ⟨sel 223 [sl, 2, 3, 5, 7, 8] [.bool x.c, .ptr 0 0, .ptr 1 0, .ptr 2 0, .vw 3, .ptr 4 0], [.cells (bxC x.a), .cells (bxC x.b), .cells (bxC x.m), .vec true BK x.o none, .cells (bxC x.x)]⟩
def finc (a b m : Bx) (o : List Row) (x : Bx) : St := ⟨sel 223 [2, 3, 5, 7, 8] [.ptr 0 0, .ptr 1 0, .ptr 2 0, .vw 3, .ptr 4 0], [.cells (bxC a), .cells (bxC b), .cells (bxC m), .vec true BK o none, .cells (bxC x)]⟩
def outc : List (Nat × Option (List CK)) := [(2, none), (3, none), (5, none), (7, some BK), (8, none)]
def pickc : List SV → List Blk → Option Xc
  | [.bool c, .ptr 0 0, .ptr 1 0, .ptr 2 0, .vw 3, .ptr 4 0], [.cells A, .cells B, .cells C, .vec true ks o none, .cells D] => match decide (ks = BK), bxP A, bxP B, bxP C, bxP D with
    | true, some a, some b, some m, some x => some ⟨c, a, b, m, o, x⟩
    | _, _, _, _, _ => none
  | _, _ => none
theorem pickc_ok (sl : Nat) : ∀ vals mem x, pickc vals mem = some x → mkc sl x = ⟨sel 223 [sl, 2, 3, 5, 7, 8] vals, mem⟩ := by
  intro vals mem x h
  unfold pickc at h
  split at h
  · split at h
    · rename_i h1 h2 h3 h4 h5
      cases h
      rw [of_decide_eq_true h1, bxP_ok h2, bxP_ok h3, bxP_ok h4, bxP_ok h5]
      rfl
    · cases h
  · cases h
abbrev AP := Bool → List Row → Row → List Row
abbrev AP1 := Bool → Int → Int → Int
noncomputable def nodec0 : Code := nodeOf 14 [1, 0, 1, 1, 1, 1, 1, 1]
def livec0 : List (Nat × Option (List CK)) := [(36, none), (2, none), (3, none), (5, none), (7, some BK), (8, none)]
theorem pc_c0 (c : Bool) (a b m : Bx) (o : List Row) (x : Bx) : pieceP Try.prog G0 ents [] nolp (fun _ => none) 0 1 nodec0 outc (mkc 36 ⟨c, a, b, m, o, x⟩) = sure c
    (sure (decide (o.length + (1 : Nat) < (4000000000 : Nat)))
      (some
        (E.nrm,
          {
            tmps :=
              [SV.poison, SV.poison, SV.ptr (0 : Nat) (0 : Nat), SV.ptr ((0 : Nat) + (1 : Nat)) (0 : Nat), SV.poison,
                SV.ptr ((0 : Nat) + (1 : Nat) + (1 : Nat)) (0 : Nat), SV.poison,
                SV.vw ((0 : Nat) + (1 : Nat) + (1 : Nat) + (1 : Nat)),
                SV.ptr ((0 : Nat) + (1 : Nat) + (1 : Nat) + (1 : Nat) + (1 : Nat)) (0 : Nat), SV.poison, SV.poison,
                SV.poison, SV.poison, SV.poison, SV.poison, SV.poison, SV.poison, SV.poison, SV.poison, SV.poison,
                SV.poison, SV.poison, SV.poison, SV.poison, SV.poison, SV.poison, SV.poison, SV.poison, SV.poison,
                SV.poison, SV.poison, SV.poison, SV.poison, SV.poison, SV.poison, SV.poison, SV.poison, SV.poison,
                SV.poison, SV.poison, SV.poison, SV.poison, SV.poison, SV.poison, SV.poison, SV.poison, SV.poison,
                SV.poison, SV.poison, SV.poison, SV.poison, SV.poison, SV.poison, SV.poison, SV.poison, SV.poison,
                SV.poison, SV.poison, SV.poison, SV.poison, SV.poison, SV.poison, SV.poison, SV.poison, SV.poison,
                SV.poison, SV.poison, SV.poison, SV.poison, SV.poison, SV.poison, SV.poison, SV.poison, SV.poison,
                SV.poison, SV.poison, SV.poison, SV.poison, SV.poison, SV.poison, SV.poison, SV.poison, SV.poison,
                SV.poison, SV.poison, SV.poison, SV.poison, SV.poison, SV.poison, SV.poison, SV.poison, SV.poison,
                SV.poison, SV.poison, SV.poison, SV.poison, SV.poison, SV.poison, SV.poison, SV.poison, SV.poison,
                SV.poison, SV.poison, SV.poison, SV.poison, SV.poison, SV.poison, SV.poison, SV.poison, SV.poison,
                SV.poison, SV.poison, SV.poison, SV.poison, SV.poison, SV.poison, SV.poison, SV.poison, SV.poison,
                SV.poison, SV.poison, SV.poison, SV.poison, SV.poison, SV.poison, SV.poison, SV.poison, SV.poison,
                SV.poison, SV.poison, SV.poison, SV.poison, SV.poison, SV.poison, SV.poison, SV.poison, SV.poison,
                SV.poison, SV.poison, SV.poison, SV.poison, SV.poison, SV.poison, SV.poison, SV.poison, SV.poison,
                SV.poison, SV.poison, SV.poison, SV.poison, SV.poison, SV.poison, SV.poison, SV.poison, SV.poison,
                SV.poison, SV.poison, SV.poison, SV.poison, SV.poison, SV.poison, SV.poison, SV.poison, SV.poison,
                SV.poison, SV.poison, SV.poison, SV.poison, SV.poison, SV.poison, SV.poison, SV.poison, SV.poison,
                SV.poison, SV.poison, SV.poison, SV.poison, SV.poison, SV.poison, SV.poison, SV.poison, SV.poison,
                SV.poison, SV.poison, SV.poison, SV.poison, SV.poison, SV.poison, SV.poison, SV.poison, SV.poison,
                SV.poison, SV.poison, SV.poison, SV.poison, SV.poison, SV.poison, SV.poison, SV.poison, SV.poison,
                SV.poison, SV.poison, SV.poison, SV.poison, SV.poison, SV.poison, SV.poison, SV.poison, SV.poison,
                SV.poison, SV.poison, SV.poison, SV.poison, SV.poison, SV.poison, SV.poison, SV.poison, SV.poison,
                SV.poison, SV.poison, SV.poison, SV.poison, SV.poison],
            mem :=
              [Blk.cells
                  [SV.int IntKind.u32 a.1, SV.int IntKind.u32 a.2, SV.int IntKind.u32 a.3, SV.int IntKind.u32 a.4,
                    SV.int IntKind.u16 a.5, SV.int IntKind.u16 a.6, SV.int IntKind.u16 a.7, SV.int IntKind.u16 a.8,
                    SV.int IntKind.u8 a.9, SV.int IntKind.u8 a.10],
                Blk.cells
                  [SV.int IntKind.u32 b.1, SV.int IntKind.u32 b.2, SV.int IntKind.u32 b.3, SV.int IntKind.u32 b.4,
                    SV.int IntKind.u16 b.5, SV.int IntKind.u16 b.6, SV.int IntKind.u16 b.7, SV.int IntKind.u16 b.8,
                    SV.int IntKind.u8 b.9, SV.int IntKind.u8 b.10],
                Blk.cells
                  [SV.int IntKind.u32 m.1, SV.int IntKind.u32 m.2, SV.int IntKind.u32 m.3, SV.int IntKind.u32 m.4,
                    SV.int IntKind.u16 m.5, SV.int IntKind.u16 m.6, SV.int IntKind.u16 m.7, SV.int IntKind.u16 m.8,
                    SV.int IntKind.u8 m.9, SV.int IntKind.u8 m.10],
                Blk.vec true
                  [CK.i IntKind.u32, CK.i IntKind.u32, CK.i IntKind.u32, CK.i IntKind.u32, CK.i IntKind.u16,
                    CK.i IntKind.u16, CK.i IntKind.u16, CK.i IntKind.u16, CK.i IntKind.u8, CK.i IntKind.u8]
                  (o ++ [[a.1, IntKind.u32.wrap (m.1 - (1 : Int)), x.3, x.4, x.5, x.6, x.7, x.8, x.9, x.10]]) none,
                Blk.cells
                  [SV.int IntKind.u32 a.1, SV.int IntKind.u32 (IntKind.u32.wrap (m.1 - (1 : Int))),
                    SV.int IntKind.u32 x.3, SV.int IntKind.u32 x.4, SV.int IntKind.u16 x.5, SV.int IntKind.u16 x.6,
                    SV.int IntKind.u16 x.7, SV.int IntKind.u16 x.8, SV.int IntKind.u8 x.9, SV.int IntKind.u8 x.10]] }))
      none)
    (some
      (E.nrm,
        {
          tmps :=
            [SV.poison, SV.poison, SV.ptr (0 : Nat) (0 : Nat), SV.ptr ((0 : Nat) + (1 : Nat)) (0 : Nat), SV.poison,
              SV.ptr ((0 : Nat) + (1 : Nat) + (1 : Nat)) (0 : Nat), SV.poison,
              SV.vw ((0 : Nat) + (1 : Nat) + (1 : Nat) + (1 : Nat)),
              SV.ptr ((0 : Nat) + (1 : Nat) + (1 : Nat) + (1 : Nat) + (1 : Nat)) (0 : Nat), SV.poison, SV.poison,
              SV.poison, SV.poison, SV.poison, SV.poison, SV.poison, SV.poison, SV.poison, SV.poison, SV.poison,
              SV.poison, SV.poison, SV.poison, SV.poison, SV.poison, SV.poison, SV.poison, SV.poison, SV.poison,
              SV.poison, SV.poison, SV.poison, SV.poison, SV.poison, SV.poison, SV.poison, SV.poison, SV.poison,
              SV.poison, SV.poison, SV.poison, SV.poison, SV.poison, SV.poison, SV.poison, SV.poison, SV.poison,
              SV.poison, SV.poison, SV.poison, SV.poison, SV.poison, SV.poison, SV.poison, SV.poison, SV.poison,
              SV.poison, SV.poison, SV.poison, SV.poison, SV.poison, SV.poison, SV.poison, SV.poison, SV.poison,
              SV.poison, SV.poison, SV.poison, SV.poison, SV.poison, SV.poison, SV.poison, SV.poison, SV.poison,
              SV.poison, SV.poison, SV.poison, SV.poison, SV.poison, SV.poison, SV.poison, SV.poison, SV.poison,
              SV.poison, SV.poison, SV.poison, SV.poison, SV.poison, SV.poison, SV.poison, SV.poison, SV.poison,
              SV.poison, SV.poison, SV.poison, SV.poison, SV.poison, SV.poison, SV.poison, SV.poison, SV.poison,
              SV.poison, SV.poison, SV.poison, SV.poison, SV.poison, SV.poison, SV.poison, SV.poison, SV.poison,
              SV.poison, SV.poison, SV.poison, SV.poison, SV.poison, SV.poison, SV.poison, SV.poison, SV.poison,
              SV.poison, SV.poison, SV.poison, SV.poison, SV.poison, SV.poison, SV.poison, SV.poison, SV.poison,
              SV.poison, SV.poison, SV.poison, SV.poison, SV.poison, SV.poison, SV.poison, SV.poison, SV.poison,
              SV.poison, SV.poison, SV.poison, SV.poison, SV.poison, SV.poison, SV.poison, SV.poison, SV.poison,
              SV.poison, SV.poison, SV.poison, SV.poison, SV.poison, SV.poison, SV.poison, SV.poison, SV.poison,
              SV.poison, SV.poison, SV.poison, SV.poison, SV.poison, SV.poison, SV.poison, SV.poison, SV.poison,
              SV.poison, SV.poison, SV.poison, SV.poison, SV.poison, SV.poison, SV.poison, SV.poison, SV.poison,
              SV.poison, SV.poison, SV.poison, SV.poison, SV.poison, SV.poison, SV.poison, SV.poison, SV.poison,
              SV.poison, SV.poison, SV.poison, SV.poison, SV.poison, SV.poison, SV.poison, SV.poison, SV.poison,
              SV.poison, SV.poison, SV.poison, SV.poison, SV.poison, SV.poison, SV.poison, SV.poison, SV.poison,
              SV.poison, SV.poison, SV.poison, SV.poison, SV.poison, SV.poison, SV.poison, SV.poison, SV.poison,
              SV.poison, SV.poison, SV.poison, SV.poison, SV.poison, SV.poison, SV.poison, SV.poison, SV.poison,
              SV.poison, SV.poison, SV.poison, SV.poison, SV.poison],
          mem :=
            [Blk.cells
                [SV.int IntKind.u32 a.1, SV.int IntKind.u32 a.2, SV.int IntKind.u32 a.3, SV.int IntKind.u32 a.4,
                  SV.int IntKind.u16 a.5, SV.int IntKind.u16 a.6, SV.int IntKind.u16 a.7, SV.int IntKind.u16 a.8,
                  SV.int IntKind.u8 a.9, SV.int IntKind.u8 a.10],
              Blk.cells
                [SV.int IntKind.u32 b.1, SV.int IntKind.u32 b.2, SV.int IntKind.u32 b.3, SV.int IntKind.u32 b.4,
                  SV.int IntKind.u16 b.5, SV.int IntKind.u16 b.6, SV.int IntKind.u16 b.7, SV.int IntKind.u16 b.8,
                  SV.int IntKind.u8 b.9, SV.int IntKind.u8 b.10],
              Blk.cells
                [SV.int IntKind.u32 m.1, SV.int IntKind.u32 m.2, SV.int IntKind.u32 m.3, SV.int IntKind.u32 m.4,
                  SV.int IntKind.u16 m.5, SV.int IntKind.u16 m.6, SV.int IntKind.u16 m.7, SV.int IntKind.u16 m.8,
                  SV.int IntKind.u8 m.9, SV.int IntKind.u8 m.10],
              Blk.vec true
                [CK.i IntKind.u32, CK.i IntKind.u32, CK.i IntKind.u32, CK.i IntKind.u32, CK.i IntKind.u16,
                  CK.i IntKind.u16, CK.i IntKind.u16, CK.i IntKind.u16, CK.i IntKind.u8, CK.i IntKind.u8]
                o none,
              Blk.cells
                [SV.int IntKind.u32 x.1, SV.int IntKind.u32 x.2, SV.int IntKind.u32 x.3, SV.int IntKind.u32 x.4,
                  SV.int IntKind.u16 x.5, SV.int IntKind.u16 x.6, SV.int IntKind.u16 x.7, SV.int IntKind.u16 x.8,
                  SV.int IntKind.u8 x.9, SV.int IntKind.u8 x.10]] })) := by kernel_rfl
def resc0 (ap : AP) (ap1 : AP1) (g : List Row → Bool) (x : Xc) : GT (E × St) := .when (g x.o) (.leaf (.nrm, finc x.a x.b x.m (ap x.c x.o [x.a.sl, (IntKind.wrap .u32 (x.m.sl - 1)), x.x.dl, x.x.dh, x.x.pl, x.x.ph, x.x.ql, x.x.qh, x.x.mv, x.x.mc]) ⟨ap1 x.c x.a.sl x.x.sl, ap1 x.c (IntKind.wrap .u32 (x.m.sl - 1)) x.x.sh, x.x.dl, x.x.dh, x.x.pl, x.x.ph, x.x.ql, x.x.qh, x.x.mv, x.x.mc⟩))
theorem code_c0 : CodeOKP Try.prog 0 nodec0 (fun st => (sumT 223 [36, 2, 3, 5, 7, 8] pickc (resc0 ap ap1 ok_c) st).opt) := by
  refine codeOK (imp := []) (lpc := fun _ => none) (facts G0_ok) 0 1 nodec0 (lpOK_none _) outc 223 [36, 2, 3, 5, 7, 8] pickc (mkc 36) (resc0 ap ap1 ok_c) (pickc_ok 36) ?_
  rintro ⟨c, a, b, m, o, x⟩ e st' h _
  unfold resc0 at h
  obtain ⟨h1, h2⟩ := GT.opt_when h
  have h3 : o.length ≤ 200 := of_decide_eq_true h1
  cases h2
  refine (pc_c0 c a b m o x).trans ?_
  rw [decide_eq_true (show o.length + 1 < 4000000000 by omega)]
  cases c <;> rfl
def annc0 (ap : AP) (ap1 : AP1) (g : List Row → Bool) : Ann := ⟨livec0, 1000000, some (sumT 223 [36, 2, 3, 5, 7, 8] pickc (resc0 ap ap1 g))⟩
noncomputable def nodec1 : Code := nodeOf 14 [1, 0, 1, 1, 1, 1, 1, 1, 1]
def livec1 : List (Nat × Option (List CK)) := [(56, none), (2, none), (3, none), (5, none), (7, some BK), (8, none)]
theorem pc_c1 (c : Bool) (a b m : Bx) (o : List Row) (x : Bx) : pieceP Try.prog G0 ents [] nolp (fun _ => none) 0 1 nodec1 outc (mkc 56 ⟨c, a, b, m, o, x⟩) = sure c
    (sure (decide (o.length + (1 : Nat) < (4000000000 : Nat)))
      (some
        (E.nrm,
          {
            tmps :=
              [SV.poison, SV.poison, SV.ptr (0 : Nat) (0 : Nat), SV.ptr ((0 : Nat) + (1 : Nat)) (0 : Nat), SV.poison,
                SV.ptr ((0 : Nat) + (1 : Nat) + (1 : Nat)) (0 : Nat), SV.poison,
                SV.vw ((0 : Nat) + (1 : Nat) + (1 : Nat) + (1 : Nat)),
                SV.ptr ((0 : Nat) + (1 : Nat) + (1 : Nat) + (1 : Nat) + (1 : Nat)) (0 : Nat), SV.poison, SV.poison,
                SV.poison, SV.poison, SV.poison, SV.poison, SV.poison, SV.poison, SV.poison, SV.poison, SV.poison,
                SV.poison, SV.poison, SV.poison, SV.poison, SV.poison, SV.poison, SV.poison, SV.poison, SV.poison,
                SV.poison, SV.poison, SV.poison, SV.poison, SV.poison, SV.poison, SV.poison, SV.poison, SV.poison,
                SV.poison, SV.poison, SV.poison, SV.poison, SV.poison, SV.poison, SV.poison, SV.poison, SV.poison,
                SV.poison, SV.poison, SV.poison, SV.poison, SV.poison, SV.poison, SV.poison, SV.poison, SV.poison,
                SV.poison, SV.poison, SV.poison, SV.poison, SV.poison, SV.poison, SV.poison, SV.poison, SV.poison,
                SV.poison, SV.poison, SV.poison, SV.poison, SV.poison, SV.poison, SV.poison, SV.poison, SV.poison,
                SV.poison, SV.poison, SV.poison, SV.poison, SV.poison, SV.poison, SV.poison, SV.poison, SV.poison,
                SV.poison, SV.poison, SV.poison, SV.poison, SV.poison, SV.poison, SV.poison, SV.poison, SV.poison,
                SV.poison, SV.poison, SV.poison, SV.poison, SV.poison, SV.poison, SV.poison, SV.poison, SV.poison,
                SV.poison, SV.poison, SV.poison, SV.poison, SV.poison, SV.poison, SV.poison, SV.poison, SV.poison,
                SV.poison, SV.poison, SV.poison, SV.poison, SV.poison, SV.poison, SV.poison, SV.poison, SV.poison,
                SV.poison, SV.poison, SV.poison, SV.poison, SV.poison, SV.poison, SV.poison, SV.poison, SV.poison,
                SV.poison, SV.poison, SV.poison, SV.poison, SV.poison, SV.poison, SV.poison, SV.poison, SV.poison,
                SV.poison, SV.poison, SV.poison, SV.poison, SV.poison, SV.poison, SV.poison, SV.poison, SV.poison,
                SV.poison, SV.poison, SV.poison, SV.poison, SV.poison, SV.poison, SV.poison, SV.poison, SV.poison,
                SV.poison, SV.poison, SV.poison, SV.poison, SV.poison, SV.poison, SV.poison, SV.poison, SV.poison,
                SV.poison, SV.poison, SV.poison, SV.poison, SV.poison, SV.poison, SV.poison, SV.poison, SV.poison,
                SV.poison, SV.poison, SV.poison, SV.poison, SV.poison, SV.poison, SV.poison, SV.poison, SV.poison,
                SV.poison, SV.poison, SV.poison, SV.poison, SV.poison, SV.poison, SV.poison, SV.poison, SV.poison,
                SV.poison, SV.poison, SV.poison, SV.poison, SV.poison, SV.poison, SV.poison, SV.poison, SV.poison,
                SV.poison, SV.poison, SV.poison, SV.poison, SV.poison, SV.poison, SV.poison, SV.poison, SV.poison,
                SV.poison, SV.poison, SV.poison, SV.poison, SV.poison, SV.poison, SV.poison, SV.poison, SV.poison,
                SV.poison, SV.poison, SV.poison, SV.poison, SV.poison],
            mem :=
              [Blk.cells
                  [SV.int IntKind.u32 a.1, SV.int IntKind.u32 a.2, SV.int IntKind.u32 a.3, SV.int IntKind.u32 a.4,
                    SV.int IntKind.u16 a.5, SV.int IntKind.u16 a.6, SV.int IntKind.u16 a.7, SV.int IntKind.u16 a.8,
                    SV.int IntKind.u8 a.9, SV.int IntKind.u8 a.10],
                Blk.cells
                  [SV.int IntKind.u32 b.1, SV.int IntKind.u32 b.2, SV.int IntKind.u32 b.3, SV.int IntKind.u32 b.4,
                    SV.int IntKind.u16 b.5, SV.int IntKind.u16 b.6, SV.int IntKind.u16 b.7, SV.int IntKind.u16 b.8,
                    SV.int IntKind.u8 b.9, SV.int IntKind.u8 b.10],
                Blk.cells
                  [SV.int IntKind.u32 m.1, SV.int IntKind.u32 m.2, SV.int IntKind.u32 m.3, SV.int IntKind.u32 m.4,
                    SV.int IntKind.u16 m.5, SV.int IntKind.u16 m.6, SV.int IntKind.u16 m.7, SV.int IntKind.u16 m.8,
                    SV.int IntKind.u8 m.9, SV.int IntKind.u8 m.10],
                Blk.vec true
                  [CK.i IntKind.u32, CK.i IntKind.u32, CK.i IntKind.u32, CK.i IntKind.u32, CK.i IntKind.u16,
                    CK.i IntKind.u16, CK.i IntKind.u16, CK.i IntKind.u16, CK.i IntKind.u8, CK.i IntKind.u8]
                  (o ++ [[IntKind.u32.wrap (m.2 + (1 : Int)), a.2, x.3, x.4, x.5, x.6, x.7, x.8, x.9, x.10]]) none,
                Blk.cells
                  [SV.int IntKind.u32 (IntKind.u32.wrap (m.2 + (1 : Int))), SV.int IntKind.u32 a.2,
                    SV.int IntKind.u32 x.3, SV.int IntKind.u32 x.4, SV.int IntKind.u16 x.5, SV.int IntKind.u16 x.6,
                    SV.int IntKind.u16 x.7, SV.int IntKind.u16 x.8, SV.int IntKind.u8 x.9, SV.int IntKind.u8 x.10]] }))
      none)
    (some
      (E.nrm,
        {
          tmps :=
            [SV.poison, SV.poison, SV.ptr (0 : Nat) (0 : Nat), SV.ptr ((0 : Nat) + (1 : Nat)) (0 : Nat), SV.poison,
              SV.ptr ((0 : Nat) + (1 : Nat) + (1 : Nat)) (0 : Nat), SV.poison,
              SV.vw ((0 : Nat) + (1 : Nat) + (1 : Nat) + (1 : Nat)),
              SV.ptr ((0 : Nat) + (1 : Nat) + (1 : Nat) + (1 : Nat) + (1 : Nat)) (0 : Nat), SV.poison, SV.poison,
              SV.poison, SV.poison, SV.poison, SV.poison, SV.poison, SV.poison, SV.poison, SV.poison, SV.poison,
              SV.poison, SV.poison, SV.poison, SV.poison, SV.poison, SV.poison, SV.poison, SV.poison, SV.poison,
              SV.poison, SV.poison, SV.poison, SV.poison, SV.poison, SV.poison, SV.poison, SV.poison, SV.poison,
              SV.poison, SV.poison, SV.poison, SV.poison, SV.poison, SV.poison, SV.poison, SV.poison, SV.poison,
              SV.poison, SV.poison, SV.poison, SV.poison, SV.poison, SV.poison, SV.poison, SV.poison, SV.poison,
              SV.poison, SV.poison, SV.poison, SV.poison, SV.poison, SV.poison, SV.poison, SV.poison, SV.poison,
              SV.poison, SV.poison, SV.poison, SV.poison, SV.poison, SV.poison, SV.poison, SV.poison, SV.poison,
              SV.poison, SV.poison, SV.poison, SV.poison, SV.poison, SV.poison, SV.poison, SV.poison, SV.poison,
              SV.poison, SV.poison, SV.poison, SV.poison, SV.poison, SV.poison, SV.poison, SV.poison, SV.poison,
              SV.poison, SV.poison, SV.poison, SV.poison, SV.poison, SV.poison, SV.poison, SV.poison, SV.poison,
              SV.poison, SV.poison, SV.poison, SV.poison, SV.poison, SV.poison, SV.poison, SV.poison, SV.poison,
              SV.poison, SV.poison, SV.poison, SV.poison, SV.poison, SV.poison, SV.poison, SV.poison, SV.poison,
              SV.poison, SV.poison, SV.poison, SV.poison, SV.poison, SV.poison, SV.poison, SV.poison, SV.poison,
              SV.poison, SV.poison, SV.poison, SV.poison, SV.poison, SV.poison, SV.poison, SV.poison, SV.poison,
              SV.poison, SV.poison, SV.poison, SV.poison, SV.poison, SV.poison, SV.poison, SV.poison, SV.poison,
              SV.poison, SV.poison, SV.poison, SV.poison, SV.poison, SV.poison, SV.poison, SV.poison, SV.poison,
              SV.poison, SV.poison, SV.poison, SV.poison, SV.poison, SV.poison, SV.poison, SV.poison, SV.poison,
              SV.poison, SV.poison, SV.poison, SV.poison, SV.poison, SV.poison, SV.poison, SV.poison, SV.poison,
              SV.poison, SV.poison, SV.poison, SV.poison, SV.poison, SV.poison, SV.poison, SV.poison, SV.poison,
              SV.poison, SV.poison, SV.poison, SV.poison, SV.poison, SV.poison, SV.poison, SV.poison, SV.poison,
              SV.poison, SV.poison, SV.poison, SV.poison, SV.poison, SV.poison, SV.poison, SV.poison, SV.poison,
              SV.poison, SV.poison, SV.poison, SV.poison, SV.poison, SV.poison, SV.poison, SV.poison, SV.poison,
              SV.poison, SV.poison, SV.poison, SV.poison, SV.poison, SV.poison, SV.poison, SV.poison, SV.poison,
              SV.poison, SV.poison, SV.poison, SV.poison, SV.poison],
          mem :=
            [Blk.cells
                [SV.int IntKind.u32 a.1, SV.int IntKind.u32 a.2, SV.int IntKind.u32 a.3, SV.int IntKind.u32 a.4,
                  SV.int IntKind.u16 a.5, SV.int IntKind.u16 a.6, SV.int IntKind.u16 a.7, SV.int IntKind.u16 a.8,
                  SV.int IntKind.u8 a.9, SV.int IntKind.u8 a.10],
              Blk.cells
                [SV.int IntKind.u32 b.1, SV.int IntKind.u32 b.2, SV.int IntKind.u32 b.3, SV.int IntKind.u32 b.4,
                  SV.int IntKind.u16 b.5, SV.int IntKind.u16 b.6, SV.int IntKind.u16 b.7, SV.int IntKind.u16 b.8,
                  SV.int IntKind.u8 b.9, SV.int IntKind.u8 b.10],
              Blk.cells
                [SV.int IntKind.u32 m.1, SV.int IntKind.u32 m.2, SV.int IntKind.u32 m.3, SV.int IntKind.u32 m.4,
                  SV.int IntKind.u16 m.5, SV.int IntKind.u16 m.6, SV.int IntKind.u16 m.7, SV.int IntKind.u16 m.8,
                  SV.int IntKind.u8 m.9, SV.int IntKind.u8 m.10],
              Blk.vec true
                [CK.i IntKind.u32, CK.i IntKind.u32, CK.i IntKind.u32, CK.i IntKind.u32, CK.i IntKind.u16,
                  CK.i IntKind.u16, CK.i IntKind.u16, CK.i IntKind.u16, CK.i IntKind.u8, CK.i IntKind.u8]
                o none,
              Blk.cells
                [SV.int IntKind.u32 x.1, SV.int IntKind.u32 x.2, SV.int IntKind.u32 x.3, SV.int IntKind.u32 x.4,
                  SV.int IntKind.u16 x.5, SV.int IntKind.u16 x.6, SV.int IntKind.u16 x.7, SV.int IntKind.u16 x.8,
                  SV.int IntKind.u8 x.9, SV.int IntKind.u8 x.10]] })) := by kernel_rfl
def resc1 (ap : AP) (ap1 : AP1) (g : List Row → Bool) (x : Xc) : GT (E × St) := .when (g x.o) (.leaf (.nrm, finc x.a x.b x.m (ap x.c x.o [(IntKind.wrap .u32 (x.m.sh + 1)), x.a.sh, x.x.dl, x.x.dh, x.x.pl, x.x.ph, x.x.ql, x.x.qh, x.x.mv, x.x.mc]) ⟨ap1 x.c (IntKind.wrap .u32 (x.m.sh + 1)) x.x.sl, ap1 x.c x.a.sh x.x.sh, x.x.dl, x.x.dh, x.x.pl, x.x.ph, x.x.ql, x.x.qh, x.x.mv, x.x.mc⟩))
theorem code_c1 : CodeOKP Try.prog 0 nodec1 (fun st => (sumT 223 [56, 2, 3, 5, 7, 8] pickc (resc1 ap ap1 ok_c) st).opt) := by
  refine codeOK (imp := []) (lpc := fun _ => none) (facts G0_ok) 0 1 nodec1 (lpOK_none _) outc 223 [56, 2, 3, 5, 7, 8] pickc (mkc 56) (resc1 ap ap1 ok_c) (pickc_ok 56) ?_
  rintro ⟨c, a, b, m, o, x⟩ e st' h _
  unfold resc1 at h
  obtain ⟨h1, h2⟩ := GT.opt_when h
  have h3 : o.length ≤ 200 := of_decide_eq_true h1
  cases h2
  refine (pc_c1 c a b m o x).trans ?_
  rw [decide_eq_true (show o.length + 1 < 4000000000 by omega)]
  cases c <;> rfl
def annc1 (ap : AP) (ap1 : AP1) (g : List Row → Bool) : Ann := ⟨livec1, 1000000, some (sumT 223 [56, 2, 3, 5, 7, 8] pickc (resc1 ap ap1 g))⟩
noncomputable def nodec2 : Code := nodeOf 14 [1, 0, 1, 1, 1, 1, 1, 1, 1, 1, 1]
def livec2 : List (Nat × Option (List CK)) := [(79, none), (2, none), (3, none), (5, none), (7, some BK), (8, none)]
theorem pc_c2 (c : Bool) (a b m : Bx) (o : List Row) (x : Bx) : pieceP Try.prog G0 ents [] nolp (fun _ => none) 0 1 nodec2 outc (mkc 79 ⟨c, a, b, m, o, x⟩) = sure c
    (sure (decide (o.length + (1 : Nat) < (4000000000 : Nat)))
      (some
        (E.nrm,
          {
            tmps :=
              [SV.poison, SV.poison, SV.ptr (0 : Nat) (0 : Nat), SV.ptr ((0 : Nat) + (1 : Nat)) (0 : Nat), SV.poison,
                SV.ptr ((0 : Nat) + (1 : Nat) + (1 : Nat)) (0 : Nat), SV.poison,
                SV.vw ((0 : Nat) + (1 : Nat) + (1 : Nat) + (1 : Nat)),
                SV.ptr ((0 : Nat) + (1 : Nat) + (1 : Nat) + (1 : Nat) + (1 : Nat)) (0 : Nat), SV.poison, SV.poison,
                SV.poison, SV.poison, SV.poison, SV.poison, SV.poison, SV.poison, SV.poison, SV.poison, SV.poison,
                SV.poison, SV.poison, SV.poison, SV.poison, SV.poison, SV.poison, SV.poison, SV.poison, SV.poison,
                SV.poison, SV.poison, SV.poison, SV.poison, SV.poison, SV.poison, SV.poison, SV.poison, SV.poison,
                SV.poison, SV.poison, SV.poison, SV.poison, SV.poison, SV.poison, SV.poison, SV.poison, SV.poison,
                SV.poison, SV.poison, SV.poison, SV.poison, SV.poison, SV.poison, SV.poison, SV.poison, SV.poison,
                SV.poison, SV.poison, SV.poison, SV.poison, SV.poison, SV.poison, SV.poison, SV.poison, SV.poison,
                SV.poison, SV.poison, SV.poison, SV.poison, SV.poison, SV.poison, SV.poison, SV.poison, SV.poison,
                SV.poison, SV.poison, SV.poison, SV.poison, SV.poison, SV.poison, SV.poison, SV.poison, SV.poison,
                SV.poison, SV.poison, SV.poison, SV.poison, SV.poison, SV.poison, SV.poison, SV.poison, SV.poison,
                SV.poison, SV.poison, SV.poison, SV.poison, SV.poison, SV.poison, SV.poison, SV.poison, SV.poison,
                SV.poison, SV.poison, SV.poison, SV.poison, SV.poison, SV.poison, SV.poison, SV.poison, SV.poison,
                SV.poison, SV.poison, SV.poison, SV.poison, SV.poison, SV.poison, SV.poison, SV.poison, SV.poison,
                SV.poison, SV.poison, SV.poison, SV.poison, SV.poison, SV.poison, SV.poison, SV.poison, SV.poison,
                SV.poison, SV.poison, SV.poison, SV.poison, SV.poison, SV.poison, SV.poison, SV.poison, SV.poison,
                SV.poison, SV.poison, SV.poison, SV.poison, SV.poison, SV.poison, SV.poison, SV.poison, SV.poison,
                SV.poison, SV.poison, SV.poison, SV.poison, SV.poison, SV.poison, SV.poison, SV.poison, SV.poison,
                SV.poison, SV.poison, SV.poison, SV.poison, SV.poison, SV.poison, SV.poison, SV.poison, SV.poison,
                SV.poison, SV.poison, SV.poison, SV.poison, SV.poison, SV.poison, SV.poison, SV.poison, SV.poison,
                SV.poison, SV.poison, SV.poison, SV.poison, SV.poison, SV.poison, SV.poison, SV.poison, SV.poison,
                SV.poison, SV.poison, SV.poison, SV.poison, SV.poison, SV.poison, SV.poison, SV.poison, SV.poison,
                SV.poison, SV.poison, SV.poison, SV.poison, SV.poison, SV.poison, SV.poison, SV.poison, SV.poison,
                SV.poison, SV.poison, SV.poison, SV.poison, SV.poison, SV.poison, SV.poison, SV.poison, SV.poison,
                SV.poison, SV.poison, SV.poison, SV.poison, SV.poison, SV.poison, SV.poison, SV.poison, SV.poison,
                SV.poison, SV.poison, SV.poison, SV.poison, SV.poison],
            mem :=
              [Blk.cells
                  [SV.int IntKind.u32 a.1, SV.int IntKind.u32 a.2, SV.int IntKind.u32 a.3, SV.int IntKind.u32 a.4,
                    SV.int IntKind.u16 a.5, SV.int IntKind.u16 a.6, SV.int IntKind.u16 a.7, SV.int IntKind.u16 a.8,
                    SV.int IntKind.u8 a.9, SV.int IntKind.u8 a.10],
                Blk.cells
                  [SV.int IntKind.u32 b.1, SV.int IntKind.u32 b.2, SV.int IntKind.u32 b.3, SV.int IntKind.u32 b.4,
                    SV.int IntKind.u16 b.5, SV.int IntKind.u16 b.6, SV.int IntKind.u16 b.7, SV.int IntKind.u16 b.8,
                    SV.int IntKind.u8 b.9, SV.int IntKind.u8 b.10],
                Blk.cells
                  [SV.int IntKind.u32 m.1, SV.int IntKind.u32 m.2, SV.int IntKind.u32 m.3, SV.int IntKind.u32 m.4,
                    SV.int IntKind.u16 m.5, SV.int IntKind.u16 m.6, SV.int IntKind.u16 m.7, SV.int IntKind.u16 m.8,
                    SV.int IntKind.u8 m.9, SV.int IntKind.u8 m.10],
                Blk.vec true
                  [CK.i IntKind.u32, CK.i IntKind.u32, CK.i IntKind.u32, CK.i IntKind.u32, CK.i IntKind.u16,
                    CK.i IntKind.u16, CK.i IntKind.u16, CK.i IntKind.u16, CK.i IntKind.u8, CK.i IntKind.u8]
                  (o ++ [[x.1, x.2, a.3, IntKind.u32.wrap (m.3 - (1 : Int)), x.5, x.6, x.7, x.8, x.9, x.10]]) none,
                Blk.cells
                  [SV.int IntKind.u32 x.1, SV.int IntKind.u32 x.2, SV.int IntKind.u32 a.3,
                    SV.int IntKind.u32 (IntKind.u32.wrap (m.3 - (1 : Int))), SV.int IntKind.u16 x.5,
                    SV.int IntKind.u16 x.6, SV.int IntKind.u16 x.7, SV.int IntKind.u16 x.8, SV.int IntKind.u8 x.9,
                    SV.int IntKind.u8 x.10]] }))
      none)
    (some
      (E.nrm,
        {
          tmps :=
            [SV.poison, SV.poison, SV.ptr (0 : Nat) (0 : Nat), SV.ptr ((0 : Nat) + (1 : Nat)) (0 : Nat), SV.poison,
              SV.ptr ((0 : Nat) + (1 : Nat) + (1 : Nat)) (0 : Nat), SV.poison,
              SV.vw ((0 : Nat) + (1 : Nat) + (1 : Nat) + (1 : Nat)),
              SV.ptr ((0 : Nat) + (1 : Nat) + (1 : Nat) + (1 : Nat) + (1 : Nat)) (0 : Nat), SV.poison, SV.poison,
              SV.poison, SV.poison, SV.poison, SV.poison, SV.poison, SV.poison, SV.poison, SV.poison, SV.poison,
              SV.poison, SV.poison, SV.poison, SV.poison, SV.poison, SV.poison, SV.poison, SV.poison, SV.poison,
              SV.poison, SV.poison, SV.poison, SV.poison, SV.poison, SV.poison, SV.poison, SV.poison, SV.poison,
              SV.poison, SV.poison, SV.poison, SV.poison, SV.poison, SV.poison, SV.poison, SV.poison, SV.poison,
              SV.poison, SV.poison, SV.poison, SV.poison, SV.poison, SV.poison, SV.poison, SV.poison, SV.poison,
              SV.poison, SV.poison, SV.poison, SV.poison, SV.poison, SV.poison, SV.poison, SV.poison, SV.poison,
              SV.poison, SV.poison, SV.poison, SV.poison, SV.poison, SV.poison, SV.poison, SV.poison, SV.poison,
              SV.poison, SV.poison, SV.poison, SV.poison, SV.poison, SV.poison, SV.poison, SV.poison, SV.poison,
              SV.poison, SV.poison, SV.poison, SV.poison, SV.poison, SV.poison, SV.poison, SV.poison, SV.poison,
              SV.poison, SV.poison, SV.poison, SV.poison, SV.poison, SV.poison, SV.poison, SV.poison, SV.poison,
              SV.poison, SV.poison, SV.poison, SV.poison, SV.poison, SV.poison, SV.poison, SV.poison, SV.poison,
              SV.poison, SV.poison, SV.poison, SV.poison, SV.poison, SV.poison, SV.poison, SV.poison, SV.poison,
              SV.poison, SV.poison, SV.poison, SV.poison, SV.poison, SV.poison, SV.poison, SV.poison, SV.poison,
              SV.poison, SV.poison, SV.poison, SV.poison, SV.poison, SV.poison, SV.poison, SV.poison, SV.poison,
              SV.poison, SV.poison, SV.poison, SV.poison, SV.poison, SV.poison, SV.poison, SV.poison, SV.poison,
              SV.poison, SV.poison, SV.poison, SV.poison, SV.poison, SV.poison, SV.poison, SV.poison, SV.poison,
              SV.poison, SV.poison, SV.poison, SV.poison, SV.poison, SV.poison, SV.poison, SV.poison, SV.poison,
              SV.poison, SV.poison, SV.poison, SV.poison, SV.poison, SV.poison, SV.poison, SV.poison, SV.poison,
              SV.poison, SV.poison, SV.poison, SV.poison, SV.poison, SV.poison, SV.poison, SV.poison, SV.poison,
              SV.poison, SV.poison, SV.poison, SV.poison, SV.poison, SV.poison, SV.poison, SV.poison, SV.poison,
              SV.poison, SV.poison, SV.poison, SV.poison, SV.poison, SV.poison, SV.poison, SV.poison, SV.poison,
              SV.poison, SV.poison, SV.poison, SV.poison, SV.poison, SV.poison, SV.poison, SV.poison, SV.poison,
              SV.poison, SV.poison, SV.poison, SV.poison, SV.poison, SV.poison, SV.poison, SV.poison, SV.poison,
              SV.poison, SV.poison, SV.poison, SV.poison, SV.poison],
          mem :=
            [Blk.cells
                [SV.int IntKind.u32 a.1, SV.int IntKind.u32 a.2, SV.int IntKind.u32 a.3, SV.int IntKind.u32 a.4,
                  SV.int IntKind.u16 a.5, SV.int IntKind.u16 a.6, SV.int IntKind.u16 a.7, SV.int IntKind.u16 a.8,
                  SV.int IntKind.u8 a.9, SV.int IntKind.u8 a.10],
              Blk.cells
                [SV.int IntKind.u32 b.1, SV.int IntKind.u32 b.2, SV.int IntKind.u32 b.3, SV.int IntKind.u32 b.4,
                  SV.int IntKind.u16 b.5, SV.int IntKind.u16 b.6, SV.int IntKind.u16 b.7, SV.int IntKind.u16 b.8,
                  SV.int IntKind.u8 b.9, SV.int IntKind.u8 b.10],
              Blk.cells
                [SV.int IntKind.u32 m.1, SV.int IntKind.u32 m.2, SV.int IntKind.u32 m.3, SV.int IntKind.u32 m.4,
                  SV.int IntKind.u16 m.5, SV.int IntKind.u16 m.6, SV.int IntKind.u16 m.7, SV.int IntKind.u16 m.8,
                  SV.int IntKind.u8 m.9, SV.int IntKind.u8 m.10],
              Blk.vec true
                [CK.i IntKind.u32, CK.i IntKind.u32, CK.i IntKind.u32, CK.i IntKind.u32, CK.i IntKind.u16,
                  CK.i IntKind.u16, CK.i IntKind.u16, CK.i IntKind.u16, CK.i IntKind.u8, CK.i IntKind.u8]
                o none,
              Blk.cells
                [SV.int IntKind.u32 x.1, SV.int IntKind.u32 x.2, SV.int IntKind.u32 x.3, SV.int IntKind.u32 x.4,
                  SV.int IntKind.u16 x.5, SV.int IntKind.u16 x.6, SV.int IntKind.u16 x.7, SV.int IntKind.u16 x.8,
                  SV.int IntKind.u8 x.9, SV.int IntKind.u8 x.10]] })) := by kernel_rfl
def resc2 (ap : AP) (ap1 : AP1) (g : List Row → Bool) (x : Xc) : GT (E × St) := .when (g x.o) (.leaf (.nrm, finc x.a x.b x.m (ap x.c x.o [x.x.sl, x.x.sh, x.a.dl, (IntKind.wrap .u32 (x.m.dl - 1)), x.x.pl, x.x.ph, x.x.ql, x.x.qh, x.x.mv, x.x.mc]) ⟨x.x.sl, x.x.sh, ap1 x.c x.a.dl x.x.dl, ap1 x.c (IntKind.wrap .u32 (x.m.dl - 1)) x.x.dh, x.x.pl, x.x.ph, x.x.ql, x.x.qh, x.x.mv, x.x.mc⟩))
theorem code_c2 : CodeOKP Try.prog 0 nodec2 (fun st => (sumT 223 [79, 2, 3, 5, 7, 8] pickc (resc2 ap ap1 ok_c) st).opt) := by
  refine codeOK (imp := []) (lpc := fun _ => none) (facts G0_ok) 0 1 nodec2 (lpOK_none _) outc 223 [79, 2, 3, 5, 7, 8] pickc (mkc 79) (resc2 ap ap1 ok_c) (pickc_ok 79) ?_
  rintro ⟨c, a, b, m, o, x⟩ e st' h _
  unfold resc2 at h
  obtain ⟨h1, h2⟩ := GT.opt_when h
  have h3 : o.length ≤ 200 := of_decide_eq_true h1
  cases h2
  refine (pc_c2 c a b m o x).trans ?_
  rw [decide_eq_true (show o.length + 1 < 4000000000 by omega)]
  cases c <;> rfl
def annc2 (ap : AP) (ap1 : AP1) (g : List Row → Bool) : Ann := ⟨livec2, 1000000, some (sumT 223 [79, 2, 3, 5, 7, 8] pickc (resc2 ap ap1 g))⟩
noncomputable def nodec3 : Code := nodeOf 14 [1, 0, 1, 1, 1, 1, 1, 1, 1, 1, 1, 1]
def livec3 : List (Nat × Option (List CK)) := [(99, none), (2, none), (3, none), (5, none), (7, some BK), (8, none)]
theorem pc_c3 (c : Bool) (a b m : Bx) (o : List Row) (x : Bx) : pieceP Try.prog G0 ents [] nolp (fun _ => none) 0 1 nodec3 outc (mkc 99 ⟨c, a, b, m, o, x⟩) = sure c
    (sure (decide (o.length + (1 : Nat) < (4000000000 : Nat)))
      (some
        (E.nrm,
          {
            tmps :=
              [SV.poison, SV.poison, SV.ptr (0 : Nat) (0 : Nat), SV.ptr ((0 : Nat) + (1 : Nat)) (0 : Nat), SV.poison,
                SV.ptr ((0 : Nat) + (1 : Nat) + (1 : Nat)) (0 : Nat), SV.poison,
                SV.vw ((0 : Nat) + (1 : Nat) + (1 : Nat) + (1 : Nat)),
                SV.ptr ((0 : Nat) + (1 : Nat) + (1 : Nat) + (1 : Nat) + (1 : Nat)) (0 : Nat), SV.poison, SV.poison,
                SV.poison, SV.poison, SV.poison, SV.poison, SV.poison, SV.poison, SV.poison, SV.poison, SV.poison,
                SV.poison, SV.poison, SV.poison, SV.poison, SV.poison, SV.poison, SV.poison, SV.poison, SV.poison,
                SV.poison, SV.poison, SV.poison, SV.poison, SV.poison, SV.poison, SV.poison, SV.poison, SV.poison,
                SV.poison, SV.poison, SV.poison, SV.poison, SV.poison, SV.poison, SV.poison, SV.poison, SV.poison,
                SV.poison, SV.poison, SV.poison, SV.poison, SV.poison, SV.poison, SV.poison, SV.poison, SV.poison,
                SV.poison, SV.poison, SV.poison, SV.poison, SV.poison, SV.poison, SV.poison, SV.poison, SV.poison,
                SV.poison, SV.poison, SV.poison, SV.poison, SV.poison, SV.poison, SV.poison, SV.poison, SV.poison,
                SV.poison, SV.poison, SV.poison, SV.poison, SV.poison, SV.poison, SV.poison, SV.poison, SV.poison,
                SV.poison, SV.poison, SV.poison, SV.poison, SV.poison, SV.poison, SV.poison, SV.poison, SV.poison,
                SV.poison, SV.poison, SV.poison, SV.poison, SV.poison, SV.poison, SV.poison, SV.poison, SV.poison,
                SV.poison, SV.poison, SV.poison, SV.poison, SV.poison, SV.poison, SV.poison, SV.poison, SV.poison,
                SV.poison, SV.poison, SV.poison, SV.poison, SV.poison, SV.poison, SV.poison, SV.poison, SV.poison,
                SV.poison, SV.poison, SV.poison, SV.poison, SV.poison, SV.poison, SV.poison, SV.poison, SV.poison,
                SV.poison, SV.poison, SV.poison, SV.poison, SV.poison, SV.poison, SV.poison, SV.poison, SV.poison,
                SV.poison, SV.poison, SV.poison, SV.poison, SV.poison, SV.poison, SV.poison, SV.poison, SV.poison,
                SV.poison, SV.poison, SV.poison, SV.poison, SV.poison, SV.poison, SV.poison, SV.poison, SV.poison,
                SV.poison, SV.poison, SV.poison, SV.poison, SV.poison, SV.poison, SV.poison, SV.poison, SV.poison,
                SV.poison, SV.poison, SV.poison, SV.poison, SV.poison, SV.poison, SV.poison, SV.poison, SV.poison,
                SV.poison, SV.poison, SV.poison, SV.poison, SV.poison, SV.poison, SV.poison, SV.poison, SV.poison,
                SV.poison, SV.poison, SV.poison, SV.poison, SV.poison, SV.poison, SV.poison, SV.poison, SV.poison,
                SV.poison, SV.poison, SV.poison, SV.poison, SV.poison, SV.poison, SV.poison, SV.poison, SV.poison,
                SV.poison, SV.poison, SV.poison, SV.poison, SV.poison, SV.poison, SV.poison, SV.poison, SV.poison,
                SV.poison, SV.poison, SV.poison, SV.poison, SV.poison, SV.poison, SV.poison, SV.poison, SV.poison,
                SV.poison, SV.poison, SV.poison, SV.poison, SV.poison],
            mem :=
              [Blk.cells
                  [SV.int IntKind.u32 a.1, SV.int IntKind.u32 a.2, SV.int IntKind.u32 a.3, SV.int IntKind.u32 a.4,
                    SV.int IntKind.u16 a.5, SV.int IntKind.u16 a.6, SV.int IntKind.u16 a.7, SV.int IntKind.u16 a.8,
                    SV.int IntKind.u8 a.9, SV.int IntKind.u8 a.10],
                Blk.cells
                  [SV.int IntKind.u32 b.1, SV.int IntKind.u32 b.2, SV.int IntKind.u32 b.3, SV.int IntKind.u32 b.4,
                    SV.int IntKind.u16 b.5, SV.int IntKind.u16 b.6, SV.int IntKind.u16 b.7, SV.int IntKind.u16 b.8,
                    SV.int IntKind.u8 b.9, SV.int IntKind.u8 b.10],
                Blk.cells
                  [SV.int IntKind.u32 m.1, SV.int IntKind.u32 m.2, SV.int IntKind.u32 m.3, SV.int IntKind.u32 m.4,
                    SV.int IntKind.u16 m.5, SV.int IntKind.u16 m.6, SV.int IntKind.u16 m.7, SV.int IntKind.u16 m.8,
                    SV.int IntKind.u8 m.9, SV.int IntKind.u8 m.10],
                Blk.vec true
                  [CK.i IntKind.u32, CK.i IntKind.u32, CK.i IntKind.u32, CK.i IntKind.u32, CK.i IntKind.u16,
                    CK.i IntKind.u16, CK.i IntKind.u16, CK.i IntKind.u16, CK.i IntKind.u8, CK.i IntKind.u8]
                  (o ++ [[x.1, x.2, IntKind.u32.wrap (m.4 + (1 : Int)), a.4, x.5, x.6, x.7, x.8, x.9, x.10]]) none,
                Blk.cells
                  [SV.int IntKind.u32 x.1, SV.int IntKind.u32 x.2,
                    SV.int IntKind.u32 (IntKind.u32.wrap (m.4 + (1 : Int))), SV.int IntKind.u32 a.4,
                    SV.int IntKind.u16 x.5, SV.int IntKind.u16 x.6, SV.int IntKind.u16 x.7, SV.int IntKind.u16 x.8,
                    SV.int IntKind.u8 x.9, SV.int IntKind.u8 x.10]] }))
      none)
    (some
      (E.nrm,
        {
          tmps :=
            [SV.poison, SV.poison, SV.ptr (0 : Nat) (0 : Nat), SV.ptr ((0 : Nat) + (1 : Nat)) (0 : Nat), SV.poison,
              SV.ptr ((0 : Nat) + (1 : Nat) + (1 : Nat)) (0 : Nat), SV.poison,
              SV.vw ((0 : Nat) + (1 : Nat) + (1 : Nat) + (1 : Nat)),
              SV.ptr ((0 : Nat) + (1 : Nat) + (1 : Nat) + (1 : Nat) + (1 : Nat)) (0 : Nat), SV.poison, SV.poison,
              SV.poison, SV.poison, SV.poison, SV.poison, SV.poison, SV.poison, SV.poison, SV.poison, SV.poison,
              SV.poison, SV.poison, SV.poison, SV.poison, SV.poison, SV.poison, SV.poison, SV.poison, SV.poison,
              SV.poison, SV.poison, SV.poison, SV.poison, SV.poison, SV.poison, SV.poison, SV.poison, SV.poison,
              SV.poison, SV.poison, SV.poison, SV.poison, SV.poison, SV.poison, SV.poison, SV.poison, SV.poison,
              SV.poison, SV.poison, SV.poison, SV.poison, SV.poison, SV.poison, SV.poison, SV.poison, SV.poison,
              SV.poison, SV.poison, SV.poison, SV.poison, SV.poison, SV.poison, SV.poison, SV.poison, SV.poison,
              SV.poison, SV.poison, SV.poison, SV.poison, SV.poison, SV.poison, SV.poison, SV.poison, SV.poison,
              SV.poison, SV.poison, SV.poison, SV.poison, SV.poison, SV.poison, SV.poison, SV.poison, SV.poison,
              SV.poison, SV.poison, SV.poison, SV.poison, SV.poison, SV.poison, SV.poison, SV.poison, SV.poison,
              SV.poison, SV.poison, SV.poison, SV.poison, SV.poison, SV.poison, SV.poison, SV.poison, SV.poison,
              SV.poison, SV.poison, SV.poison, SV.poison, SV.poison, SV.poison, SV.poison, SV.poison, SV.poison,
              SV.poison, SV.poison, SV.poison, SV.poison, SV.poison, SV.poison, SV.poison, SV.poison, SV.poison,
              SV.poison, SV.poison, SV.poison, SV.poison, SV.poison, SV.poison, SV.poison, SV.poison, SV.poison,
              SV.poison, SV.poison, SV.poison, SV.poison, SV.poison, SV.poison, SV.poison, SV.poison, SV.poison,
              SV.poison, SV.poison, SV.poison, SV.poison, SV.poison, SV.poison, SV.poison, SV.poison, SV.poison,
              SV.poison, SV.poison, SV.poison, SV.poison, SV.poison, SV.poison, SV.poison, SV.poison, SV.poison,
              SV.poison, SV.poison, SV.poison, SV.poison, SV.poison, SV.poison, SV.poison, SV.poison, SV.poison,
              SV.poison, SV.poison, SV.poison, SV.poison, SV.poison, SV.poison, SV.poison, SV.poison, SV.poison,
              SV.poison, SV.poison, SV.poison, SV.poison, SV.poison, SV.poison, SV.poison, SV.poison, SV.poison,
              SV.poison, SV.poison, SV.poison, SV.poison, SV.poison, SV.poison, SV.poison, SV.poison, SV.poison,
              SV.poison, SV.poison, SV.poison, SV.poison, SV.poison, SV.poison, SV.poison, SV.poison, SV.poison,
              SV.poison, SV.poison, SV.poison, SV.poison, SV.poison, SV.poison, SV.poison, SV.poison, SV.poison,
              SV.poison, SV.poison, SV.poison, SV.poison, SV.poison, SV.poison, SV.poison, SV.poison, SV.poison,
              SV.poison, SV.poison, SV.poison, SV.poison, SV.poison],
          mem :=
            [Blk.cells
                [SV.int IntKind.u32 a.1, SV.int IntKind.u32 a.2, SV.int IntKind.u32 a.3, SV.int IntKind.u32 a.4,
                  SV.int IntKind.u16 a.5, SV.int IntKind.u16 a.6, SV.int IntKind.u16 a.7, SV.int IntKind.u16 a.8,
                  SV.int IntKind.u8 a.9, SV.int IntKind.u8 a.10],
              Blk.cells
                [SV.int IntKind.u32 b.1, SV.int IntKind.u32 b.2, SV.int IntKind.u32 b.3, SV.int IntKind.u32 b.4,
                  SV.int IntKind.u16 b.5, SV.int IntKind.u16 b.6, SV.int IntKind.u16 b.7, SV.int IntKind.u16 b.8,
                  SV.int IntKind.u8 b.9, SV.int IntKind.u8 b.10],
              Blk.cells
                [SV.int IntKind.u32 m.1, SV.int IntKind.u32 m.2, SV.int IntKind.u32 m.3, SV.int IntKind.u32 m.4,
                  SV.int IntKind.u16 m.5, SV.int IntKind.u16 m.6, SV.int IntKind.u16 m.7, SV.int IntKind.u16 m.8,
                  SV.int IntKind.u8 m.9, SV.int IntKind.u8 m.10],
              Blk.vec true
                [CK.i IntKind.u32, CK.i IntKind.u32, CK.i IntKind.u32, CK.i IntKind.u32, CK.i IntKind.u16,
                  CK.i IntKind.u16, CK.i IntKind.u16, CK.i IntKind.u16, CK.i IntKind.u8, CK.i IntKind.u8]
                o none,
              Blk.cells
                [SV.int IntKind.u32 x.1, SV.int IntKind.u32 x.2, SV.int IntKind.u32 x.3, SV.int IntKind.u32 x.4,
                  SV.int IntKind.u16 x.5, SV.int IntKind.u16 x.6, SV.int IntKind.u16 x.7, SV.int IntKind.u16 x.8,
                  SV.int IntKind.u8 x.9, SV.int IntKind.u8 x.10]] })) := by kernel_rfl
def resc3 (ap : AP) (ap1 : AP1) (g : List Row → Bool) (x : Xc) : GT (E × St) := .when (g x.o) (.leaf (.nrm, finc x.a x.b x.m (ap x.c x.o [x.x.sl, x.x.sh, (IntKind.wrap .u32 (x.m.dh + 1)), x.a.dh, x.x.pl, x.x.ph, x.x.ql, x.x.qh, x.x.mv, x.x.mc]) ⟨x.x.sl, x.x.sh, ap1 x.c (IntKind.wrap .u32 (x.m.dh + 1)) x.x.dl, ap1 x.c x.a.dh x.x.dh, x.x.pl, x.x.ph, x.x.ql, x.x.qh, x.x.mv, x.x.mc⟩))
theorem code_c3 : CodeOKP Try.prog 0 nodec3 (fun st => (sumT 223 [99, 2, 3, 5, 7, 8] pickc (resc3 ap ap1 ok_c) st).opt) := by
  refine codeOK (imp := []) (lpc := fun _ => none) (facts G0_ok) 0 1 nodec3 (lpOK_none _) outc 223 [99, 2, 3, 5, 7, 8] pickc (mkc 99) (resc3 ap ap1 ok_c) (pickc_ok 99) ?_
  rintro ⟨c, a, b, m, o, x⟩ e st' h _
  unfold resc3 at h
  obtain ⟨h1, h2⟩ := GT.opt_when h
  have h3 : o.length ≤ 200 := of_decide_eq_true h1
  cases h2
  refine (pc_c3 c a b m o x).trans ?_
  rw [decide_eq_true (show o.length + 1 < 4000000000 by omega)]
  cases c <;> rfl
def annc3 (ap : AP) (ap1 : AP1) (g : List Row → Bool) : Ann := ⟨livec3, 1000000, some (sumT 223 [99, 2, 3, 5, 7, 8] pickc (resc3 ap ap1 g))⟩
noncomputable def nodec4 : Code := nodeOf 14 [1, 0, 1, 1, 1, 1, 1, 1, 1, 1, 1, 1, 1, 1]
def livec4 : List (Nat × Option (List CK)) := [(122, none), (2, none), (3, none), (5, none), (7, some BK), (8, none)]
theorem pc_c4 (c : Bool) (a b m : Bx) (o : List Row) (x : Bx) : pieceP Try.prog G0 ents [] nolp (fun _ => none) 0 1 nodec4 outc (mkc 122 ⟨c, a, b, m, o, x⟩) = sure c
    (sure (decide (o.length + (1 : Nat) < (4000000000 : Nat)))
      (some
        (E.nrm,
          {
            tmps :=
              [SV.poison, SV.poison, SV.ptr (0 : Nat) (0 : Nat), SV.ptr ((0 : Nat) + (1 : Nat)) (0 : Nat), SV.poison,
                SV.ptr ((0 : Nat) + (1 : Nat) + (1 : Nat)) (0 : Nat), SV.poison,
                SV.vw ((0 : Nat) + (1 : Nat) + (1 : Nat) + (1 : Nat)),
                SV.ptr ((0 : Nat) + (1 : Nat) + (1 : Nat) + (1 : Nat) + (1 : Nat)) (0 : Nat), SV.poison, SV.poison,
                SV.poison, SV.poison, SV.poison, SV.poison, SV.poison, SV.poison, SV.poison, SV.poison, SV.poison,
                SV.poison, SV.poison, SV.poison, SV.poison, SV.poison, SV.poison, SV.poison, SV.poison, SV.poison,
                SV.poison, SV.poison, SV.poison, SV.poison, SV.poison, SV.poison, SV.poison, SV.poison, SV.poison,
                SV.poison, SV.poison, SV.poison, SV.poison, SV.poison, SV.poison, SV.poison, SV.poison, SV.poison,
                SV.poison, SV.poison, SV.poison, SV.poison, SV.poison, SV.poison, SV.poison, SV.poison, SV.poison,
                SV.poison, SV.poison, SV.poison, SV.poison, SV.poison, SV.poison, SV.poison, SV.poison, SV.poison,
                SV.poison, SV.poison, SV.poison, SV.poison, SV.poison, SV.poison, SV.poison, SV.poison, SV.poison,
                SV.poison, SV.poison, SV.poison, SV.poison, SV.poison, SV.poison, SV.poison, SV.poison, SV.poison,
                SV.poison, SV.poison, SV.poison, SV.poison, SV.poison, SV.poison, SV.poison, SV.poison, SV.poison,
                SV.poison, SV.poison, SV.poison, SV.poison, SV.poison, SV.poison, SV.poison, SV.poison, SV.poison,
                SV.poison, SV.poison, SV.poison, SV.poison, SV.poison, SV.poison, SV.poison, SV.poison, SV.poison,
                SV.poison, SV.poison, SV.poison, SV.poison, SV.poison, SV.poison, SV.poison, SV.poison, SV.poison,
                SV.poison, SV.poison, SV.poison, SV.poison, SV.poison, SV.poison, SV.poison, SV.poison, SV.poison,
                SV.poison, SV.poison, SV.poison, SV.poison, SV.poison, SV.poison, SV.poison, SV.poison, SV.poison,
                SV.poison, SV.poison, SV.poison, SV.poison, SV.poison, SV.poison, SV.poison, SV.poison, SV.poison,
                SV.poison, SV.poison, SV.poison, SV.poison, SV.poison, SV.poison, SV.poison, SV.poison, SV.poison,
                SV.poison, SV.poison, SV.poison, SV.poison, SV.poison, SV.poison, SV.poison, SV.poison, SV.poison,
                SV.poison, SV.poison, SV.poison, SV.poison, SV.poison, SV.poison, SV.poison, SV.poison, SV.poison,
                SV.poison, SV.poison, SV.poison, SV.poison, SV.poison, SV.poison, SV.poison, SV.poison, SV.poison,
                SV.poison, SV.poison, SV.poison, SV.poison, SV.poison, SV.poison, SV.poison, SV.poison, SV.poison,
                SV.poison, SV.poison, SV.poison, SV.poison, SV.poison, SV.poison, SV.poison, SV.poison, SV.poison,
                SV.poison, SV.poison, SV.poison, SV.poison, SV.poison, SV.poison, SV.poison, SV.poison, SV.poison,
                SV.poison, SV.poison, SV.poison, SV.poison, SV.poison, SV.poison, SV.poison, SV.poison, SV.poison,
                SV.poison, SV.poison, SV.poison, SV.poison, SV.poison],
            mem :=
              [Blk.cells
                  [SV.int IntKind.u32 a.1, SV.int IntKind.u32 a.2, SV.int IntKind.u32 a.3, SV.int IntKind.u32 a.4,
                    SV.int IntKind.u16 a.5, SV.int IntKind.u16 a.6, SV.int IntKind.u16 a.7, SV.int IntKind.u16 a.8,
                    SV.int IntKind.u8 a.9, SV.int IntKind.u8 a.10],
                Blk.cells
                  [SV.int IntKind.u32 b.1, SV.int IntKind.u32 b.2, SV.int IntKind.u32 b.3, SV.int IntKind.u32 b.4,
                    SV.int IntKind.u16 b.5, SV.int IntKind.u16 b.6, SV.int IntKind.u16 b.7, SV.int IntKind.u16 b.8,
                    SV.int IntKind.u8 b.9, SV.int IntKind.u8 b.10],
                Blk.cells
                  [SV.int IntKind.u32 m.1, SV.int IntKind.u32 m.2, SV.int IntKind.u32 m.3, SV.int IntKind.u32 m.4,
                    SV.int IntKind.u16 m.5, SV.int IntKind.u16 m.6, SV.int IntKind.u16 m.7, SV.int IntKind.u16 m.8,
                    SV.int IntKind.u8 m.9, SV.int IntKind.u8 m.10],
                Blk.vec true
                  [CK.i IntKind.u32, CK.i IntKind.u32, CK.i IntKind.u32, CK.i IntKind.u32, CK.i IntKind.u16,
                    CK.i IntKind.u16, CK.i IntKind.u16, CK.i IntKind.u16, CK.i IntKind.u8, CK.i IntKind.u8]
                  (o ++ [[x.1, x.2, x.3, x.4, a.5, IntKind.u16.wrap (m.5 - (1 : Int)), x.7, x.8, x.9, x.10]]) none,
                Blk.cells
                  [SV.int IntKind.u32 x.1, SV.int IntKind.u32 x.2, SV.int IntKind.u32 x.3, SV.int IntKind.u32 x.4,
                    SV.int IntKind.u16 a.5, SV.int IntKind.u16 (IntKind.u16.wrap (m.5 - (1 : Int))),
                    SV.int IntKind.u16 x.7, SV.int IntKind.u16 x.8, SV.int IntKind.u8 x.9, SV.int IntKind.u8 x.10]] }))
      none)
    (some
      (E.nrm,
        {
          tmps :=
            [SV.poison, SV.poison, SV.ptr (0 : Nat) (0 : Nat), SV.ptr ((0 : Nat) + (1 : Nat)) (0 : Nat), SV.poison,
              SV.ptr ((0 : Nat) + (1 : Nat) + (1 : Nat)) (0 : Nat), SV.poison,
              SV.vw ((0 : Nat) + (1 : Nat) + (1 : Nat) + (1 : Nat)),
              SV.ptr ((0 : Nat) + (1 : Nat) + (1 : Nat) + (1 : Nat) + (1 : Nat)) (0 : Nat), SV.poison, SV.poison,
              SV.poison, SV.poison, SV.poison, SV.poison, SV.poison, SV.poison, SV.poison, SV.poison, SV.poison,
              SV.poison, SV.poison, SV.poison, SV.poison, SV.poison, SV.poison, SV.poison, SV.poison, SV.poison,
              SV.poison, SV.poison, SV.poison, SV.poison, SV.poison, SV.poison, SV.poison, SV.poison, SV.poison,
              SV.poison, SV.poison, SV.poison, SV.poison, SV.poison, SV.poison, SV.poison, SV.poison, SV.poison,
              SV.poison, SV.poison, SV.poison, SV.poison, SV.poison, SV.poison, SV.poison, SV.poison, SV.poison,
              SV.poison, SV.poison, SV.poison, SV.poison, SV.poison, SV.poison, SV.poison, SV.poison, SV.poison,
              SV.poison, SV.poison, SV.poison, SV.poison, SV.poison, SV.poison, SV.poison, SV.poison, SV.poison,
              SV.poison, SV.poison, SV.poison, SV.poison, SV.poison, SV.poison, SV.poison, SV.poison, SV.poison,
              SV.poison, SV.poison, SV.poison, SV.poison, SV.poison, SV.poison, SV.poison, SV.poison, SV.poison,
              SV.poison, SV.poison, SV.poison, SV.poison, SV.poison, SV.poison, SV.poison, SV.poison, SV.poison,
              SV.poison, SV.poison, SV.poison, SV.poison, SV.poison, SV.poison, SV.poison, SV.poison, SV.poison,
              SV.poison, SV.poison, SV.poison, SV.poison, SV.poison, SV.poison, SV.poison, SV.poison, SV.poison,
              SV.poison, SV.poison, SV.poison, SV.poison, SV.poison, SV.poison, SV.poison, SV.poison, SV.poison,
              SV.poison, SV.poison, SV.poison, SV.poison, SV.poison, SV.poison, SV.poison, SV.poison, SV.poison,
              SV.poison, SV.poison, SV.poison, SV.poison, SV.poison, SV.poison, SV.poison, SV.poison, SV.poison,
              SV.poison, SV.poison, SV.poison, SV.poison, SV.poison, SV.poison, SV.poison, SV.poison, SV.poison,
              SV.poison, SV.poison, SV.poison, SV.poison, SV.poison, SV.poison, SV.poison, SV.poison, SV.poison,
              SV.poison, SV.poison, SV.poison, SV.poison, SV.poison, SV.poison, SV.poison, SV.poison, SV.poison,
              SV.poison, SV.poison, SV.poison, SV.poison, SV.poison, SV.poison, SV.poison, SV.poison, SV.poison,
              SV.poison, SV.poison, SV.poison, SV.poison, SV.poison, SV.poison, SV.poison, SV.poison, SV.poison,
              SV.poison, SV.poison, SV.poison, SV.poison, SV.poison, SV.poison, SV.poison, SV.poison, SV.poison,
              SV.poison, SV.poison, SV.poison, SV.poison, SV.poison, SV.poison, SV.poison, SV.poison, SV.poison,
              SV.poison, SV.poison, SV.poison, SV.poison, SV.poison, SV.poison, SV.poison, SV.poison, SV.poison,
              SV.poison, SV.poison, SV.poison, SV.poison, SV.poison],
          mem :=
            [Blk.cells
                [SV.int IntKind.u32 a.1, SV.int IntKind.u32 a.2, SV.int IntKind.u32 a.3, SV.int IntKind.u32 a.4,
                  SV.int IntKind.u16 a.5, SV.int IntKind.u16 a.6, SV.int IntKind.u16 a.7, SV.int IntKind.u16 a.8,
                  SV.int IntKind.u8 a.9, SV.int IntKind.u8 a.10],
              Blk.cells
                [SV.int IntKind.u32 b.1, SV.int IntKind.u32 b.2, SV.int IntKind.u32 b.3, SV.int IntKind.u32 b.4,
                  SV.int IntKind.u16 b.5, SV.int IntKind.u16 b.6, SV.int IntKind.u16 b.7, SV.int IntKind.u16 b.8,
                  SV.int IntKind.u8 b.9, SV.int IntKind.u8 b.10],
              Blk.cells
                [SV.int IntKind.u32 m.1, SV.int IntKind.u32 m.2, SV.int IntKind.u32 m.3, SV.int IntKind.u32 m.4,
                  SV.int IntKind.u16 m.5, SV.int IntKind.u16 m.6, SV.int IntKind.u16 m.7, SV.int IntKind.u16 m.8,
                  SV.int IntKind.u8 m.9, SV.int IntKind.u8 m.10],
              Blk.vec true
                [CK.i IntKind.u32, CK.i IntKind.u32, CK.i IntKind.u32, CK.i IntKind.u32, CK.i IntKind.u16,
                  CK.i IntKind.u16, CK.i IntKind.u16, CK.i IntKind.u16, CK.i IntKind.u8, CK.i IntKind.u8]
                o none,
              Blk.cells
                [SV.int IntKind.u32 x.1, SV.int IntKind.u32 x.2, SV.int IntKind.u32 x.3, SV.int IntKind.u32 x.4,
                  SV.int IntKind.u16 x.5, SV.int IntKind.u16 x.6, SV.int IntKind.u16 x.7, SV.int IntKind.u16 x.8,
                  SV.int IntKind.u8 x.9, SV.int IntKind.u8 x.10]] })) := by kernel_rfl
def resc4 (ap : AP) (ap1 : AP1) (g : List Row → Bool) (x : Xc) : GT (E × St) := .when (g x.o) (.leaf (.nrm, finc x.a x.b x.m (ap x.c x.o [x.x.sl, x.x.sh, x.x.dl, x.x.dh, x.a.pl, (IntKind.wrap .u16 (x.m.pl - 1)), x.x.ql, x.x.qh, x.x.mv, x.x.mc]) ⟨x.x.sl, x.x.sh, x.x.dl, x.x.dh, ap1 x.c x.a.pl x.x.pl, ap1 x.c (IntKind.wrap .u16 (x.m.pl - 1)) x.x.ph, x.x.ql, x.x.qh, x.x.mv, x.x.mc⟩))
theorem code_c4 : CodeOKP Try.prog 0 nodec4 (fun st => (sumT 223 [122, 2, 3, 5, 7, 8] pickc (resc4 ap ap1 ok_c) st).opt) := by
  refine codeOK (imp := []) (lpc := fun _ => none) (facts G0_ok) 0 1 nodec4 (lpOK_none _) outc 223 [122, 2, 3, 5, 7, 8] pickc (mkc 122) (resc4 ap ap1 ok_c) (pickc_ok 122) ?_
  rintro ⟨c, a, b, m, o, x⟩ e st' h _
  unfold resc4 at h
  obtain ⟨h1, h2⟩ := GT.opt_when h
  have h3 : o.length ≤ 200 := of_decide_eq_true h1
  cases h2
  refine (pc_c4 c a b m o x).trans ?_
  rw [decide_eq_true (show o.length + 1 < 4000000000 by omega)]
  cases c <;> rfl
def annc4 (ap : AP) (ap1 : AP1) (g : List Row → Bool) : Ann := ⟨livec4, 1000000, some (sumT 223 [122, 2, 3, 5, 7, 8] pickc (resc4 ap ap1 g))⟩
noncomputable def nodec5 : Code := nodeOf 14 [1, 0, 1, 1, 1, 1, 1, 1, 1, 1, 1, 1, 1, 1, 1]
def livec5 : List (Nat × Option (List CK)) := [(142, none), (2, none), (3, none), (5, none), (7, some BK), (8, none)]
theorem pc_c5 (c : Bool) (a b m : Bx) (o : List Row) (x : Bx) : pieceP Try.prog G0 ents [] nolp (fun _ => none) 0 1 nodec5 outc (mkc 142 ⟨c, a, b, m, o, x⟩) = sure c
    (sure (decide (o.length + (1 : Nat) < (4000000000 : Nat)))
      (some
        (E.nrm,
          {
            tmps :=
              [SV.poison, SV.poison, SV.ptr (0 : Nat) (0 : Nat), SV.ptr ((0 : Nat) + (1 : Nat)) (0 : Nat), SV.poison,
                SV.ptr ((0 : Nat) + (1 : Nat) + (1 : Nat)) (0 : Nat), SV.poison,
                SV.vw ((0 : Nat) + (1 : Nat) + (1 : Nat) + (1 : Nat)),
                SV.ptr ((0 : Nat) + (1 : Nat) + (1 : Nat) + (1 : Nat) + (1 : Nat)) (0 : Nat), SV.poison, SV.poison,
                SV.poison, SV.poison, SV.poison, SV.poison, SV.poison, SV.poison, SV.poison, SV.poison, SV.poison,
                SV.poison, SV.poison, SV.poison, SV.poison, SV.poison, SV.poison, SV.poison, SV.poison, SV.poison,
                SV.poison, SV.poison, SV.poison, SV.poison, SV.poison, SV.poison, SV.poison, SV.poison, SV.poison,
                SV.poison, SV.poison, SV.poison, SV.poison, SV.poison, SV.poison, SV.poison, SV.poison, SV.poison,
                SV.poison, SV.poison, SV.poison, SV.poison, SV.poison, SV.poison, SV.poison, SV.poison, SV.poison,
                SV.poison, SV.poison, SV.poison, SV.poison, SV.poison, SV.poison, SV.poison, SV.poison, SV.poison,
                SV.poison, SV.poison, SV.poison, SV.poison, SV.poison, SV.poison, SV.poison, SV.poison, SV.poison,
                SV.poison, SV.poison, SV.poison, SV.poison, SV.poison, SV.poison, SV.poison, SV.poison, SV.poison,
                SV.poison, SV.poison, SV.poison, SV.poison, SV.poison, SV.poison, SV.poison, SV.poison, SV.poison,
                SV.poison, SV.poison, SV.poison, SV.poison, SV.poison, SV.poison, SV.poison, SV.poison, SV.poison,
                SV.poison, SV.poison, SV.poison, SV.poison, SV.poison, SV.poison, SV.poison, SV.poison, SV.poison,
                SV.poison, SV.poison, SV.poison, SV.poison, SV.poison, SV.poison, SV.poison, SV.poison, SV.poison,
                SV.poison, SV.poison, SV.poison, SV.poison, SV.poison, SV.poison, SV.poison, SV.poison, SV.poison,
                SV.poison, SV.poison, SV.poison, SV.poison, SV.poison, SV.poison, SV.poison, SV.poison, SV.poison,
                SV.poison, SV.poison, SV.poison, SV.poison, SV.poison, SV.poison, SV.poison, SV.poison, SV.poison,
                SV.poison, SV.poison, SV.poison, SV.poison, SV.poison, SV.poison, SV.poison, SV.poison, SV.poison,
                SV.poison, SV.poison, SV.poison, SV.poison, SV.poison, SV.poison, SV.poison, SV.poison, SV.poison,
                SV.poison, SV.poison, SV.poison, SV.poison, SV.poison, SV.poison, SV.poison, SV.poison, SV.poison,
                SV.poison, SV.poison, SV.poison, SV.poison, SV.poison, SV.poison, SV.poison, SV.poison, SV.poison,
                SV.poison, SV.poison, SV.poison, SV.poison, SV.poison, SV.poison, SV.poison, SV.poison, SV.poison,
                SV.poison, SV.poison, SV.poison, SV.poison, SV.poison, SV.poison, SV.poison, SV.poison, SV.poison,
                SV.poison, SV.poison, SV.poison, SV.poison, SV.poison, SV.poison, SV.poison, SV.poison, SV.poison,
                SV.poison, SV.poison, SV.poison, SV.poison, SV.poison, SV.poison, SV.poison, SV.poison, SV.poison,
                SV.poison, SV.poison, SV.poison, SV.poison, SV.poison],
            mem :=
              [Blk.cells
                  [SV.int IntKind.u32 a.1, SV.int IntKind.u32 a.2, SV.int IntKind.u32 a.3, SV.int IntKind.u32 a.4,
                    SV.int IntKind.u16 a.5, SV.int IntKind.u16 a.6, SV.int IntKind.u16 a.7, SV.int IntKind.u16 a.8,
                    SV.int IntKind.u8 a.9, SV.int IntKind.u8 a.10],
                Blk.cells
                  [SV.int IntKind.u32 b.1, SV.int IntKind.u32 b.2, SV.int IntKind.u32 b.3, SV.int IntKind.u32 b.4,
                    SV.int IntKind.u16 b.5, SV.int IntKind.u16 b.6, SV.int IntKind.u16 b.7, SV.int IntKind.u16 b.8,
                    SV.int IntKind.u8 b.9, SV.int IntKind.u8 b.10],
                Blk.cells
                  [SV.int IntKind.u32 m.1, SV.int IntKind.u32 m.2, SV.int IntKind.u32 m.3, SV.int IntKind.u32 m.4,
                    SV.int IntKind.u16 m.5, SV.int IntKind.u16 m.6, SV.int IntKind.u16 m.7, SV.int IntKind.u16 m.8,
                    SV.int IntKind.u8 m.9, SV.int IntKind.u8 m.10],
                Blk.vec true
                  [CK.i IntKind.u32, CK.i IntKind.u32, CK.i IntKind.u32, CK.i IntKind.u32, CK.i IntKind.u16,
                    CK.i IntKind.u16, CK.i IntKind.u16, CK.i IntKind.u16, CK.i IntKind.u8, CK.i IntKind.u8]
                  (o ++ [[x.1, x.2, x.3, x.4, IntKind.u16.wrap (m.6 + (1 : Int)), a.6, x.7, x.8, x.9, x.10]]) none,
                Blk.cells
                  [SV.int IntKind.u32 x.1, SV.int IntKind.u32 x.2, SV.int IntKind.u32 x.3, SV.int IntKind.u32 x.4,
                    SV.int IntKind.u16 (IntKind.u16.wrap (m.6 + (1 : Int))), SV.int IntKind.u16 a.6,
                    SV.int IntKind.u16 x.7, SV.int IntKind.u16 x.8, SV.int IntKind.u8 x.9, SV.int IntKind.u8 x.10]] }))
      none)
    (some
      (E.nrm,
        {
          tmps :=
            [SV.poison, SV.poison, SV.ptr (0 : Nat) (0 : Nat), SV.ptr ((0 : Nat) + (1 : Nat)) (0 : Nat), SV.poison,
              SV.ptr ((0 : Nat) + (1 : Nat) + (1 : Nat)) (0 : Nat), SV.poison,
              SV.vw ((0 : Nat) + (1 : Nat) + (1 : Nat) + (1 : Nat)),
              SV.ptr ((0 : Nat) + (1 : Nat) + (1 : Nat) + (1 : Nat) + (1 : Nat)) (0 : Nat), SV.poison, SV.poison,
              SV.poison, SV.poison, SV.poison, SV.poison, SV.poison, SV.poison, SV.poison, SV.poison, SV.poison,
              SV.poison, SV.poison, SV.poison, SV.poison, SV.poison, SV.poison, SV.poison, SV.poison, SV.poison,
              SV.poison, SV.poison, SV.poison, SV.poison, SV.poison, SV.poison, SV.poison, SV.poison, SV.poison,
              SV.poison, SV.poison, SV.poison, SV.poison, SV.poison, SV.poison, SV.poison, SV.poison, SV.poison,
              SV.poison, SV.poison, SV.poison, SV.poison, SV.poison, SV.poison, SV.poison, SV.poison, SV.poison,
              SV.poison, SV.poison, SV.poison, SV.poison, SV.poison, SV.poison, SV.poison, SV.poison, SV.poison,
              SV.poison, SV.poison, SV.poison, SV.poison, SV.poison, SV.poison, SV.poison, SV.poison, SV.poison,
              SV.poison, SV.poison, SV.poison, SV.poison, SV.poison, SV.poison, SV.poison, SV.poison, SV.poison,
              SV.poison, SV.poison, SV.poison, SV.poison, SV.poison, SV.poison, SV.poison, SV.poison, SV.poison,
              SV.poison, SV.poison, SV.poison, SV.poison, SV.poison, SV.poison, SV.poison, SV.poison, SV.poison,
              SV.poison, SV.poison, SV.poison, SV.poison, SV.poison, SV.poison, SV.poison, SV.poison, SV.poison,
              SV.poison, SV.poison, SV.poison, SV.poison, SV.poison, SV.poison, SV.poison, SV.poison, SV.poison,
              SV.poison, SV.poison, SV.poison, SV.poison, SV.poison, SV.poison, SV.poison, SV.poison, SV.poison,
              SV.poison, SV.poison, SV.poison, SV.poison, SV.poison, SV.poison, SV.poison, SV.poison, SV.poison,
              SV.poison, SV.poison, SV.poison, SV.poison, SV.poison, SV.poison, SV.poison, SV.poison, SV.poison,
              SV.poison, SV.poison, SV.poison, SV.poison, SV.poison, SV.poison, SV.poison, SV.poison, SV.poison,
              SV.poison, SV.poison, SV.poison, SV.poison, SV.poison, SV.poison, SV.poison, SV.poison, SV.poison,
              SV.poison, SV.poison, SV.poison, SV.poison, SV.poison, SV.poison, SV.poison, SV.poison, SV.poison,
              SV.poison, SV.poison, SV.poison, SV.poison, SV.poison, SV.poison, SV.poison, SV.poison, SV.poison,
              SV.poison, SV.poison, SV.poison, SV.poison, SV.poison, SV.poison, SV.poison, SV.poison, SV.poison,
              SV.poison, SV.poison, SV.poison, SV.poison, SV.poison, SV.poison, SV.poison, SV.poison, SV.poison,
              SV.poison, SV.poison, SV.poison, SV.poison, SV.poison, SV.poison, SV.poison, SV.poison, SV.poison,
              SV.poison, SV.poison, SV.poison, SV.poison, SV.poison, SV.poison, SV.poison, SV.poison, SV.poison,
              SV.poison, SV.poison, SV.poison, SV.poison, SV.poison],
          mem :=
            [Blk.cells
                [SV.int IntKind.u32 a.1, SV.int IntKind.u32 a.2, SV.int IntKind.u32 a.3, SV.int IntKind.u32 a.4,
                  SV.int IntKind.u16 a.5, SV.int IntKind.u16 a.6, SV.int IntKind.u16 a.7, SV.int IntKind.u16 a.8,
                  SV.int IntKind.u8 a.9, SV.int IntKind.u8 a.10],
              Blk.cells
                [SV.int IntKind.u32 b.1, SV.int IntKind.u32 b.2, SV.int IntKind.u32 b.3, SV.int IntKind.u32 b.4,
                  SV.int IntKind.u16 b.5, SV.int IntKind.u16 b.6, SV.int IntKind.u16 b.7, SV.int IntKind.u16 b.8,
                  SV.int IntKind.u8 b.9, SV.int IntKind.u8 b.10],
              Blk.cells
                [SV.int IntKind.u32 m.1, SV.int IntKind.u32 m.2, SV.int IntKind.u32 m.3, SV.int IntKind.u32 m.4,
                  SV.int IntKind.u16 m.5, SV.int IntKind.u16 m.6, SV.int IntKind.u16 m.7, SV.int IntKind.u16 m.8,
                  SV.int IntKind.u8 m.9, SV.int IntKind.u8 m.10],
              Blk.vec true
                [CK.i IntKind.u32, CK.i IntKind.u32, CK.i IntKind.u32, CK.i IntKind.u32, CK.i IntKind.u16,
                  CK.i IntKind.u16, CK.i IntKind.u16, CK.i IntKind.u16, CK.i IntKind.u8, CK.i IntKind.u8]
                o none,
              Blk.cells
                [SV.int IntKind.u32 x.1, SV.int IntKind.u32 x.2, SV.int IntKind.u32 x.3, SV.int IntKind.u32 x.4,
                  SV.int IntKind.u16 x.5, SV.int IntKind.u16 x.6, SV.int IntKind.u16 x.7, SV.int IntKind.u16 x.8,
                  SV.int IntKind.u8 x.9, SV.int IntKind.u8 x.10]] })) := by kernel_rfl
def resc5 (ap : AP) (ap1 : AP1) (g : List Row → Bool) (x : Xc) : GT (E × St) := .when (g x.o) (.leaf (.nrm, finc x.a x.b x.m (ap x.c x.o [x.x.sl, x.x.sh, x.x.dl, x.x.dh, (IntKind.wrap .u16 (x.m.ph + 1)), x.a.ph, x.x.ql, x.x.qh, x.x.mv, x.x.mc]) ⟨x.x.sl, x.x.sh, x.x.dl, x.x.dh, ap1 x.c (IntKind.wrap .u16 (x.m.ph + 1)) x.x.pl, ap1 x.c x.a.ph x.x.ph, x.x.ql, x.x.qh, x.x.mv, x.x.mc⟩))
theorem code_c5 : CodeOKP Try.prog 0 nodec5 (fun st => (sumT 223 [142, 2, 3, 5, 7, 8] pickc (resc5 ap ap1 ok_c) st).opt) := by
  refine codeOK (imp := []) (lpc := fun _ => none) (facts G0_ok) 0 1 nodec5 (lpOK_none _) outc 223 [142, 2, 3, 5, 7, 8] pickc (mkc 142) (resc5 ap ap1 ok_c) (pickc_ok 142) ?_
  rintro ⟨c, a, b, m, o, x⟩ e st' h _
  unfold resc5 at h
  obtain ⟨h1, h2⟩ := GT.opt_when h
  have h3 : o.length ≤ 200 := of_decide_eq_true h1
  cases h2
  refine (pc_c5 c a b m o x).trans ?_
  rw [decide_eq_true (show o.length + 1 < 4000000000 by omega)]
  cases c <;> rfl
def annc5 (ap : AP) (ap1 : AP1) (g : List Row → Bool) : Ann := ⟨livec5, 1000000, some (sumT 223 [142, 2, 3, 5, 7, 8] pickc (resc5 ap ap1 g))⟩
noncomputable def nodec6 : Code := nodeOf 14 [1, 0, 1, 1, 1, 1, 1, 1, 1, 1, 1, 1, 1, 1, 1, 1, 1]
def livec6 : List (Nat × Option (List CK)) := [(165, none), (2, none), (3, none), (5, none), (7, some BK), (8, none)]
theorem pc_c6 (c : Bool) (a b m : Bx) (o : List Row) (x : Bx) : pieceP Try.prog G0 ents [] nolp (fun _ => none) 0 1 nodec6 outc (mkc 165 ⟨c, a, b, m, o, x⟩) = sure c
    (sure (decide (o.length + (1 : Nat) < (4000000000 : Nat)))
      (some
        (E.nrm,
          {
            tmps :=
              [SV.poison, SV.poison, SV.ptr (0 : Nat) (0 : Nat), SV.ptr ((0 : Nat) + (1 : Nat)) (0 : Nat), SV.poison,
                SV.ptr ((0 : Nat) + (1 : Nat) + (1 : Nat)) (0 : Nat), SV.poison,
                SV.vw ((0 : Nat) + (1 : Nat) + (1 : Nat) + (1 : Nat)),
                SV.ptr ((0 : Nat) + (1 : Nat) + (1 : Nat) + (1 : Nat) + (1 : Nat)) (0 : Nat), SV.poison, SV.poison,
                SV.poison, SV.poison, SV.poison, SV.poison, SV.poison, SV.poison, SV.poison, SV.poison, SV.poison,
                SV.poison, SV.poison, SV.poison, SV.poison, SV.poison, SV.poison, SV.poison, SV.poison, SV.poison,
                SV.poison, SV.poison, SV.poison, SV.poison, SV.poison, SV.poison, SV.poison, SV.poison, SV.poison,
                SV.poison, SV.poison, SV.poison, SV.poison, SV.poison, SV.poison, SV.poison, SV.poison, SV.poison,
                SV.poison, SV.poison, SV.poison, SV.poison, SV.poison, SV.poison, SV.poison, SV.poison, SV.poison,
                SV.poison, SV.poison, SV.poison, SV.poison, SV.poison, SV.poison, SV.poison, SV.poison, SV.poison,
                SV.poison, SV.poison, SV.poison, SV.poison, SV.poison, SV.poison, SV.poison, SV.poison, SV.poison,
                SV.poison, SV.poison, SV.poison, SV.poison, SV.poison, SV.poison, SV.poison, SV.poison, SV.poison,
                SV.poison, SV.poison, SV.poison, SV.poison, SV.poison, SV.poison, SV.poison, SV.poison, SV.poison,
                SV.poison, SV.poison, SV.poison, SV.poison, SV.poison, SV.poison, SV.poison, SV.poison, SV.poison,
                SV.poison, SV.poison, SV.poison, SV.poison, SV.poison, SV.poison, SV.poison, SV.poison, SV.poison,
                SV.poison, SV.poison, SV.poison, SV.poison, SV.poison, SV.poison, SV.poison, SV.poison, SV.poison,
                SV.poison, SV.poison, SV.poison, SV.poison, SV.poison, SV.poison, SV.poison, SV.poison, SV.poison,
                SV.poison, SV.poison, SV.poison, SV.poison, SV.poison, SV.poison, SV.poison, SV.poison, SV.poison,
                SV.poison, SV.poison, SV.poison, SV.poison, SV.poison, SV.poison, SV.poison, SV.poison, SV.poison,
                SV.poison, SV.poison, SV.poison, SV.poison, SV.poison, SV.poison, SV.poison, SV.poison, SV.poison,
                SV.poison, SV.poison, SV.poison, SV.poison, SV.poison, SV.poison, SV.poison, SV.poison, SV.poison,
                SV.poison, SV.poison, SV.poison, SV.poison, SV.poison, SV.poison, SV.poison, SV.poison, SV.poison,
                SV.poison, SV.poison, SV.poison, SV.poison, SV.poison, SV.poison, SV.poison, SV.poison, SV.poison,
                SV.poison, SV.poison, SV.poison, SV.poison, SV.poison, SV.poison, SV.poison, SV.poison, SV.poison,
                SV.poison, SV.poison, SV.poison, SV.poison, SV.poison, SV.poison, SV.poison, SV.poison, SV.poison,
                SV.poison, SV.poison, SV.poison, SV.poison, SV.poison, SV.poison, SV.poison, SV.poison, SV.poison,
                SV.poison, SV.poison, SV.poison, SV.poison, SV.poison, SV.poison, SV.poison, SV.poison, SV.poison,
                SV.poison, SV.poison, SV.poison, SV.poison, SV.poison],
            mem :=
              [Blk.cells
                  [SV.int IntKind.u32 a.1, SV.int IntKind.u32 a.2, SV.int IntKind.u32 a.3, SV.int IntKind.u32 a.4,
                    SV.int IntKind.u16 a.5, SV.int IntKind.u16 a.6, SV.int IntKind.u16 a.7, SV.int IntKind.u16 a.8,
                    SV.int IntKind.u8 a.9, SV.int IntKind.u8 a.10],
                Blk.cells
                  [SV.int IntKind.u32 b.1, SV.int IntKind.u32 b.2, SV.int IntKind.u32 b.3, SV.int IntKind.u32 b.4,
                    SV.int IntKind.u16 b.5, SV.int IntKind.u16 b.6, SV.int IntKind.u16 b.7, SV.int IntKind.u16 b.8,
                    SV.int IntKind.u8 b.9, SV.int IntKind.u8 b.10],
                Blk.cells
                  [SV.int IntKind.u32 m.1, SV.int IntKind.u32 m.2, SV.int IntKind.u32 m.3, SV.int IntKind.u32 m.4,
                    SV.int IntKind.u16 m.5, SV.int IntKind.u16 m.6, SV.int IntKind.u16 m.7, SV.int IntKind.u16 m.8,
                    SV.int IntKind.u8 m.9, SV.int IntKind.u8 m.10],
                Blk.vec true
                  [CK.i IntKind.u32, CK.i IntKind.u32, CK.i IntKind.u32, CK.i IntKind.u32, CK.i IntKind.u16,
                    CK.i IntKind.u16, CK.i IntKind.u16, CK.i IntKind.u16, CK.i IntKind.u8, CK.i IntKind.u8]
                  (o ++ [[x.1, x.2, x.3, x.4, x.5, x.6, a.7, IntKind.u16.wrap (m.7 - (1 : Int)), x.9, x.10]]) none,
                Blk.cells
                  [SV.int IntKind.u32 x.1, SV.int IntKind.u32 x.2, SV.int IntKind.u32 x.3, SV.int IntKind.u32 x.4,
                    SV.int IntKind.u16 x.5, SV.int IntKind.u16 x.6, SV.int IntKind.u16 a.7,
                    SV.int IntKind.u16 (IntKind.u16.wrap (m.7 - (1 : Int))), SV.int IntKind.u8 x.9,
                    SV.int IntKind.u8 x.10]] }))
      none)
    (some
      (E.nrm,
        {
          tmps :=
            [SV.poison, SV.poison, SV.ptr (0 : Nat) (0 : Nat), SV.ptr ((0 : Nat) + (1 : Nat)) (0 : Nat), SV.poison,
              SV.ptr ((0 : Nat) + (1 : Nat) + (1 : Nat)) (0 : Nat), SV.poison,
              SV.vw ((0 : Nat) + (1 : Nat) + (1 : Nat) + (1 : Nat)),
              SV.ptr ((0 : Nat) + (1 : Nat) + (1 : Nat) + (1 : Nat) + (1 : Nat)) (0 : Nat), SV.poison, SV.poison,
              SV.poison, SV.poison, SV.poison, SV.poison, SV.poison, SV.poison, SV.poison, SV.poison, SV.poison,
              SV.poison, SV.poison, SV.poison, SV.poison, SV.poison, SV.poison, SV.poison, SV.poison, SV.poison,
              SV.poison, SV.poison, SV.poison, SV.poison, SV.poison, SV.poison, SV.poison, SV.poison, SV.poison,
              SV.poison, SV.poison, SV.poison, SV.poison, SV.poison, SV.poison, SV.poison, SV.poison, SV.poison,
              SV.poison, SV.poison, SV.poison, SV.poison, SV.poison, SV.poison, SV.poison, SV.poison, SV.poison,
              SV.poison, SV.poison, SV.poison, SV.poison, SV.poison, SV.poison, SV.poison, SV.poison, SV.poison,
              SV.poison, SV.poison, SV.poison, SV.poison, SV.poison, SV.poison, SV.poison, SV.poison, SV.poison,
              SV.poison, SV.poison, SV.poison, SV.poison, SV.poison, SV.poison, SV.poison, SV.poison, SV.poison,
              SV.poison, SV.poison, SV.poison, SV.poison, SV.poison, SV.poison, SV.poison, SV.poison, SV.poison,
              SV.poison, SV.poison, SV.poison, SV.poison, SV.poison, SV.poison, SV.poison, SV.poison, SV.poison,
              SV.poison, SV.poison, SV.poison, SV.poison, SV.poison, SV.poison, SV.poison, SV.poison, SV.poison,
              SV.poison, SV.poison, SV.poison, SV.poison, SV.poison, SV.poison, SV.poison, SV.poison, SV.poison,
              SV.poison, SV.poison, SV.poison, SV.poison, SV.poison, SV.poison, SV.poison, SV.poison, SV.poison,
              SV.poison, SV.poison, SV.poison, SV.poison, SV.poison, SV.poison, SV.poison, SV.poison, SV.poison,
              SV.poison, SV.poison, SV.poison, SV.poison, SV.poison, SV.poison, SV.poison, SV.poison, SV.poison,
              SV.poison, SV.poison, SV.poison, SV.poison, SV.poison, SV.poison, SV.poison, SV.poison, SV.poison,
              SV.poison, SV.poison, SV.poison, SV.poison, SV.poison, SV.poison, SV.poison, SV.poison, SV.poison,
              SV.poison, SV.poison, SV.poison, SV.poison, SV.poison, SV.poison, SV.poison, SV.poison, SV.poison,
              SV.poison, SV.poison, SV.poison, SV.poison, SV.poison, SV.poison, SV.poison, SV.poison, SV.poison,
              SV.poison, SV.poison, SV.poison, SV.poison, SV.poison, SV.poison, SV.poison, SV.poison, SV.poison,
              SV.poison, SV.poison, SV.poison, SV.poison, SV.poison, SV.poison, SV.poison, SV.poison, SV.poison,
              SV.poison, SV.poison, SV.poison, SV.poison, SV.poison, SV.poison, SV.poison, SV.poison, SV.poison,
              SV.poison, SV.poison, SV.poison, SV.poison, SV.poison, SV.poison, SV.poison, SV.poison, SV.poison,
              SV.poison, SV.poison, SV.poison, SV.poison, SV.poison],
          mem :=
            [Blk.cells
                [SV.int IntKind.u32 a.1, SV.int IntKind.u32 a.2, SV.int IntKind.u32 a.3, SV.int IntKind.u32 a.4,
                  SV.int IntKind.u16 a.5, SV.int IntKind.u16 a.6, SV.int IntKind.u16 a.7, SV.int IntKind.u16 a.8,
                  SV.int IntKind.u8 a.9, SV.int IntKind.u8 a.10],
              Blk.cells
                [SV.int IntKind.u32 b.1, SV.int IntKind.u32 b.2, SV.int IntKind.u32 b.3, SV.int IntKind.u32 b.4,
                  SV.int IntKind.u16 b.5, SV.int IntKind.u16 b.6, SV.int IntKind.u16 b.7, SV.int IntKind.u16 b.8,
                  SV.int IntKind.u8 b.9, SV.int IntKind.u8 b.10],
              Blk.cells
                [SV.int IntKind.u32 m.1, SV.int IntKind.u32 m.2, SV.int IntKind.u32 m.3, SV.int IntKind.u32 m.4,
                  SV.int IntKind.u16 m.5, SV.int IntKind.u16 m.6, SV.int IntKind.u16 m.7, SV.int IntKind.u16 m.8,
                  SV.int IntKind.u8 m.9, SV.int IntKind.u8 m.10],
              Blk.vec true
                [CK.i IntKind.u32, CK.i IntKind.u32, CK.i IntKind.u32, CK.i IntKind.u32, CK.i IntKind.u16,
                  CK.i IntKind.u16, CK.i IntKind.u16, CK.i IntKind.u16, CK.i IntKind.u8, CK.i IntKind.u8]
                o none,
              Blk.cells
                [SV.int IntKind.u32 x.1, SV.int IntKind.u32 x.2, SV.int IntKind.u32 x.3, SV.int IntKind.u32 x.4,
                  SV.int IntKind.u16 x.5, SV.int IntKind.u16 x.6, SV.int IntKind.u16 x.7, SV.int IntKind.u16 x.8,
                  SV.int IntKind.u8 x.9, SV.int IntKind.u8 x.10]] })) := by kernel_rfl
def resc6 (ap : AP) (ap1 : AP1) (g : List Row → Bool) (x : Xc) : GT (E × St) := .when (g x.o) (.leaf (.nrm, finc x.a x.b x.m (ap x.c x.o [x.x.sl, x.x.sh, x.x.dl, x.x.dh, x.x.pl, x.x.ph, x.a.ql, (IntKind.wrap .u16 (x.m.ql - 1)), x.x.mv, x.x.mc]) ⟨x.x.sl, x.x.sh, x.x.dl, x.x.dh, x.x.pl, x.x.ph, ap1 x.c x.a.ql x.x.ql, ap1 x.c (IntKind.wrap .u16 (x.m.ql - 1)) x.x.qh, x.x.mv, x.x.mc⟩))
theorem code_c6 : CodeOKP Try.prog 0 nodec6 (fun st => (sumT 223 [165, 2, 3, 5, 7, 8] pickc (resc6 ap ap1 ok_c) st).opt) := by
  refine codeOK (imp := []) (lpc := fun _ => none) (facts G0_ok) 0 1 nodec6 (lpOK_none _) outc 223 [165, 2, 3, 5, 7, 8] pickc (mkc 165) (resc6 ap ap1 ok_c) (pickc_ok 165) ?_
  rintro ⟨c, a, b, m, o, x⟩ e st' h _
  unfold resc6 at h
  obtain ⟨h1, h2⟩ := GT.opt_when h
  have h3 : o.length ≤ 200 := of_decide_eq_true h1
  cases h2
  refine (pc_c6 c a b m o x).trans ?_
  rw [decide_eq_true (show o.length + 1 < 4000000000 by omega)]
  cases c <;> rfl
def annc6 (ap : AP) (ap1 : AP1) (g : List Row → Bool) : Ann := ⟨livec6, 1000000, some (sumT 223 [165, 2, 3, 5, 7, 8] pickc (resc6 ap ap1 g))⟩
noncomputable def nodec7 : Code := nodeOf 14 [1, 0, 1, 1, 1, 1, 1, 1, 1, 1, 1, 1, 1, 1, 1, 1, 1, 1]
def livec7 : List (Nat × Option (List CK)) := [(185, none), (2, none), (3, none), (5, none), (7, some BK), (8, none)]
theorem pc_c7 (c : Bool) (a b m : Bx) (o : List Row) (x : Bx) : pieceP Try.prog G0 ents [] nolp (fun _ => none) 0 1 nodec7 outc (mkc 185 ⟨c, a, b, m, o, x⟩) = sure c
    (sure (decide (o.length + (1 : Nat) < (4000000000 : Nat)))
      (some
        (E.nrm,
          {
            tmps :=
              [SV.poison, SV.poison, SV.ptr (0 : Nat) (0 : Nat), SV.ptr ((0 : Nat) + (1 : Nat)) (0 : Nat), SV.poison,
                SV.ptr ((0 : Nat) + (1 : Nat) + (1 : Nat)) (0 : Nat), SV.poison,
                SV.vw ((0 : Nat) + (1 : Nat) + (1 : Nat) + (1 : Nat)),
                SV.ptr ((0 : Nat) + (1 : Nat) + (1 : Nat) + (1 : Nat) + (1 : Nat)) (0 : Nat), SV.poison, SV.poison,
                SV.poison, SV.poison, SV.poison, SV.poison, SV.poison, SV.poison, SV.poison, SV.poison, SV.poison,
                SV.poison, SV.poison, SV.poison, SV.poison, SV.poison, SV.poison, SV.poison, SV.poison, SV.poison,
                SV.poison, SV.poison, SV.poison, SV.poison, SV.poison, SV.poison, SV.poison, SV.poison, SV.poison,
                SV.poison, SV.poison, SV.poison, SV.poison, SV.poison, SV.poison, SV.poison, SV.poison, SV.poison,
                SV.poison, SV.poison, SV.poison, SV.poison, SV.poison, SV.poison, SV.poison, SV.poison, SV.poison,
                SV.poison, SV.poison, SV.poison, SV.poison, SV.poison, SV.poison, SV.poison, SV.poison, SV.poison,
                SV.poison, SV.poison, SV.poison, SV.poison, SV.poison, SV.poison, SV.poison, SV.poison, SV.poison,
                SV.poison, SV.poison, SV.poison, SV.poison, SV.poison, SV.poison, SV.poison, SV.poison, SV.poison,
                SV.poison, SV.poison, SV.poison, SV.poison, SV.poison, SV.poison, SV.poison, SV.poison, SV.poison,
                SV.poison, SV.poison, SV.poison, SV.poison, SV.poison, SV.poison, SV.poison, SV.poison, SV.poison,
                SV.poison, SV.poison, SV.poison, SV.poison, SV.poison, SV.poison, SV.poison, SV.poison, SV.poison,
                SV.poison, SV.poison, SV.poison, SV.poison, SV.poison, SV.poison, SV.poison, SV.poison, SV.poison,
                SV.poison, SV.poison, SV.poison, SV.poison, SV.poison, SV.poison, SV.poison, SV.poison, SV.poison,
                SV.poison, SV.poison, SV.poison, SV.poison, SV.poison, SV.poison, SV.poison, SV.poison, SV.poison,
                SV.poison, SV.poison, SV.poison, SV.poison, SV.poison, SV.poison, SV.poison, SV.poison, SV.poison,
                SV.poison, SV.poison, SV.poison, SV.poison, SV.poison, SV.poison, SV.poison, SV.poison, SV.poison,
                SV.poison, SV.poison, SV.poison, SV.poison, SV.poison, SV.poison, SV.poison, SV.poison, SV.poison,
                SV.poison, SV.poison, SV.poison, SV.poison, SV.poison, SV.poison, SV.poison, SV.poison, SV.poison,
                SV.poison, SV.poison, SV.poison, SV.poison, SV.poison, SV.poison, SV.poison, SV.poison, SV.poison,
                SV.poison, SV.poison, SV.poison, SV.poison, SV.poison, SV.poison, SV.poison, SV.poison, SV.poison,
                SV.poison, SV.poison, SV.poison, SV.poison, SV.poison, SV.poison, SV.poison, SV.poison, SV.poison,
                SV.poison, SV.poison, SV.poison, SV.poison, SV.poison, SV.poison, SV.poison, SV.poison, SV.poison,
                SV.poison, SV.poison, SV.poison, SV.poison, SV.poison, SV.poison, SV.poison, SV.poison, SV.poison,
                SV.poison, SV.poison, SV.poison, SV.poison, SV.poison],
            mem :=
              [Blk.cells
                  [SV.int IntKind.u32 a.1, SV.int IntKind.u32 a.2, SV.int IntKind.u32 a.3, SV.int IntKind.u32 a.4,
                    SV.int IntKind.u16 a.5, SV.int IntKind.u16 a.6, SV.int IntKind.u16 a.7, SV.int IntKind.u16 a.8,
                    SV.int IntKind.u8 a.9, SV.int IntKind.u8 a.10],
                Blk.cells
                  [SV.int IntKind.u32 b.1, SV.int IntKind.u32 b.2, SV.int IntKind.u32 b.3, SV.int IntKind.u32 b.4,
                    SV.int IntKind.u16 b.5, SV.int IntKind.u16 b.6, SV.int IntKind.u16 b.7, SV.int IntKind.u16 b.8,
                    SV.int IntKind.u8 b.9, SV.int IntKind.u8 b.10],
                Blk.cells
                  [SV.int IntKind.u32 m.1, SV.int IntKind.u32 m.2, SV.int IntKind.u32 m.3, SV.int IntKind.u32 m.4,
                    SV.int IntKind.u16 m.5, SV.int IntKind.u16 m.6, SV.int IntKind.u16 m.7, SV.int IntKind.u16 m.8,
                    SV.int IntKind.u8 m.9, SV.int IntKind.u8 m.10],
                Blk.vec true
                  [CK.i IntKind.u32, CK.i IntKind.u32, CK.i IntKind.u32, CK.i IntKind.u32, CK.i IntKind.u16,
                    CK.i IntKind.u16, CK.i IntKind.u16, CK.i IntKind.u16, CK.i IntKind.u8, CK.i IntKind.u8]
                  (o ++ [[x.1, x.2, x.3, x.4, x.5, x.6, IntKind.u16.wrap (m.8 + (1 : Int)), a.8, x.9, x.10]]) none,
                Blk.cells
                  [SV.int IntKind.u32 x.1, SV.int IntKind.u32 x.2, SV.int IntKind.u32 x.3, SV.int IntKind.u32 x.4,
                    SV.int IntKind.u16 x.5, SV.int IntKind.u16 x.6,
                    SV.int IntKind.u16 (IntKind.u16.wrap (m.8 + (1 : Int))), SV.int IntKind.u16 a.8,
                    SV.int IntKind.u8 x.9, SV.int IntKind.u8 x.10]] }))
      none)
    (some
      (E.nrm,
        {
          tmps :=
            [SV.poison, SV.poison, SV.ptr (0 : Nat) (0 : Nat), SV.ptr ((0 : Nat) + (1 : Nat)) (0 : Nat), SV.poison,
              SV.ptr ((0 : Nat) + (1 : Nat) + (1 : Nat)) (0 : Nat), SV.poison,
              SV.vw ((0 : Nat) + (1 : Nat) + (1 : Nat) + (1 : Nat)),
              SV.ptr ((0 : Nat) + (1 : Nat) + (1 : Nat) + (1 : Nat) + (1 : Nat)) (0 : Nat), SV.poison, SV.poison,
              SV.poison, SV.poison, SV.poison, SV.poison, SV.poison, SV.poison, SV.poison, SV.poison, SV.poison,
              SV.poison, SV.poison, SV.poison, SV.poison, SV.poison, SV.poison, SV.poison, SV.poison, SV.poison,
              SV.poison, SV.poison, SV.poison, SV.poison, SV.poison, SV.poison, SV.poison, SV.poison, SV.poison,
              SV.poison, SV.poison, SV.poison, SV.poison, SV.poison, SV.poison, SV.poison, SV.poison, SV.poison,
              SV.poison, SV.poison, SV.poison, SV.poison, SV.poison, SV.poison, SV.poison, SV.poison, SV.poison,
              SV.poison, SV.poison, SV.poison, SV.poison, SV.poison, SV.poison, SV.poison, SV.poison, SV.poison,
              SV.poison, SV.poison, SV.poison, SV.poison, SV.poison, SV.poison, SV.poison, SV.poison, SV.poison,
              SV.poison, SV.poison, SV.poison, SV.poison, SV.poison, SV.poison, SV.poison, SV.poison, SV.poison,
              SV.poison, SV.poison, SV.poison, SV.poison, SV.poison, SV.poison, SV.poison, SV.poison, SV.poison,
              SV.poison, SV.poison, SV.poison, SV.poison, SV.poison, SV.poison, SV.poison, SV.poison, SV.poison,
              SV.poison, SV.poison, SV.poison, SV.poison, SV.poison, SV.poison, SV.poison, SV.poison, SV.poison,
              SV.poison, SV.poison, SV.poison, SV.poison, SV.poison, SV.poison, SV.poison, SV.poison, SV.poison,
              SV.poison, SV.poison, SV.poison, SV.poison, SV.poison, SV.poison, SV.poison, SV.poison, SV.poison,
              SV.poison, SV.poison, SV.poison, SV.poison, SV.poison, SV.poison, SV.poison, SV.poison, SV.poison,
              SV.poison, SV.poison, SV.poison, SV.poison, SV.poison, SV.poison, SV.poison, SV.poison, SV.poison,
              SV.poison, SV.poison, SV.poison, SV.poison, SV.poison, SV.poison, SV.poison, SV.poison, SV.poison,
              SV.poison, SV.poison, SV.poison, SV.poison, SV.poison, SV.poison, SV.poison, SV.poison, SV.poison,
              SV.poison, SV.poison, SV.poison, SV.poison, SV.poison, SV.poison, SV.poison, SV.poison, SV.poison,
              SV.poison, SV.poison, SV.poison, SV.poison, SV.poison, SV.poison, SV.poison, SV.poison, SV.poison,
              SV.poison, SV.poison, SV.poison, SV.poison, SV.poison, SV.poison, SV.poison, SV.poison, SV.poison,
              SV.poison, SV.poison, SV.poison, SV.poison, SV.poison, SV.poison, SV.poison, SV.poison, SV.poison,
              SV.poison, SV.poison, SV.poison, SV.poison, SV.poison, SV.poison, SV.poison, SV.poison, SV.poison,
              SV.poison, SV.poison, SV.poison, SV.poison, SV.poison, SV.poison, SV.poison, SV.poison, SV.poison,
              SV.poison, SV.poison, SV.poison, SV.poison, SV.poison],
          mem :=
            [Blk.cells
                [SV.int IntKind.u32 a.1, SV.int IntKind.u32 a.2, SV.int IntKind.u32 a.3, SV.int IntKind.u32 a.4,
                  SV.int IntKind.u16 a.5, SV.int IntKind.u16 a.6, SV.int IntKind.u16 a.7, SV.int IntKind.u16 a.8,
                  SV.int IntKind.u8 a.9, SV.int IntKind.u8 a.10],
              Blk.cells
                [SV.int IntKind.u32 b.1, SV.int IntKind.u32 b.2, SV.int IntKind.u32 b.3, SV.int IntKind.u32 b.4,
                  SV.int IntKind.u16 b.5, SV.int IntKind.u16 b.6, SV.int IntKind.u16 b.7, SV.int IntKind.u16 b.8,
                  SV.int IntKind.u8 b.9, SV.int IntKind.u8 b.10],
              Blk.cells
                [SV.int IntKind.u32 m.1, SV.int IntKind.u32 m.2, SV.int IntKind.u32 m.3, SV.int IntKind.u32 m.4,
                  SV.int IntKind.u16 m.5, SV.int IntKind.u16 m.6, SV.int IntKind.u16 m.7, SV.int IntKind.u16 m.8,
                  SV.int IntKind.u8 m.9, SV.int IntKind.u8 m.10],
              Blk.vec true
                [CK.i IntKind.u32, CK.i IntKind.u32, CK.i IntKind.u32, CK.i IntKind.u32, CK.i IntKind.u16,
                  CK.i IntKind.u16, CK.i IntKind.u16, CK.i IntKind.u16, CK.i IntKind.u8, CK.i IntKind.u8]
                o none,
              Blk.cells
                [SV.int IntKind.u32 x.1, SV.int IntKind.u32 x.2, SV.int IntKind.u32 x.3, SV.int IntKind.u32 x.4,
                  SV.int IntKind.u16 x.5, SV.int IntKind.u16 x.6, SV.int IntKind.u16 x.7, SV.int IntKind.u16 x.8,
                  SV.int IntKind.u8 x.9, SV.int IntKind.u8 x.10]] })) := by kernel_rfl
def resc7 (ap : AP) (ap1 : AP1) (g : List Row → Bool) (x : Xc) : GT (E × St) := .when (g x.o) (.leaf (.nrm, finc x.a x.b x.m (ap x.c x.o [x.x.sl, x.x.sh, x.x.dl, x.x.dh, x.x.pl, x.x.ph, (IntKind.wrap .u16 (x.m.qh + 1)), x.a.qh, x.x.mv, x.x.mc]) ⟨x.x.sl, x.x.sh, x.x.dl, x.x.dh, x.x.pl, x.x.ph, ap1 x.c (IntKind.wrap .u16 (x.m.qh + 1)) x.x.ql, ap1 x.c x.a.qh x.x.qh, x.x.mv, x.x.mc⟩))
theorem code_c7 : CodeOKP Try.prog 0 nodec7 (fun st => (sumT 223 [185, 2, 3, 5, 7, 8] pickc (resc7 ap ap1 ok_c) st).opt) := by
  refine codeOK (imp := []) (lpc := fun _ => none) (facts G0_ok) 0 1 nodec7 (lpOK_none _) outc 223 [185, 2, 3, 5, 7, 8] pickc (mkc 185) (resc7 ap ap1 ok_c) (pickc_ok 185) ?_
  rintro ⟨c, a, b, m, o, x⟩ e st' h _
  unfold resc7 at h
  obtain ⟨h1, h2⟩ := GT.opt_when h
  have h3 : o.length ≤ 200 := of_decide_eq_true h1
  cases h2
  refine (pc_c7 c a b m o x).trans ?_
  rw [decide_eq_true (show o.length + 1 < 4000000000 by omega)]
  cases c <;> rfl
def annc7 (ap : AP) (ap1 : AP1) (g : List Row → Bool) : Ann := ⟨livec7, 1000000, some (sumT 223 [185, 2, 3, 5, 7, 8] pickc (resc7 ap ap1 g))⟩
noncomputable def T_rl (g : Bx → Bool) (ck : Bx → Int) (g2 : Bx → Bx → Bool) (mX : Bx → Bx → Bx) (mB : Bx → Bx → Bool) (ms : I4 (List Row)) (ap : AP) (ap1 : AP1) (gc : List Row → Bool) (ok : List Row → List Row → Int → Bool) (mp : Int → Int → Int → Int → Int → Int → Int → Int → Int → Int → List Row → List Row) (a b : Bx) : GT SV := GT.br (g a)
    (GT.br (ifB (ck a != (0 : Int)) true (g b))
      (GT.br (ck a != (0 : Int) || ck b != (0 : Int))
        (GT.leaf
          (SV.rows
            [CK.i IntKind.u32, CK.i IntKind.u32, CK.i IntKind.u32, CK.i IntKind.u32, CK.i IntKind.u16, CK.i IntKind.u16,
              CK.i IntKind.u16, CK.i IntKind.u16, CK.i IntKind.u8, CK.i IntKind.u8]
            []))
        (GT.br (g2 a b)
          (GT.br (!mB a b)
            (GT.leaf
              (SV.rows
                [CK.i IntKind.u32, CK.i IntKind.u32, CK.i IntKind.u32, CK.i IntKind.u32, CK.i IntKind.u16,
                  CK.i IntKind.u16, CK.i IntKind.u16, CK.i IntKind.u16, CK.i IntKind.u8, CK.i IntKind.u8]
                [[a.1, a.2, a.3, a.4, a.5, a.6, a.7, a.8, a.9, a.10]]))
            (GT.br (gc [])
              (GT.br
                (gc
                  (ap (decide (a.1 < (mX a b).1)) []
                    [a.1, IntKind.u32.wrap ((mX a b).1 - (1 : Int)), a.3, a.4, a.5, a.6, a.7, a.8, a.9, a.10]))
                (GT.br
                  (gc
                    (ap (decide ((mX a b).2 < a.2))
                      (ap (decide (a.1 < (mX a b).1)) []
                        [a.1, IntKind.u32.wrap ((mX a b).1 - (1 : Int)), a.3, a.4, a.5, a.6, a.7, a.8, a.9, a.10])
                      [IntKind.u32.wrap ((mX a b).2 + (1 : Int)), a.2, a.3, a.4, a.5, a.6, a.7, a.8, a.9, a.10]))
                  (GT.br
                    (gc
                      (ap (decide (a.3 < (mX a b).3))
                        (ap (decide ((mX a b).2 < a.2))
                          (ap (decide (a.1 < (mX a b).1)) []
                            [a.1, IntKind.u32.wrap ((mX a b).1 - (1 : Int)), a.3, a.4, a.5, a.6, a.7, a.8, a.9, a.10])
                          [IntKind.u32.wrap ((mX a b).2 + (1 : Int)), a.2, a.3, a.4, a.5, a.6, a.7, a.8, a.9, a.10])
                        [(mX a b).1, (mX a b).2, a.3, IntKind.u32.wrap ((mX a b).3 - (1 : Int)), a.5, a.6, a.7, a.8,
                          a.9, a.10]))
                    (GT.br
                      (gc
                        (ap (decide ((mX a b).4 < a.4))
                          (ap (decide (a.3 < (mX a b).3))
                            (ap (decide ((mX a b).2 < a.2))
                              (ap (decide (a.1 < (mX a b).1)) []
                                [a.1, IntKind.u32.wrap ((mX a b).1 - (1 : Int)), a.3, a.4, a.5, a.6, a.7, a.8, a.9,
                                  a.10])
                              [IntKind.u32.wrap ((mX a b).2 + (1 : Int)), a.2, a.3, a.4, a.5, a.6, a.7, a.8, a.9, a.10])
                            [(mX a b).1, (mX a b).2, a.3, IntKind.u32.wrap ((mX a b).3 - (1 : Int)), a.5, a.6, a.7, a.8,
                              a.9, a.10])
                          [(mX a b).1, (mX a b).2, IntKind.u32.wrap ((mX a b).4 + (1 : Int)), a.4, a.5, a.6, a.7, a.8,
                            a.9, a.10]))
                      (GT.br
                        (gc
                          (ap (decide (a.5 < (mX a b).5))
                            (ap (decide ((mX a b).4 < a.4))
                              (ap (decide (a.3 < (mX a b).3))
                                (ap (decide ((mX a b).2 < a.2))
                                  (ap (decide (a.1 < (mX a b).1)) []
                                    [a.1, IntKind.u32.wrap ((mX a b).1 - (1 : Int)), a.3, a.4, a.5, a.6, a.7, a.8, a.9,
                                      a.10])
                                  [IntKind.u32.wrap ((mX a b).2 + (1 : Int)), a.2, a.3, a.4, a.5, a.6, a.7, a.8, a.9,
                                    a.10])
                                [(mX a b).1, (mX a b).2, a.3, IntKind.u32.wrap ((mX a b).3 - (1 : Int)), a.5, a.6, a.7,
                                  a.8, a.9, a.10])
                              [(mX a b).1, (mX a b).2, IntKind.u32.wrap ((mX a b).4 + (1 : Int)), a.4, a.5, a.6, a.7,
                                a.8, a.9, a.10])
                            [(mX a b).1, (mX a b).2, (mX a b).3, (mX a b).4, a.5,
                              IntKind.u16.wrap ((mX a b).5 - (1 : Int)), a.7, a.8, a.9, a.10]))
                        (GT.br
                          (gc
                            (ap (decide ((mX a b).6 < a.6))
                              (ap (decide (a.5 < (mX a b).5))
                                (ap (decide ((mX a b).4 < a.4))
                                  (ap (decide (a.3 < (mX a b).3))
                                    (ap (decide ((mX a b).2 < a.2))
                                      (ap (decide (a.1 < (mX a b).1)) []
                                        [a.1, IntKind.u32.wrap ((mX a b).1 - (1 : Int)), a.3, a.4, a.5, a.6, a.7, a.8,
                                          a.9, a.10])
                                      [IntKind.u32.wrap ((mX a b).2 + (1 : Int)), a.2, a.3, a.4, a.5, a.6, a.7, a.8,
                                        a.9, a.10])
                                    [(mX a b).1, (mX a b).2, a.3, IntKind.u32.wrap ((mX a b).3 - (1 : Int)), a.5, a.6,
                                      a.7, a.8, a.9, a.10])
                                  [(mX a b).1, (mX a b).2, IntKind.u32.wrap ((mX a b).4 + (1 : Int)), a.4, a.5, a.6,
                                    a.7, a.8, a.9, a.10])
                                [(mX a b).1, (mX a b).2, (mX a b).3, (mX a b).4, a.5,
                                  IntKind.u16.wrap ((mX a b).5 - (1 : Int)), a.7, a.8, a.9, a.10])
                              [(mX a b).1, (mX a b).2, (mX a b).3, (mX a b).4,
                                IntKind.u16.wrap ((mX a b).6 + (1 : Int)), a.6, a.7, a.8, a.9, a.10]))
                          (GT.br
                            (gc
                              (ap (decide (a.7 < (mX a b).7))
                                (ap (decide ((mX a b).6 < a.6))
                                  (ap (decide (a.5 < (mX a b).5))
                                    (ap (decide ((mX a b).4 < a.4))
                                      (ap (decide (a.3 < (mX a b).3))
                                        (ap (decide ((mX a b).2 < a.2))
                                          (ap (decide (a.1 < (mX a b).1)) []
                                            [a.1, IntKind.u32.wrap ((mX a b).1 - (1 : Int)), a.3, a.4, a.5, a.6, a.7,
                                              a.8, a.9, a.10])
                                          [IntKind.u32.wrap ((mX a b).2 + (1 : Int)), a.2, a.3, a.4, a.5, a.6, a.7, a.8,
                                            a.9, a.10])
                                        [(mX a b).1, (mX a b).2, a.3, IntKind.u32.wrap ((mX a b).3 - (1 : Int)), a.5,
                                          a.6, a.7, a.8, a.9, a.10])
                                      [(mX a b).1, (mX a b).2, IntKind.u32.wrap ((mX a b).4 + (1 : Int)), a.4, a.5, a.6,
                                        a.7, a.8, a.9, a.10])
                                    [(mX a b).1, (mX a b).2, (mX a b).3, (mX a b).4, a.5,
                                      IntKind.u16.wrap ((mX a b).5 - (1 : Int)), a.7, a.8, a.9, a.10])
                                  [(mX a b).1, (mX a b).2, (mX a b).3, (mX a b).4,
                                    IntKind.u16.wrap ((mX a b).6 + (1 : Int)), a.6, a.7, a.8, a.9, a.10])
                                [(mX a b).1, (mX a b).2, (mX a b).3, (mX a b).4, (mX a b).5, (mX a b).6, a.7,
                                  IntKind.u16.wrap ((mX a b).7 - (1 : Int)), a.9, a.10]))
                            (GT.br
                              (ok (ms a.9 a.10 b.9 b.10)
                                (ap (decide ((mX a b).8 < a.8))
                                  (ap (decide (a.7 < (mX a b).7))
                                    (ap (decide ((mX a b).6 < a.6))
                                      (ap (decide (a.5 < (mX a b).5))
                                        (ap (decide ((mX a b).4 < a.4))
                                          (ap (decide (a.3 < (mX a b).3))
                                            (ap (decide ((mX a b).2 < a.2))
                                              (ap (decide (a.1 < (mX a b).1)) []
                                                [a.1, IntKind.u32.wrap ((mX a b).1 - (1 : Int)), a.3, a.4, a.5, a.6,
                                                  a.7, a.8, a.9, a.10])
                                              [IntKind.u32.wrap ((mX a b).2 + (1 : Int)), a.2, a.3, a.4, a.5, a.6, a.7,
                                                a.8, a.9, a.10])
                                            [(mX a b).1, (mX a b).2, a.3, IntKind.u32.wrap ((mX a b).3 - (1 : Int)),
                                              a.5, a.6, a.7, a.8, a.9, a.10])
                                          [(mX a b).1, (mX a b).2, IntKind.u32.wrap ((mX a b).4 + (1 : Int)), a.4, a.5,
                                            a.6, a.7, a.8, a.9, a.10])
                                        [(mX a b).1, (mX a b).2, (mX a b).3, (mX a b).4, a.5,
                                          IntKind.u16.wrap ((mX a b).5 - (1 : Int)), a.7, a.8, a.9, a.10])
                                      [(mX a b).1, (mX a b).2, (mX a b).3, (mX a b).4,
                                        IntKind.u16.wrap ((mX a b).6 + (1 : Int)), a.6, a.7, a.8, a.9, a.10])
                                    [(mX a b).1, (mX a b).2, (mX a b).3, (mX a b).4, (mX a b).5, (mX a b).6, a.7,
                                      IntKind.u16.wrap ((mX a b).7 - (1 : Int)), a.9, a.10])
                                  [(mX a b).1, (mX a b).2, (mX a b).3, (mX a b).4, (mX a b).5, (mX a b).6,
                                    IntKind.u16.wrap ((mX a b).8 + (1 : Int)), a.8, a.9, a.10])
                                (0 : Int))
                              (GT.leaf
                                (SV.rows
                                  [CK.i IntKind.u32, CK.i IntKind.u32, CK.i IntKind.u32, CK.i IntKind.u32,
                                    CK.i IntKind.u16, CK.i IntKind.u16, CK.i IntKind.u16, CK.i IntKind.u16,
                                    CK.i IntKind.u8, CK.i IntKind.u8]
                                  (ap (decide ((mX a b).8 < a.8))
                                      (ap (decide (a.7 < (mX a b).7))
                                        (ap (decide ((mX a b).6 < a.6))
                                          (ap (decide (a.5 < (mX a b).5))
                                            (ap (decide ((mX a b).4 < a.4))
                                              (ap (decide (a.3 < (mX a b).3))
                                                (ap (decide ((mX a b).2 < a.2))
                                                  (ap (decide (a.1 < (mX a b).1)) []
                                                    [a.1, IntKind.u32.wrap ((mX a b).1 - (1 : Int)), a.3, a.4, a.5, a.6,
                                                      a.7, a.8, a.9, a.10])
                                                  [IntKind.u32.wrap ((mX a b).2 + (1 : Int)), a.2, a.3, a.4, a.5, a.6,
                                                    a.7, a.8, a.9, a.10])
                                                [(mX a b).1, (mX a b).2, a.3, IntKind.u32.wrap ((mX a b).3 - (1 : Int)),
                                                  a.5, a.6, a.7, a.8, a.9, a.10])
                                              [(mX a b).1, (mX a b).2, IntKind.u32.wrap ((mX a b).4 + (1 : Int)), a.4,
                                                a.5, a.6, a.7, a.8, a.9, a.10])
                                            [(mX a b).1, (mX a b).2, (mX a b).3, (mX a b).4, a.5,
                                              IntKind.u16.wrap ((mX a b).5 - (1 : Int)), a.7, a.8, a.9, a.10])
                                          [(mX a b).1, (mX a b).2, (mX a b).3, (mX a b).4,
                                            IntKind.u16.wrap ((mX a b).6 + (1 : Int)), a.6, a.7, a.8, a.9, a.10])
                                        [(mX a b).1, (mX a b).2, (mX a b).3, (mX a b).4, (mX a b).5, (mX a b).6, a.7,
                                          IntKind.u16.wrap ((mX a b).7 - (1 : Int)), a.9, a.10])
                                      [(mX a b).1, (mX a b).2, (mX a b).3, (mX a b).4, (mX a b).5, (mX a b).6,
                                        IntKind.u16.wrap ((mX a b).8 + (1 : Int)), a.8, a.9, a.10] ++
                                    mp (mX a b).1 (mX a b).2 (mX a b).3 (mX a b).4 (mX a b).5 (mX a b).6 (mX a b).7
                                      (mX a b).8 a.9 a.10 (ms a.9 a.10 b.9 b.10))))
                              GT.stop)
                            GT.stop)
                          GT.stop)
                        GT.stop)
                      GT.stop)
                    GT.stop)
                  GT.stop)
                GT.stop)
              GT.stop))
          GT.stop))
      GT.stop)
    GT.stop
theorem e_rl (g : Bx → Bool) (ck : Bx → Int) (g2 : Bx → Bx → Bool) (mX : Bx → Bx → Bx) (mB : Bx → Bx → Bool) (ms : I4 (List Row)) (ap : AP) (ap1 : AP1) (gc : List Row → Bool) (ok : List Row → List Row → Int → Bool) (mp : Int → Int → Int → Int → Int → Int → Int → Int → Int → Int → List Row → List Row) (a b : Bx) : evFn Try.prog (Grl g ck g2 mX mB ms) ents [36] (lpN [(14, [0, 1, 0, 1, 1, 1, 1, 1, 1, 1, 1, 1, 1, 1, 1, 1, 1, 1, 1, 1, 1, 1], annrl ok mp)] [(14, [1, 0, 1, 1, 1, 1, 1, 1], annc0 ap ap1 gc), (14, [1, 0, 1, 1, 1, 1, 1, 1, 1], annc1 ap ap1 gc), (14, [1, 0, 1, 1, 1, 1, 1, 1, 1, 1, 1], annc2 ap ap1 gc), (14, [1, 0, 1, 1, 1, 1, 1, 1, 1, 1, 1, 1], annc3 ap ap1 gc), (14, [1, 0, 1, 1, 1, 1, 1, 1, 1, 1, 1, 1, 1, 1], annc4 ap ap1 gc), (14, [1, 0, 1, 1, 1, 1, 1, 1, 1, 1, 1, 1, 1, 1, 1], annc5 ap ap1 gc), (14, [1, 0, 1, 1, 1, 1, 1, 1, 1, 1, 1, 1, 1, 1, 1, 1, 1], annc6 ap ap1 gc), (14, [1, 0, 1, 1, 1, 1, 1, 1, 1, 1, 1, 1, 1, 1, 1, 1, 1, 1], annc7 ap ap1 gc)]) 2 14 [bx a, bx b] = (T_rl g ck g2 mX mB ms ap ap1 gc ok mp a b).opt := by kernel_rfl
end Go.Sx.Mk


/- Boxes: Less of the reference, its summary; Same. Printed by gen07i.py. -/
namespace Go.Sx.Mk
open Go.Proofs Go.RowKit
theorem ap_len {n : Nat} {l : List Row} (h : l.length ≤ n) (c : Bool) (r : Row) : (ap c l r).length ≤ n + 1 := by
  cases c
  · exact Nat.le_succ_of_le h
  · show (l ++ [r]).length ≤ n + 1
    simp; omega
theorem ap_eq (c : Bool) (l : List Row) (r : Row) : ap c l r = l ++ sure c [r] [] := by
  cases c
  · show l = l ++ []
    simp
  · rfl
theorem gc_of {n : Nat} {l : List Row} (h : l.length ≤ n) (hn : n ≤ 200) : ok_c l = true := decide_eq_true (by omega)
abbrev lq1 (a m : Bx) : List Row := ap (decide (a.sl < m.sl)) ([] : List Row) [a.sl, IntKind.wrap .u32 (m.sl - 1), a.dl, a.dh, a.pl, a.ph, a.ql, a.qh, a.mv, a.mc]
theorem lq1_len (a m : Bx) : (lq1 a m).length ≤ 1 := ap_len (Nat.le_refl 0) _ _
abbrev lq2 (a m : Bx) : List Row := ap (decide (m.sh < a.sh)) (lq1 a m) [IntKind.wrap .u32 (m.sh + 1), a.sh, a.dl, a.dh, a.pl, a.ph, a.ql, a.qh, a.mv, a.mc]
theorem lq2_len (a m : Bx) : (lq2 a m).length ≤ 2 := ap_len (lq1_len a m) _ _
abbrev lq3 (a m : Bx) : List Row := ap (decide (a.dl < m.dl)) (lq2 a m) [m.sl, m.sh, a.dl, IntKind.wrap .u32 (m.dl - 1), a.pl, a.ph, a.ql, a.qh, a.mv, a.mc]
theorem lq3_len (a m : Bx) : (lq3 a m).length ≤ 3 := ap_len (lq2_len a m) _ _
abbrev lq4 (a m : Bx) : List Row := ap (decide (m.dh < a.dh)) (lq3 a m) [m.sl, m.sh, IntKind.wrap .u32 (m.dh + 1), a.dh, a.pl, a.ph, a.ql, a.qh, a.mv, a.mc]
theorem lq4_len (a m : Bx) : (lq4 a m).length ≤ 4 := ap_len (lq3_len a m) _ _
abbrev lq5 (a m : Bx) : List Row := ap (decide (a.pl < m.pl)) (lq4 a m) [m.sl, m.sh, m.dl, m.dh, a.pl, IntKind.wrap .u16 (m.pl - 1), a.ql, a.qh, a.mv, a.mc]
theorem lq5_len (a m : Bx) : (lq5 a m).length ≤ 5 := ap_len (lq4_len a m) _ _
abbrev lq6 (a m : Bx) : List Row := ap (decide (m.ph < a.ph)) (lq5 a m) [m.sl, m.sh, m.dl, m.dh, IntKind.wrap .u16 (m.ph + 1), a.ph, a.ql, a.qh, a.mv, a.mc]
theorem lq6_len (a m : Bx) : (lq6 a m).length ≤ 6 := ap_len (lq5_len a m) _ _
abbrev lq7 (a m : Bx) : List Row := ap (decide (a.ql < m.ql)) (lq6 a m) [m.sl, m.sh, m.dl, m.dh, m.pl, m.ph, a.ql, IntKind.wrap .u16 (m.ql - 1), a.mv, a.mc]
theorem lq7_len (a m : Bx) : (lq7 a m).length ≤ 7 := ap_len (lq6_len a m) _ _
abbrev lq8 (a m : Bx) : List Row := ap (decide (m.qh < a.qh)) (lq7 a m) [m.sl, m.sh, m.dl, m.dh, m.pl, m.ph, IntKind.wrap .u16 (m.qh + 1), a.qh, a.mv, a.mc]
theorem lq8_len (a m : Bx) : (lq8 a m).length ≤ 8 := ap_len (lq7_len a m) _ _
theorem lq_pc (a m : Bx) (rest : List Row) : lq8 a m ++ mp_l5 m.sl m.sh m.dl m.dh m.pl m.ph m.ql m.qh a.mv a.mc rest = pcL a m rest := by
  unfold pcL pc1 pc2 pc3 pc4
  simp only [ap_eq, List.nil_append, List.append_assoc]
def lessBR (a b : Bx) : List Row := match ckB a != 0 || ckB b != 0 with
  | true => []
  | false => match bmB a b with
    | false => [bRow a]
    | true => pcL a (bmX a b) (Mm.lessRr a.mv a.mc b.mv b.mc)
def okL (a b : Bx) : Bool := okB a && (okB b && decide ((Mm.lessRr a.mv a.mc b.mv b.mc).length ≤ 200))
theorem cds_ok : ∀ x ∈ ([(14, [1, 0, 1, 1, 1, 1, 1, 1], annc0 ap ap1 ok_c), (14, [1, 0, 1, 1, 1, 1, 1, 1, 1], annc1 ap ap1 ok_c), (14, [1, 0, 1, 1, 1, 1, 1, 1, 1, 1, 1], annc2 ap ap1 ok_c), (14, [1, 0, 1, 1, 1, 1, 1, 1, 1, 1, 1, 1], annc3 ap ap1 ok_c), (14, [1, 0, 1, 1, 1, 1, 1, 1, 1, 1, 1, 1, 1, 1], annc4 ap ap1 ok_c), (14, [1, 0, 1, 1, 1, 1, 1, 1, 1, 1, 1, 1, 1, 1, 1], annc5 ap ap1 ok_c), (14, [1, 0, 1, 1, 1, 1, 1, 1, 1, 1, 1, 1, 1, 1, 1, 1, 1], annc6 ap ap1 ok_c), (14, [1, 0, 1, 1, 1, 1, 1, 1, 1, 1, 1, 1, 1, 1, 1, 1, 1, 1], annc7 ap ap1 ok_c)] : List (Nat × List Nat × Ann)), CdAt x.1 x.2.1 x.2.2 := by
  intro x hx
  simp only [List.mem_cons, List.not_mem_nil, or_false] at hx
  rcases hx with rfl | rfl | rfl | rfl | rfl | rfl | rfl | rfl
  · intro s pin hs hp
    cases hs
    have hpin : pin = 0 := by
      have : (1000000 : Nat) = 1000000 + pin := hp
      omega
    subst hpin
    exact code_c0
  · intro s pin hs hp
    cases hs
    have hpin : pin = 0 := by
      have : (1000000 : Nat) = 1000000 + pin := hp
      omega
    subst hpin
    exact code_c1
  · intro s pin hs hp
    cases hs
    have hpin : pin = 0 := by
      have : (1000000 : Nat) = 1000000 + pin := hp
      omega
    subst hpin
    exact code_c2
  · intro s pin hs hp
    cases hs
    have hpin : pin = 0 := by
      have : (1000000 : Nat) = 1000000 + pin := hp
      omega
    subst hpin
    exact code_c3
  · intro s pin hs hp
    cases hs
    have hpin : pin = 0 := by
      have : (1000000 : Nat) = 1000000 + pin := hp
      omega
    subst hpin
    exact code_c4
  · intro s pin hs hp
    cases hs
    have hpin : pin = 0 := by
      have : (1000000 : Nat) = 1000000 + pin := hp
      omega
    subst hpin
    exact code_c5
  · intro s pin hs hp
    cases hs
    have hpin : pin = 0 := by
      have : (1000000 : Nat) = 1000000 + pin := hp
      omega
    subst hpin
    exact code_c6
  · intro s pin hs hp
    cases hs
    have hpin : pin = 0 := by
      have : (1000000 : Nat) = 1000000 + pin := hp
      omega
    subst hpin
    exact code_c7
theorem lps_ok : ∀ x ∈ ([(14, [0, 1, 0, 1, 1, 1, 1, 1, 1, 1, 1, 1, 1, 1, 1, 1, 1, 1, 1, 1, 1, 1], annrl ok_rl mp_l5)] : List (Nat × List Nat × Ann)), LpAt x.1 x.2.1 x.2.2 := by
  intro x hx
  rw [List.mem_singleton] at hx
  subst hx
  exact (fun s h => by cases h; exact looprl)
theorem S_rless : SummT Try.prog 14 (sgBB fun a b => .when (okL a b) (.leaf (.rows BK (lessBR a b)))) := sgBB.summ (evFn_summ (factsN Grl_ok [(14, [0, 1, 0, 1, 1, 1, 1, 1, 1, 1, 1, 1, 1, 1, 1, 1, 1, 1, 1, 1, 1, 1], annrl ok_rl mp_l5)] [(14, [1, 0, 1, 1, 1, 1, 1, 1], annc0 ap ap1 ok_c), (14, [1, 0, 1, 1, 1, 1, 1, 1, 1], annc1 ap ap1 ok_c), (14, [1, 0, 1, 1, 1, 1, 1, 1, 1, 1, 1], annc2 ap ap1 ok_c), (14, [1, 0, 1, 1, 1, 1, 1, 1, 1, 1, 1, 1], annc3 ap ap1 ok_c), (14, [1, 0, 1, 1, 1, 1, 1, 1, 1, 1, 1, 1, 1, 1], annc4 ap ap1 ok_c), (14, [1, 0, 1, 1, 1, 1, 1, 1, 1, 1, 1, 1, 1, 1, 1], annc5 ap ap1 ok_c), (14, [1, 0, 1, 1, 1, 1, 1, 1, 1, 1, 1, 1, 1, 1, 1, 1, 1], annc6 ap ap1 ok_c), (14, [1, 0, 1, 1, 1, 1, 1, 1, 1, 1, 1, 1, 1, 1, 1, 1, 1, 1], annc7 ap ap1 ok_c)] lps_ok cds_ok) 2 14) (fun a b sv h => by
  obtain ⟨hk, h2⟩ := GT.opt_when h
  refine (e_rl okB ckB okBB bmX bmB Mm.lessRr ap ap1 ok_c ok_rl mp_l5 a b).trans (Eq.trans ?_ h2)
  unfold okL at hk
  simp only [Bool.and_eq_true, decide_eq_true_eq] at hk
  obtain ⟨ha, hb, hl⟩ := hk
  have hab : okBB a b = true := by unfold okBB; rw [ha, hb]; rfl
  unfold T_rl
  rw [ha, hb, hab]
  have g0 : ok_c ([] : List Row) = true := rfl
  rw [g0, gc_of (lq1_len a (bmX a b)) (by omega), gc_of (lq2_len a (bmX a b)) (by omega), gc_of (lq3_len a (bmX a b)) (by omega), gc_of (lq4_len a (bmX a b)) (by omega), gc_of (lq5_len a (bmX a b)) (by omega), gc_of (lq6_len a (bmX a b)) (by omega), gc_of (lq7_len a (bmX a b)) (by omega)]
  have g9 : ok_rl (Mm.lessRr a.mv a.mc b.mv b.mc) (lq8 a (bmX a b)) 0 = true := by
    unfold ok_rl
    rw [decide_eq_true (show (lq8 a (bmX a b)).length ≤ 200 from Nat.le_trans (lq8_len a _) (by omega)), decide_eq_true hl]
    rfl
  rw [g9, lq_pc]
  unfold lessBR
  cases (ckB a != 0) <;> cases (ckB b != 0) <;> cases bmB a b <;> rfl)
def sgB2 (f : (List Row) → (List Row) → GT SV) : List SV → GT SV
  | [.rows [.i .u32, .i .u32, .i .u32, .i .u32, .i .u16, .i .u16, .i .u16, .i .u16, .i .u8, .i .u8] l, .rows [.i .u32, .i .u32, .i .u32, .i .u32, .i .u16, .i .u16, .i .u16, .i .u16, .i .u8, .i .u8] m] => f l m
  | _ => .stop
theorem sgB2.summ {P : Program} {g : FuncId} {s0 : List SV → Option SV} (h : Summ P g s0) {f : (List Row) → (List Row) → GT SV} (hf : ∀ (l : List Row) (m : List Row) sv, (f l m).opt = some sv → s0 [.rows [.i .u32, .i .u32, .i .u32, .i .u32, .i .u16, .i .u16, .i .u16, .i .u16, .i .u8, .i .u8] l, .rows [.i .u32, .i .u32, .i .u32, .i .u32, .i .u16, .i .u16, .i .u16, .i .u16, .i .u8, .i .u8] m] = some sv) : SummT P g (sgB2 f) := h.weaken (by
  intro svs sv h'
  unfold sgB2 at h'
  split at h'
  · exact hf _ _ sv h'
  · cases h')
noncomputable def bodysm : Code := bodyOf 16 [0,1,0,1,1]
def livesm : List (Nat × Option (List CK)) := [(0, none), (1, none), (5, none)]
def outsm : List (Nat × Option (List CK)) := [(4, none)]
def mksm (l : List Row) (m : List Row) (n : Nat) (k : Nat) (i : Int) : St := ⟨sel 26 [0, 1, 5] [.vs 0 0 n, .vs 1 0 k, .int .i64 i], [.vec false [.i .u32, .i .u32, .i .u32, .i .u32, .i .u16, .i .u16, .i .u16, .i .u16, .i .u8, .i .u8] l none, .vec false [.i .u32, .i .u32, .i .u32, .i .u32, .i .u16, .i .u16, .i .u16, .i .u16, .i .u8, .i .u8] m none]⟩
def finsm (s : SV) : St := ⟨sel 26 [4] [s], []⟩
structure Xsm where
  l : List Row
  m : List Row
  n : Nat
  k : Nat
  i : Int
def Xsm.st (x : Xsm) : St := mksm x.l x.m x.n x.k x.i
def picksm : List SV → List Blk → Option Xsm
  | [.vs 0 0 n, .vs 1 0 k, .int .i64 i], [.vec false [.i .u32, .i .u32, .i .u32, .i .u32, .i .u16, .i .u16, .i .u16, .i .u16, .i .u8, .i .u8] l none, .vec false [.i .u32, .i .u32, .i .u32, .i .u32, .i .u16, .i .u16, .i .u16, .i .u16, .i .u8, .i .u8] m none] => some ⟨l, m, n, k, i⟩
  | _, _ => none
theorem picksm_ok : ∀ vals mem x, picksm vals mem = some x → x.st = ⟨sel 26 [0, 1, 5] vals, mem⟩ := by
  intro vals mem x h
  unfold picksm at h
  split at h
  · cases h; rfl
  · cases h
theorem step_sm (again : St → Option (E × St)) (l m : List Row) (n k : Nat) (i : Int) : step Try.prog G0 ents [] 1 bodysm livesm outsm again (mksm l m n k i) = sure (decide (i < (↑n : Int)))
    (sure (decide ((0 : Int) ≤ i ∧ i < (↑n : Int)))
      (sure (decide ((0 : Int) ≤ i ∧ i < (↑k : Int)))
        (sure
          (!(List.getD (l.getD ((0 : Nat) + i.toNat) []) (0 : Nat) (0 : Int) ==
                  List.getD (m.getD ((0 : Nat) + i.toNat) []) (0 : Nat) (0 : Int) &&
                (List.getD (l.getD ((0 : Nat) + i.toNat) []) ((0 : Nat) + (1 : Nat)) (0 : Int) ==
                    List.getD (m.getD ((0 : Nat) + i.toNat) []) ((0 : Nat) + (1 : Nat)) (0 : Int) &&
                  true) &&
              (List.getD (l.getD ((0 : Nat) + i.toNat) []) ((0 : Nat) + (1 : Nat) + (1 : Nat)) (0 : Int) ==
                    List.getD (m.getD ((0 : Nat) + i.toNat) []) ((0 : Nat) + (1 : Nat) + (1 : Nat)) (0 : Int) &&
                  (List.getD (l.getD ((0 : Nat) + i.toNat) []) ((0 : Nat) + (1 : Nat) + (1 : Nat) + (1 : Nat))
                        (0 : Int) ==
                      List.getD (m.getD ((0 : Nat) + i.toNat) []) ((0 : Nat) + (1 : Nat) + (1 : Nat) + (1 : Nat))
                        (0 : Int) &&
                    true) &&
                (List.getD (l.getD ((0 : Nat) + i.toNat) []) ((0 : Nat) + (1 : Nat) + (1 : Nat) + (1 : Nat) + (1 : Nat))
                        (0 : Int) ==
                      List.getD (m.getD ((0 : Nat) + i.toNat) [])
                        ((0 : Nat) + (1 : Nat) + (1 : Nat) + (1 : Nat) + (1 : Nat)) (0 : Int) &&
                    (List.getD (l.getD ((0 : Nat) + i.toNat) [])
                          ((0 : Nat) + (1 : Nat) + (1 : Nat) + (1 : Nat) + (1 : Nat) + (1 : Nat)) (0 : Int) ==
                        List.getD (m.getD ((0 : Nat) + i.toNat) [])
                          ((0 : Nat) + (1 : Nat) + (1 : Nat) + (1 : Nat) + (1 : Nat) + (1 : Nat)) (0 : Int) &&
                      true) &&
                  (List.getD (l.getD ((0 : Nat) + i.toNat) [])
                          ((0 : Nat) + (1 : Nat) + (1 : Nat) + (1 : Nat) + (1 : Nat) + (1 : Nat) + (1 : Nat))
                          (0 : Int) ==
                        List.getD (m.getD ((0 : Nat) + i.toNat) [])
                          ((0 : Nat) + (1 : Nat) + (1 : Nat) + (1 : Nat) + (1 : Nat) + (1 : Nat) + (1 : Nat))
                          (0 : Int) &&
                      (List.getD (l.getD ((0 : Nat) + i.toNat) [])
                            ((0 : Nat) + (1 : Nat) + (1 : Nat) + (1 : Nat) + (1 : Nat) + (1 : Nat) + (1 : Nat) +
                              (1 : Nat))
                            (0 : Int) ==
                          List.getD (m.getD ((0 : Nat) + i.toNat) [])
                            ((0 : Nat) + (1 : Nat) + (1 : Nat) + (1 : Nat) + (1 : Nat) + (1 : Nat) + (1 : Nat) +
                              (1 : Nat))
                            (0 : Int) &&
                        true) &&
                    (List.getD (l.getD ((0 : Nat) + i.toNat) [])
                            ((0 : Nat) + (1 : Nat) + (1 : Nat) + (1 : Nat) + (1 : Nat) + (1 : Nat) + (1 : Nat) +
                                (1 : Nat) +
                              (1 : Nat))
                            (0 : Int) ==
                          List.getD (m.getD ((0 : Nat) + i.toNat) [])
                            ((0 : Nat) + (1 : Nat) + (1 : Nat) + (1 : Nat) + (1 : Nat) + (1 : Nat) + (1 : Nat) +
                                (1 : Nat) +
                              (1 : Nat))
                            (0 : Int) &&
                        (List.getD (l.getD ((0 : Nat) + i.toNat) [])
                              ((0 : Nat) + (1 : Nat) + (1 : Nat) + (1 : Nat) + (1 : Nat) + (1 : Nat) + (1 : Nat) +
                                    (1 : Nat) +
                                  (1 : Nat) +
                                (1 : Nat))
                              (0 : Int) ==
                            List.getD (m.getD ((0 : Nat) + i.toNat) [])
                              ((0 : Nat) + (1 : Nat) + (1 : Nat) + (1 : Nat) + (1 : Nat) + (1 : Nat) + (1 : Nat) +
                                    (1 : Nat) +
                                  (1 : Nat) +
                                (1 : Nat))
                              (0 : Int) &&
                          true) &&
                      true))))))
          (some (E.ret, finsm (SV.bool false))) (again (mksm l m n k (IntKind.i64.wrap (i + (1 : Int))))))
        none)
      none)
    (some (E.brk (0 : Nat), finsm SV.poison)) := by kernel_rfl
def eq10 (x y : Row) : Bool := (List.getD x (0 : Nat) (0 : Int) == List.getD y (0 : Nat) (0 : Int) && (List.getD x ((0 : Nat) + (1 : Nat)) (0 : Int) == List.getD y ((0 : Nat) + (1 : Nat)) (0 : Int) && true) && (List.getD x ((0 : Nat) + (1 : Nat) + (1 : Nat)) (0 : Int) == List.getD y ((0 : Nat) + (1 : Nat) + (1 : Nat)) (0 : Int) && (List.getD x ((0 : Nat) + (1 : Nat) + (1 : Nat) + (1 : Nat)) (0 : Int) == List.getD y ((0 : Nat) + (1 : Nat) + (1 : Nat) + (1 : Nat)) (0 : Int) && true) && (List.getD x ((0 : Nat) + (1 : Nat) + (1 : Nat) + (1 : Nat) + (1 : Nat)) (0 : Int) == List.getD y ((0 : Nat) + (1 : Nat) + (1 : Nat) + (1 : Nat) + (1 : Nat)) (0 : Int) && (List.getD x ((0 : Nat) + (1 : Nat) + (1 : Nat) + (1 : Nat) + (1 : Nat) + (1 : Nat)) (0 : Int) == List.getD y ((0 : Nat) + (1 : Nat) + (1 : Nat) + (1 : Nat) + (1 : Nat) + (1 : Nat)) (0 : Int) && true) && (List.getD x ((0 : Nat) + (1 : Nat) + (1 : Nat) + (1 : Nat) + (1 : Nat) + (1 : Nat) + (1 : Nat)) (0 : Int) == List.getD y ((0 : Nat) + (1 : Nat) + (1 : Nat) + (1 : Nat) + (1 : Nat) + (1 : Nat) + (1 : Nat)) (0 : Int) && (List.getD x ((0 : Nat) + (1 : Nat) + (1 : Nat) + (1 : Nat) + (1 : Nat) + (1 : Nat) + (1 : Nat) + (1 : Nat)) (0 : Int) == List.getD y ((0 : Nat) + (1 : Nat) + (1 : Nat) + (1 : Nat) + (1 : Nat) + (1 : Nat) + (1 : Nat) + (1 : Nat)) (0 : Int) && true) && (List.getD x ((0 : Nat) + (1 : Nat) + (1 : Nat) + (1 : Nat) + (1 : Nat) + (1 : Nat) + (1 : Nat) + (1 : Nat) + (1 : Nat)) (0 : Int) == List.getD y ((0 : Nat) + (1 : Nat) + (1 : Nat) + (1 : Nat) + (1 : Nat) + (1 : Nat) + (1 : Nat) + (1 : Nat) + (1 : Nat)) (0 : Int) && (List.getD x ((0 : Nat) + (1 : Nat) + (1 : Nat) + (1 : Nat) + (1 : Nat) + (1 : Nat) + (1 : Nat) + (1 : Nat) + (1 : Nat) + (1 : Nat)) (0 : Int) == List.getD y ((0 : Nat) + (1 : Nat) + (1 : Nat) + (1 : Nat) + (1 : Nat) + (1 : Nat) + (1 : Nat) + (1 : Nat) + (1 : Nat) + (1 : Nat)) (0 : Int) && true) && true)))))
def endsm (b : Bool) : E × St := if b then (.brk 0, finsm .poison) else (.ret, finsm (.bool false))
theorem mid7' (pre : List Row) (x : Row) (rs : List Row) (i : Int) (h : i.toNat = pre.length) : (pre ++ x :: rs).getD (0 + i.toNat) [] = x := by
  rw [h]; simp [List.getD_eq_getElem?_getD]
theorem run_sm : ∀ (rs rr pre prr : List Row), (pre ++ rs).length ≤ maxLen → prr.length = pre.length → rs.length = rr.length →
    loopN (step Try.prog G0 ents [] 1 bodysm livesm outsm) (rs.length + 1) (mksm (pre ++ rs) (prr ++ rr) (pre ++ rs).length (prr ++ rr).length (pre.length : Nat)) = some (endsm (sameF eq10 rs rr))
  | [], rr, pre, prr, _, _, _ => by
    rw [show ([] : List Row).length + 1 = 0 + 1 from rfl, loopN_succ, step_sm]
    simp [sameF, sure, endsm]
  | x :: rs, [], pre, prr, _, _, h => by simp at h
  | x :: rs, y :: rr, pre, prr, hlen, hp, h => by
    rw [show (x :: rs).length + 1 = (rs.length + 1) + 1 from rfl, loopN_succ, step_sm]
    have hm : maxLen = 9223372036854775807 := rfl
    have hl : ((pre.length : Nat) : Int) < (((pre ++ x :: rs).length : Nat) : Int) := by simp; omega
    have h1 : (0 : Int) ≤ ((pre.length : Nat) : Int) ∧ ((pre.length : Nat) : Int) < (((pre ++ x :: rs).length : Nat) : Int) := ⟨by omega, hl⟩
    have h2 : (0 : Int) ≤ ((pre.length : Nat) : Int) ∧ ((pre.length : Nat) : Int) < (((prr ++ y :: rr).length : Nat) : Int) := ⟨by omega, by simp [hp]; omega⟩
    have h3 : IntKind.wrap .i64 (((pre.length : Nat) : Int) + 1) = (((pre ++ [x]).length : Nat) : Int) := by rw [wrap_i64 (by omega) (by omega)]; simp
    have h5 : pre ++ x :: rs = (pre ++ [x]) ++ rs := by simp
    have h5' : prr ++ y :: rr = (prr ++ [y]) ++ rr := by simp
    have ih := run_sm rs rr (pre ++ [x]) (prr ++ [y]) (by rw [← h5]; exact hlen) (by simp [hp]) (by simpa using h)
    rw [← h5, ← h5'] at ih
    rw [mid7' pre x rs _ (Int.toNat_natCast _), mid7' prr y rr _ ((Int.toNat_natCast _).trans hp.symm), h3]
    rw [show (List.getD x (0 : Nat) (0 : Int) == List.getD y (0 : Nat) (0 : Int) && (List.getD x ((0 : Nat) + (1 : Nat)) (0 : Int) == List.getD y ((0 : Nat) + (1 : Nat)) (0 : Int) && true) && (List.getD x ((0 : Nat) + (1 : Nat) + (1 : Nat)) (0 : Int) == List.getD y ((0 : Nat) + (1 : Nat) + (1 : Nat)) (0 : Int) && (List.getD x ((0 : Nat) + (1 : Nat) + (1 : Nat) + (1 : Nat)) (0 : Int) == List.getD y ((0 : Nat) + (1 : Nat) + (1 : Nat) + (1 : Nat)) (0 : Int) && true) && (List.getD x ((0 : Nat) + (1 : Nat) + (1 : Nat) + (1 : Nat) + (1 : Nat)) (0 : Int) == List.getD y ((0 : Nat) + (1 : Nat) + (1 : Nat) + (1 : Nat) + (1 : Nat)) (0 : Int) && (List.getD x ((0 : Nat) + (1 : Nat) + (1 : Nat) + (1 : Nat) + (1 : Nat) + (1 : Nat)) (0 : Int) == List.getD y ((0 : Nat) + (1 : Nat) + (1 : Nat) + (1 : Nat) + (1 : Nat) + (1 : Nat)) (0 : Int) && true) && (List.getD x ((0 : Nat) + (1 : Nat) + (1 : Nat) + (1 : Nat) + (1 : Nat) + (1 : Nat) + (1 : Nat)) (0 : Int) == List.getD y ((0 : Nat) + (1 : Nat) + (1 : Nat) + (1 : Nat) + (1 : Nat) + (1 : Nat) + (1 : Nat)) (0 : Int) && (List.getD x ((0 : Nat) + (1 : Nat) + (1 : Nat) + (1 : Nat) + (1 : Nat) + (1 : Nat) + (1 : Nat) + (1 : Nat)) (0 : Int) == List.getD y ((0 : Nat) + (1 : Nat) + (1 : Nat) + (1 : Nat) + (1 : Nat) + (1 : Nat) + (1 : Nat) + (1 : Nat)) (0 : Int) && true) && (List.getD x ((0 : Nat) + (1 : Nat) + (1 : Nat) + (1 : Nat) + (1 : Nat) + (1 : Nat) + (1 : Nat) + (1 : Nat) + (1 : Nat)) (0 : Int) == List.getD y ((0 : Nat) + (1 : Nat) + (1 : Nat) + (1 : Nat) + (1 : Nat) + (1 : Nat) + (1 : Nat) + (1 : Nat) + (1 : Nat)) (0 : Int) && (List.getD x ((0 : Nat) + (1 : Nat) + (1 : Nat) + (1 : Nat) + (1 : Nat) + (1 : Nat) + (1 : Nat) + (1 : Nat) + (1 : Nat) + (1 : Nat)) (0 : Int) == List.getD y ((0 : Nat) + (1 : Nat) + (1 : Nat) + (1 : Nat) + (1 : Nat) + (1 : Nat) + (1 : Nat) + (1 : Nat) + (1 : Nat) + (1 : Nat)) (0 : Int) && true) && true))))) = eq10 x y from rfl]
    rw [decide_eq_true hl, decide_eq_true h1, decide_eq_true h2]
    simp only [sure, sameF]
    cases eq10 x y with
    | true => rw [Bool.true_and]; exact ih
    | false => rfl
def csm (x : Xsm) : Bool := x.i == 0
def oksm (l m : List Row) (n k : Nat) : Bool := decide (n = l.length ∧ k = m.length ∧ l.length = m.length)
theorem loopsm : LoopOK Try.prog bodysm (fun st => (sumT 26 [0, 1, 5] picksm (fun x => .when (csm x && oksm x.l x.m x.n x.k) (.br (sameF eq10 x.l x.m) (.leaf (.brk 0, finsm .poison)) (.leaf (.ret, finsm (.bool false))))) st).opt) := by
  refine loop_two (imp := []) (facts G0_ok) 0 1 bodysm (lpOK_none _) livesm outsm 26 [0, 1, 5] picksm Xsm.st (fun x => csm x && oksm x.l x.m x.n x.k) (fun x => sameF eq10 x.l x.m) _ _ picksm_ok ?_
  intro x h1 hlen
  simp only [csm, oksm, Bool.and_eq_true, beq_iff_eq, decide_eq_true_eq] at h1
  obtain ⟨hi, hn, hk, he⟩ := h1
  have h5 := run_sm x.l x.m [] [] (by simpa using hlen 0 false _ x.l none rfl) rfl he
  refine ⟨x.l.length + 1, ?_⟩
  unfold Xsm.st
  rw [hi, hn, hk]
  exact h5
def annsm (ok : List Row → List Row → Nat → Nat → Bool) (sm : List Row → List Row → Bool) : Ann := ⟨livesm, 0, some (sumT 26 [0, 1, 5] picksm (fun x => .when (csm x && ok x.l x.m x.n x.k) (.br (sm x.l x.m) (.leaf (.brk 0, finsm .poison)) (.leaf (.ret, finsm (.bool false))))))⟩
noncomputable def T_sm (ok : List Row → List Row → Nat → Nat → Bool) (sm : List Row → List Row → Bool) (l m : List Row) : GT SV := GT.br ((↑l.length : Int) != (↑m.length : Int)) (GT.leaf (SV.bool false))
    (GT.br (ok l m l.length m.length) (GT.br (sm l m) (GT.leaf (SV.bool true)) (GT.leaf (SV.bool false))) GT.stop)
theorem e_sm (ok : List Row → List Row → Nat → Nat → Bool) (sm : List Row → List Row → Bool) (l m : List Row) : evFn Try.prog G0 ents [] (lpL [(16, [0, 1, 0, 1, 1], annsm ok sm)]) 1 16 [.rows [.i .u32, .i .u32, .i .u32, .i .u32, .i .u16, .i .u16, .i .u16, .i .u16, .i .u8, .i .u8] l, .rows [.i .u32, .i .u32, .i .u32, .i .u32, .i .u16, .i .u16, .i .u16, .i .u16, .i .u8, .i .u8] m] = (T_sm ok sm l m).opt := by kernel_rfl
def smV (l m : List Row) : Bool := !((l.length : Int) != (m.length : Int)) && sameF eq10 l m
theorem lpsm_ok : ∀ x ∈ ([(16, [0, 1, 0, 1, 1], annsm oksm (sameF eq10))] : List (Nat × List Nat × Ann)), LpAt x.1 x.2.1 x.2.2 := by
  intro x hx
  rw [List.mem_singleton] at hx
  subst hx
  exact (fun s h => by cases h; exact loopsm)
theorem S_same : SummT Try.prog 16 (sgB2 fun l m => .leaf (.bool (smV l m))) := sgB2.summ (evFn_summ (factsL G0_ok _ lpsm_ok) 1 16) (fun l m sv h => by
  refine (e_sm oksm (sameF eq10) l m).trans ?_
  refine Eq.trans ?_ h
  unfold T_sm smV
  cases he : ((l.length : Int) != (m.length : Int)) with
  | true => rfl
  | false =>
    have h2 : (l.length : Int) = (m.length : Int) := by simpa using he
    have hok : oksm l m l.length m.length = true := decide_eq_true ⟨rfl, rfl, by omega⟩
    rw [hok]
    cases sameF eq10 l m <;> rfl)
theorem eq10_refl (r : Row) : eq10 r r = true := by simp [eq10]
theorem smV_refl (l : List Row) : smV l l = true := by
  unfold smV
  rw [sameF_refl eq10_refl l]
  simp
end Go.Sx.Mk


/- Boxes: the law BoxLess: a list made as long as it can be, and written over. -/
namespace Go.Sx.Mk
open Go.Proofs Go.RowKit
noncomputable def nodesp : Code := nodeOf 4 [1, 1, 1, 1]
theorem eq_sp : nodesp = .seq (subOf nodesp [0]) (.seq (.seq (subOf nodesp [0, 0, 1]) (.block 0 (.loop (subOf nodesp [0, 0, 1, 0, 1])))) (subOf nodesp [1, 1])) := by kernel_rfl
theorem eq_r5  : subOf nodesp [0] = Code.region (5 : Nat)
  {
    toList :=
      [{ dst := some (19 : Nat), op := Op.move (Operand.tmp (6 : Nat)), type := (37 : Nat), pos := "law.go:71",
          after := { toList := [] }, guard := none },
        { dst := some (20 : Nat), op := Op.move (Operand.tmp (6 : Nat)), type := (37 : Nat), pos := "law.go:71",
          after := { toList := [] }, guard := none },
        { dst := some (21 : Nat),
          op :=
            Op.call
              { callee := Callee.builtin Builtin.cap, args := { toList := [Operand.tmp (20 : Nat)] },
                argTypes := { toList := [(37 : Nat)] } },
          type := (3 : Nat), pos := "law.go:71", after := { toList := [{ on := (1 : Nat), ground := Ground.data }] },
          guard := none },
        { dst := some (22 : Nat),
          op := Op.slice (37 : Nat) (Operand.tmp (19 : Nat)) none (some (Operand.tmp (21 : Nat))) none,
          type := (37 : Nat), pos := "law.go:71",
          after :=
            { toList := [{ on := (0 : Nat), ground := Ground.data }, { on := (2 : Nat), ground := Ground.data }] },
          guard := none },
        { dst := some (6 : Nat), op := Op.assign (Operand.tmp (22 : Nat)), type := (37 : Nat), pos := "law.go:71",
          after :=
            {
              toList :=
                [{ on := (3 : Nat), ground := Ground.data }, { on := (0 : Nat), ground := Ground.phase },
                  { on := (1 : Nat), ground := Ground.phase }, { on := (2 : Nat), ground := Ground.phase },
                  { on := (3 : Nat), ground := Ground.phase }] },
          guard := none }] }
  false := by kernel_rfl
-- 
-- 
-- 
theorem eq_r6  : subOf nodesp [0, 0, 1] = Code.region (6 : Nat)
  {
    toList :=
      [{ dst := some (7 : Nat), op := Op.assign (Operand.const (Value.int IntKind.i64 (0 : Int))), type := (3 : Nat),
          pos := "law.go:72", after := { toList := [] }, guard := none }] }
  false := by kernel_rfl
-- 
-- 
-- 
theorem eq_lb  : subOf nodesp [0, 0, 1, 0, 1] = ((Code.region (7 : Nat)
          {
            toList :=
              [{ dst := some (23 : Nat), op := Op.move (Operand.tmp (7 : Nat)), type := (3 : Nat), pos := "law.go:72",
                  after := { toList := [] }, guard := none },
                { dst := some (24 : Nat), op := Op.move (Operand.tmp (6 : Nat)), type := (37 : Nat), pos := "law.go:72",
                  after := { toList := [] }, guard := none },
                { dst := some (25 : Nat),
                  op :=
                    Op.call
                      { callee := Callee.builtin Builtin.len, args := { toList := [Operand.tmp (24 : Nat)] },
                        argTypes := { toList := [(37 : Nat)] } },
                  type := (3 : Nat), pos := "law.go:72",
                  after := { toList := [{ on := (1 : Nat), ground := Ground.data }] }, guard := none },
                { dst := some (26 : Nat),
                  op := Op.binOp BinOp.lss (3 : Nat) (Operand.tmp (23 : Nat)) (Operand.tmp (25 : Nat)) (3 : Nat),
                  type := (4 : Nat), pos := "law.go:72",
                  after :=
                    {
                      toList :=
                        [{ on := (0 : Nat), ground := Ground.data }, { on := (2 : Nat), ground := Ground.data }] },
                  guard := none }] }
          false).seq
      (Code.cond (Operand.tmp (26 : Nat)) Code.skip (Code.exit (0 : Nat)))).seq
  ((Code.block (1 : Nat)
        (Code.region (9 : Nat)
          {
            toList :=
              [{ dst := some (29 : Nat), op := Op.move (Operand.tmp (6 : Nat)), type := (37 : Nat), pos := "law.go:73",
                  after := { toList := [] }, guard := none },
                { dst := some (30 : Nat), op := Op.move (Operand.tmp (7 : Nat)), type := (3 : Nat), pos := "law.go:73",
                  after := { toList := [] }, guard := none },
                { dst := some (31 : Nat),
                  op :=
                    Op.build (24 : Nat) { toList := [((0 : Nat), Operand.const (Value.int IntKind.u32 (7 : Int)))] },
                  type := (24 : Nat), pos := "law.go:73", after := { toList := [] }, guard := none },
                { dst := some (32 : Nat), op := Op.build (31 : Nat) { toList := [((0 : Nat), Operand.tmp (31 : Nat))] },
                  type := (31 : Nat), pos := "law.go:73",
                  after := { toList := [{ on := (2 : Nat), ground := Ground.data }] }, guard := none },
                { dst := some (33 : Nat),
                  op := Op.indexAddr (37 : Nat) (Operand.tmp (29 : Nat)) (Operand.tmp (30 : Nat)), type := (0 : Nat),
                  pos := "law.go:73",
                  after :=
                    {
                      toList :=
                        [{ on := (0 : Nat), ground := Ground.data }, { on := (1 : Nat), ground := Ground.data },
                          { on := (0 : Nat), ground := Ground.phase }, { on := (1 : Nat), ground := Ground.phase },
                          { on := (2 : Nat), ground := Ground.phase }, { on := (3 : Nat), ground := Ground.phase }] },
                  guard := none },
                { dst := none, op := Op.store (31 : Nat) (Operand.tmp (33 : Nat)) (Operand.tmp (32 : Nat)),
                  type := (0 : Nat), pos := "law.go:73",
                  after :=
                    {
                      toList :=
                        [{ on := (4 : Nat), ground := Ground.data }, { on := (3 : Nat), ground := Ground.data },
                          { on := (0 : Nat), ground := Ground.phase }, { on := (1 : Nat), ground := Ground.phase },
                          { on := (2 : Nat), ground := Ground.phase }, { on := (3 : Nat), ground := Ground.phase }] },
                  guard := none }] }
          false)).seq
    (Code.region (8 : Nat)
      {
        toList :=
          [{ dst := some (27 : Nat), op := Op.move (Operand.tmp (7 : Nat)), type := (3 : Nat), pos := "law.go:72",
              after := { toList := [] }, guard := none },
            { dst := some (28 : Nat),
              op :=
                Op.binOp BinOp.add (3 : Nat) (Operand.tmp (27 : Nat)) (Operand.const (Value.int IntKind.i64 (1 : Int)))
                  (3 : Nat),
              type := (3 : Nat), pos := "law.go:72",
              after := { toList := [{ on := (0 : Nat), ground := Ground.data }] }, guard := none },
            { dst := some (7 : Nat), op := Op.assign (Operand.tmp (28 : Nat)), type := (3 : Nat), pos := "law.go:72",
              after :=
                {
                  toList :=
                    [{ on := (1 : Nat), ground := Ground.data }, { on := (0 : Nat), ground := Ground.phase },
                      { on := (1 : Nat), ground := Ground.phase }] },
              guard := none }] }
      false)) := by kernel_rfl
/-! ### by hand: a list made as long as it can be, and written over -/
theorem wpL_val {P : Program} {ops : Array Oper} {Q : Exit → Act → World → Prop} {o : Oper} {l : List Oper} {a : Act} {w : World} {v : Value} {d : Nat} (hg : o.guard = none) (hd : o.dst = some d) (hrun : (execOp a.eval o).run P w = .ok (.value v) w) (hk : wpL P ops Q l (a.put (some d) v) w) : wpL P ops Q (o :: l) a w := by
  unfold wpL
  rw [if_pos (by unfold Region.wanted; rw [hg])]
  refine ⟨?_, no_defer hrun (by intro d h; cases h)⟩
  unfold Oper.wp
  rw [hrun, Oper.upon_value, hd]
  exact hk
theorem wpL_skip {P : Program} {ops : Array Oper} {Q : Exit → Act → World → Prop} {o : Oper} {l : List Oper} {a : Act} {w w' : World} (hg : o.guard = none) (hd : o.dst = none) (hrun : (execOp a.eval o).run P w = .ok .skip w') (hk : wpL P ops Q l a w') : wpL P ops Q (o :: l) a w := by
  unfold wpL
  rw [if_pos (by unfold Region.wanted; rw [hg])]
  refine ⟨?_, no_defer hrun (by intro d h; cases h)⟩
  unfold Oper.wp
  rw [hrun, Oper.upon_skip, hd]
  exact hk
/-- an activation that has kept what is needed -/
structure Kp (S : List Nat) (a0 a : Act) : Prop where
  size : a.tmps.size = a0.tmps.size
  defers : a.defers = a0.defers
  keep : ∀ t, t ∈ S → a.tmps.getD t Go.undef = a0.tmps.getD t Go.undef
theorem Kp.put {S : List Nat} {a0 a : Act} (h : Kp S a0 a) (d : Nat) (v : Value) (hd : d ∉ S) : Kp S a0 (a.put (some d) v) :=
  ⟨by simp [Act.put, h.size], h.defers, fun t ht => by
    rw [← h.keep t ht]
    have : d ≠ t := fun e => hd (e ▸ ht)
    simp [Act.put, Array.getD_eq_getD_getElem?, this]⟩
theorem ev_same (a : Act) (d : Nat) (v : Value) (h : d < a.tmps.size) : (a.put (some d) v).eval (.tmp d) = v := by
  show (a.tmps.setIfInBounds d v).getD d Go.undef = v
  simp [Array.getD_eq_getD_getElem?, h]
theorem ev_ne (a : Act) (d t : Nat) (v : Value) (h : d ≠ t) : (a.put (some d) v).eval (.tmp t) = a.eval (.tmp t) := by
  show (a.tmps.setIfInBounds d v).getD t Go.undef = a.tmps.getD t Go.undef
  simp [Array.getD_eq_getD_getElem?, h]
theorem put_size (a : Act) (d : Nat) (v : Value) : (a.put (some d) v).tmps.size = a.tmps.size := by simp [Act.put]
theorem und37 : Try.prog.underlying 37 = some (.slice 31) := by kernel_rfl
theorem inf31 : ∃ i, Try.prog.info? 31 = some i ∧ i.size = 10 := by
  cases h : Try.prog.info? 31 with
  | none =>
    have : (Try.prog.info? 31).isSome = true := by kernel_rfl
    rw [h] at this; cases this
  | some i =>
    refine ⟨i, rfl, ?_⟩
    have : (Try.prog.info? 31).map (·.size) = some 10 := by kernel_rfl
    rw [h] at this
    exact Option.some.inj this
theorem run_len37 (L : Loc) (n : Nat) (hn : L.nil = true → n = 0) (ty : TypeId) (w : World) : (Builtin.len_ #[37] ty #[L.sl n]).run Try.prog w = .ok (.int .i64 n) w := by
  unfold Loc.sl
  by_cases h : L.nil = true
  · simp [h, hn h, Builtin.len_, run_underlying und37, goInt]
  · simp [h, Builtin.len_, run_underlying und37, goInt]
theorem run_cap37 (L : Loc) (n : Nat) (hn : L.nil = true → L.cap = 0) (ty : TypeId) (w : World) : (Builtin.cap_ #[37] ty #[L.sl n]).run Try.prog w = .ok (.int .i64 L.cap) w := by
  unfold Loc.sl
  by_cases h : L.nil = true
  · simp [h, hn h, Builtin.cap_, run_underlying und37, goInt]
  · simp [h, Builtin.cap_, run_underlying und37, goInt]
theorem run_full37 (L : Loc) (n : Nat) (hn : L.nil = true → L.cap = 0) (w : World) : (Instr.sliceAt 37 (L.sl n) none (some (.int .i64 L.cap)) none).run Try.prog w = .ok (L.sl L.cap) w := by
  obtain ⟨inf, hi, _⟩ := inf31
  unfold Loc.sl
  by_cases h : L.nil = true
  · have h0 := hn h
    simp only [h, if_true]
    have := run_slice_view (P := Try.prog) und37 hi none 0 0 0 0 none (some (.int .i64 ((0 : Nat) : Int))) (.inr ⟨_, rfl⟩) (.inl ⟨rfl, rfl⟩) (Nat.le_refl _) (Nat.le_refl _) w
    rw [h0]
    simpa using this
  · have h' : L.nil = false := by simpa using h
    simp only [h', if_false, Bool.false_eq_true]
    have := run_slice_view (P := Try.prog) und37 hi (some ⟨L.b, L.o, none⟩) n L.cap 0 L.cap none (some (.int .i64 (L.cap : Int))) (.inr ⟨_, rfl⟩) (.inl ⟨rfl, rfl⟩) (Nat.zero_le _) (Nat.le_refl _) w
    rw [this]
    simp [Addr.add]
abbrev S3 : List Nat := [2, 3, 5]
theorem do_r5 {rd : Option Nat} {n : Nat} {a : Act} {w : World} {K : Act → World → Prop} {Q : Exit → Act → World → Prop} (L : Loc) (k : Nat) (hsz : a.tmps.size = 43) (h6 : a.eval (.tmp 6) = L.sl k) (hn : L.nil = true → L.cap = 0)
    (hK : ∀ a', Kp S3 a a' → a'.eval (.tmp 6) = L.sl L.cap → K a' w) : (subOf nodesp [0]).wpIn (Rnd rd) n Try.prog (Exit.then K Q) a w := by
  rw [eq_r5]
  refine wpIn_region_list (wpL_in ?_)
  have k0 : Kp S3 a a := ⟨rfl, rfl, fun _ _ => rfl⟩
  refine wpL_val (v := L.sl k) rfl rfl (by simp [execOp, h6]) ?_
  have k1 := k0.put 19 (L.sl k) (by decide)
  have e1 := ev_same a 19 (L.sl k) (by omega)
  have f1 := ev_ne a 19 6 (L.sl k) (by decide)
  rw [h6] at f1
  generalize a.put (some 19) (L.sl k) = a1 at k1 e1 f1
  have s1 : a1.tmps.size = 43 := by rw [k1.size, hsz]
  refine wpL_val (v := L.sl k) rfl rfl (by simp [execOp, f1]) ?_
  have k2 := k1.put 20 (L.sl k) (by decide)
  have e2 := ev_same a1 20 (L.sl k) (by omega)
  have f2 := ev_ne a1 20 19 (L.sl k) (by decide)
  rw [e1] at f2
  generalize a1.put (some 20) (L.sl k) = a2 at k2 e2 f2
  have s2 : a2.tmps.size = 43 := by rw [k2.size, hsz]
  refine wpL_val (v := .int .i64 L.cap) rfl rfl (by simp [execOp, resolve, invoke, builtin, e2, run_cap37 L k hn]) ?_
  have k3 := k2.put 21 (.int .i64 L.cap) (by decide)
  have e3 := ev_same a2 21 (.int .i64 L.cap) (by omega)
  have f3 := ev_ne a2 21 19 (.int .i64 L.cap) (by decide)
  rw [f2] at f3
  generalize a2.put (some 21) (.int .i64 L.cap) = a3 at k3 e3 f3
  have s3 : a3.tmps.size = 43 := by rw [k3.size, hsz]
  refine wpL_val (v := L.sl L.cap) rfl rfl (by simp [execOp, e3, f3, run_full37 L k hn]) ?_
  have k4 := k3.put 22 (L.sl L.cap) (by decide)
  have e4 := ev_same a3 22 (L.sl L.cap) (by omega)
  generalize a3.put (some 22) (L.sl L.cap) = a4 at k4 e4
  have s4 : a4.tmps.size = 43 := by rw [k4.size, hsz]
  refine wpL_val (v := L.sl L.cap) rfl rfl (by simp [execOp, e4]) ?_
  exact hK _ (k4.put 6 (L.sl L.cap) (by decide)) (ev_same a4 6 _ (by omega))
theorem do_r6 {rd : Option Nat} {n : Nat} {a : Act} {w : World} {K : Act → World → Prop} {Q : Exit → Act → World → Prop} (v : Value) (hsz : a.tmps.size = 43) (h6 : a.eval (.tmp 6) = v)
    (hK : ∀ a', Kp S3 a a' → a'.eval (.tmp 6) = v → a'.eval (.tmp 7) = .int .i64 0 → K a' w) : (subOf nodesp [0, 0, 1]).wpIn (Rnd rd) n Try.prog (Exit.then K Q) a w := by
  rw [eq_r6]
  refine wpIn_region_list (wpL_in ?_)
  have k0 : Kp S3 a a := ⟨rfl, rfl, fun _ _ => rfl⟩
  refine wpL_val (v := .int .i64 0) rfl rfl (by simp [execOp, Act.eval]) ?_
  exact hK _ (k0.put 7 _ (by decide)) (by rw [ev_ne a 7 6 _ (by decide), h6]) (ev_same a 7 _ (by omega))
def run7 : Value := .agg #[.int .u32 7, .int .u32 0]
def box7 : Value := .agg #[.int .u32 7, .int .u32 0, .int .u32 0, .int .u32 0, .int .u16 0, .int .u16 0, .int .u16 0, .int .u16 0, .int .u8 0, .int .u8 0]
theorem bld31 (ρ : Operand → Value) (w : World) (o : Oper) (ho : o.op = Op.build 24 { toList := [(0, .const (.int .u32 7))] }) (h : ρ (.const (.int .u32 7)) = .int .u32 7) : (execOp ρ o).run Try.prog w = .ok (.value run7) w := by
  unfold execOp
  rw [ho]
  simp only [List.map_toArray, List.map_cons, List.map_nil, h]
  kernel_rfl
theorem bld32 (ρ : Operand → Value) (w : World) (o : Oper) (ho : o.op = Op.build 31 { toList := [(0, .tmp 31)] }) (h : ρ (.tmp 31) = run7) : (execOp ρ o).run Try.prog w = .ok (.value box7) w := by
  unfold execOp
  rw [ho]
  simp only [List.map_toArray, List.map_cons, List.map_nil, h]
  kernel_rfl
structure WI (base : Nat) (L : Loc) (el : TypeId) (w W : World) : Prop where
  bel : Bel base w W
  oth : ∀ i, (L.nil = false → i ≠ L.b) → W.heap[i]? = w.heap[i]?
  row : L.nil = false → ∃ arr, W.heap[L.b]? = some (.cells arr el (0, 0)) ∧ arr.size = L.cap * 10
theorem run_lss {a b : Int} {t : TypeId} (w : World) : (binOp .lss t (.int .i64 a) (.int .i64 b)).run Try.prog w = .ok (.bool (decide (a < b))) w := by simp [binOp, Op.intCmp]
theorem run_add {a b : Int} {t : TypeId} (w : World) : (binOp .add t (.int .i64 a) (.int .i64 b)).run Try.prog w = .ok (.int .i64 (IntKind.wrap .i64 (a + b))) w := by simp [binOp, Op.intArith]
theorem do_rounds {rd : Option Nat} {n base : Nat} {L : Loc} {el : TypeId} {a : Act} {w : World} {Q : Exit → Act → World → Prop} (hsz : a.tmps.size = 43) (hb : L.nil = false → base ≤ L.b) (ho0 : L.nil = false → L.o = 0) (hn : L.nil = true → L.cap = 0) (hmx : L.cap ≤ maxLen)
    (hQ : ∀ a' W, Kp S3 a a' → WI base L el w W → Q (.exit 0) a' W) :
    ∀ (j k : Nat) (a' : Act) (W : World), k + j = L.cap → Kp S3 a a' → a'.eval (.tmp 6) = L.sl L.cap → a'.eval (.tmp 7) = .int .i64 k → WI base L el w W →
      Code.roundsIn (Rnd rd) n Try.prog (subOf nodesp [0, 0, 1, 0, 1]) Q (j + 1) a' W := by
  intro j
  induction j with
  | zero =>
    intro k a' W hk kp h6 h7 hw
    have hkc : k = L.cap := by omega
    rw [roundsIn_succ, eq_lb]
    refine wpIn_seq (wpIn_seq (wpIn_region_list (wpL_in ?_)))
    have s0 : a'.tmps.size = 43 := by rw [kp.size, hsz]
    refine wpL_val (v := .int .i64 k) rfl rfl (by simp [execOp, h7]) ?_
    have k1 := kp.put 23 (.int .i64 k) (by decide)
    have e1 := ev_same a' 23 (.int .i64 k) (by omega)
    have f1 := ev_ne a' 23 6 (.int .i64 k) (by decide)
    rw [h6] at f1
    generalize a'.put (some 23) (.int .i64 k) = a1 at k1 e1 f1
    have s1 : a1.tmps.size = 43 := by rw [k1.size, hsz]
    refine wpL_val (v := L.sl L.cap) rfl rfl (by simp [execOp, f1]) ?_
    have k2 := k1.put 24 (L.sl L.cap) (by decide)
    have e2 := ev_same a1 24 (L.sl L.cap) (by omega)
    have f2 := ev_ne a1 24 23 (L.sl L.cap) (by decide)
    rw [e1] at f2
    generalize a1.put (some 24) (L.sl L.cap) = a2 at k2 e2 f2
    have s2 : a2.tmps.size = 43 := by rw [k2.size, hsz]
    refine wpL_val (v := .int .i64 L.cap) rfl rfl (by simp [execOp, resolve, invoke, builtin, e2, run_len37 L L.cap hn]) ?_
    have k3 := k2.put 25 (.int .i64 L.cap) (by decide)
    have e3 := ev_same a2 25 (.int .i64 L.cap) (by omega)
    have f3 := ev_ne a2 25 23 (.int .i64 L.cap) (by decide)
    rw [f2] at f3
    generalize a2.put (some 25) (.int .i64 L.cap) = a3 at k3 e3 f3
    have s3 : a3.tmps.size = 43 := by rw [k3.size, hsz]
    refine wpL_val (v := .bool (decide ((k : Int) < (L.cap : Int)))) rfl rfl (by simp [execOp, e3, f3, run_lss, eqGuard]) ?_
    have k4 := k3.put 26 (.bool (decide ((k : Int) < (L.cap : Int)))) (by decide)
    have e4 := ev_same a3 26 (.bool (decide ((k : Int) < (L.cap : Int)))) (by omega)
    rw [decide_eq_false (by omega)] at e4 k4 ⊢
    refine wpIn_cond e4 ?_
    exact wpIn_exit (hQ _ _ k4 hw)
  | succ j ih =>
    intro k a' W hk kp h6 h7 hw
    have hkc : k < L.cap := by omega
    have hnil : L.nil = false := by
      cases hl : L.nil with
      | false => rfl
      | true => have := hn hl; omega
    have ho : L.o = 0 := ho0 hnil
    rw [roundsIn_succ]
    have hih := ih (k + 1)
    rw [eq_lb] at hih ⊢
    refine wpIn_seq (wpIn_seq (wpIn_region_list (wpL_in ?_)))
    have s0 : a'.tmps.size = 43 := by rw [kp.size, hsz]
    refine wpL_val (v := .int .i64 k) rfl rfl (by simp [execOp, h7]) ?_
    have k1 := kp.put 23 (.int .i64 k) (by decide)
    have e1 := ev_same a' 23 (.int .i64 k) (by omega)
    have f1 := ev_ne a' 23 6 (.int .i64 k) (by decide)
    have g1 := ev_ne a' 23 7 (.int .i64 k) (by decide)
    rw [h6] at f1
    rw [h7] at g1
    generalize a'.put (some 23) (.int .i64 k) = a1 at k1 e1 f1 g1
    have s1 : a1.tmps.size = 43 := by rw [k1.size, hsz]
    refine wpL_val (v := L.sl L.cap) rfl rfl (by simp [execOp, f1]) ?_
    have k2 := k1.put 24 (L.sl L.cap) (by decide)
    have e2 := ev_same a1 24 (L.sl L.cap) (by omega)
    have f2 := ev_ne a1 24 23 (L.sl L.cap) (by decide)
    have g2 := ev_ne a1 24 7 (L.sl L.cap) (by decide)
    have i2 := ev_ne a1 24 6 (L.sl L.cap) (by decide)
    rw [e1] at f2
    rw [g1] at g2
    rw [f1] at i2
    generalize a1.put (some 24) (L.sl L.cap) = a2 at k2 e2 f2 g2 i2
    have s2 : a2.tmps.size = 43 := by rw [k2.size, hsz]
    refine wpL_val (v := .int .i64 L.cap) rfl rfl (by simp [execOp, resolve, invoke, builtin, e2, run_len37 L L.cap hn]) ?_
    have k3 := k2.put 25 (.int .i64 L.cap) (by decide)
    have e3 := ev_same a2 25 (.int .i64 L.cap) (by omega)
    have f3 := ev_ne a2 25 23 (.int .i64 L.cap) (by decide)
    have g3 := ev_ne a2 25 7 (.int .i64 L.cap) (by decide)
    have i3 := ev_ne a2 25 6 (.int .i64 L.cap) (by decide)
    rw [f2] at f3
    rw [g2] at g3
    rw [i2] at i3
    generalize a2.put (some 25) (.int .i64 L.cap) = a3 at k3 e3 f3 g3 i3
    have s3 : a3.tmps.size = 43 := by rw [k3.size, hsz]
    refine wpL_val (v := .bool (decide ((k : Int) < (L.cap : Int)))) rfl rfl (by simp [execOp, e3, f3, run_lss, eqGuard]) ?_
    have k4 := k3.put 26 (.bool (decide ((k : Int) < (L.cap : Int)))) (by decide)
    have e4 := ev_same a3 26 (.bool (decide ((k : Int) < (L.cap : Int)))) (by omega)
    have g4 := ev_ne a3 26 7 (.bool (decide ((k : Int) < (L.cap : Int)))) (by decide)
    have i4 := ev_ne a3 26 6 (.bool (decide ((k : Int) < (L.cap : Int)))) (by decide)
    rw [g3] at g4
    rw [i3] at i4
    rw [decide_eq_true (by omega)] at e4 k4 g4 i4 ⊢
    generalize a3.put (some 26) (.bool true) = a4 at k4 e4 g4 i4
    have s4 : a4.tmps.size = 43 := by rw [k4.size, hsz]
    refine wpIn_cond e4 (wpIn_skip ?_)
    -- the store
    refine wpIn_seq (wpIn_block (wpIn_region_list (wpL_in ?_)))
    refine wpL_val (v := L.sl L.cap) rfl rfl (by simp [execOp, i4]) ?_
    have k5 := k4.put 29 (L.sl L.cap) (by decide)
    have e5 := ev_same a4 29 (L.sl L.cap) (by omega)
    have g5 := ev_ne a4 29 7 (L.sl L.cap) (by decide)
    have i5 := ev_ne a4 29 6 (L.sl L.cap) (by decide)
    rw [g4] at g5
    rw [i4] at i5
    generalize a4.put (some 29) (L.sl L.cap) = a5 at k5 e5 g5 i5
    have s5 : a5.tmps.size = 43 := by rw [k5.size, hsz]
    refine wpL_val (v := .int .i64 k) rfl rfl (by simp [execOp, g5]) ?_
    have k6 := k5.put 30 (.int .i64 k) (by decide)
    have e6 := ev_same a5 30 (.int .i64 k) (by omega)
    have f6 := ev_ne a5 30 29 (.int .i64 k) (by decide)
    have g6 := ev_ne a5 30 7 (.int .i64 k) (by decide)
    have i6 := ev_ne a5 30 6 (.int .i64 k) (by decide)
    rw [e5] at f6
    rw [g5] at g6
    rw [i5] at i6
    generalize a5.put (some 30) (.int .i64 k) = a6 at k6 e6 f6 g6 i6
    have s6 : a6.tmps.size = 43 := by rw [k6.size, hsz]
    refine wpL_val (v := run7) rfl rfl (bld31 _ _ _ rfl rfl) ?_
    have k7 := k6.put 31 run7 (by decide)
    have e7 := ev_same a6 31 run7 (by omega)
    have f7 := ev_ne a6 31 29 run7 (by decide)
    have j7 := ev_ne a6 31 30 run7 (by decide)
    have g7 := ev_ne a6 31 7 run7 (by decide)
    have i7 := ev_ne a6 31 6 run7 (by decide)
    rw [f6] at f7
    rw [e6] at j7
    rw [g6] at g7
    rw [i6] at i7
    generalize a6.put (some 31) run7 = a7 at k7 e7 f7 j7 g7 i7
    have s7 : a7.tmps.size = 43 := by rw [k7.size, hsz]
    refine wpL_val (v := box7) rfl rfl (bld32 _ _ _ rfl e7) ?_
    have k8 := k7.put 32 box7 (by decide)
    have e8 := ev_same a7 32 box7 (by omega)
    have f8 := ev_ne a7 32 29 box7 (by decide)
    have j8 := ev_ne a7 32 30 box7 (by decide)
    have g8 := ev_ne a7 32 7 box7 (by decide)
    have i8 := ev_ne a7 32 6 box7 (by decide)
    rw [f7] at f8
    rw [j7] at j8
    rw [g7] at g8
    rw [i7] at i8
    generalize a7.put (some 32) box7 = a8 at k8 e8 f8 j8 g8 i8
    have s8 : a8.tmps.size = 43 := by rw [k8.size, hsz]
    obtain ⟨inf, hinf, hisz⟩ := inf31
    have hix := run_indexAt_sl (P := Try.prog) 37 31 und37 inf hinf L.b L.o L.cap L.cap .i64 (k : Int) (by omega) (by omega) W
    have hsl : L.sl L.cap = .slice (some ⟨L.b, L.o, none⟩) L.cap L.cap := by unfold Loc.sl; rw [hnil]; rfl
    rw [hisz, ho, Int.toNat_natCast, Nat.zero_add] at hix
    rw [hsl, ho] at f8
    refine wpL_val (v := .pointer (some ⟨L.b, k * 10, none⟩)) rfl rfl (by simp [execOp, f8, j8, hix]) ?_
    have k9 := k8.put 33 (.pointer (some ⟨L.b, k * 10, none⟩)) (by decide)
    have e9 := ev_same a8 33 (.pointer (some ⟨L.b, k * 10, none⟩)) (by omega)
    have f9 := ev_ne a8 33 32 (.pointer (some ⟨L.b, k * 10, none⟩)) (by decide)
    have g9 := ev_ne a8 33 7 (.pointer (some ⟨L.b, k * 10, none⟩)) (by decide)
    have i9 := ev_ne a8 33 6 (.pointer (some ⟨L.b, k * 10, none⟩)) (by decide)
    rw [e8] at f9
    rw [g8] at g9
    rw [i8] at i9
    generalize a8.put (some 33) (.pointer (some ⟨L.b, k * 10, none⟩)) = a9 at k9 e9 f9 g9 i9
    have s9 : a9.tmps.size = 43 := by rw [k9.size, hsz]
    obtain ⟨arr, hrow, hasz⟩ := hw.row hnil
    have hfit : k * 10 + 10 ≤ L.cap * 10 := by omega
    have hst := run_storeAt_row (P := Try.prog) 31 inf hinf box7 (by rw [hisz]; rfl) (by
      intro u hu
      simp only [box7, Value.cells, List.mem_cons, List.not_mem_nil, or_false] at hu
      rcases hu with h | h | h | h | h | h | h | h | h | h <;> subst h <;> rfl) L.b (k * 10) arr el hrow (by rw [hisz, hasz]; exact hfit)
    refine wpL_skip (w' := W.setRow L.b (arr.toList.take (k * 10) ++ box7.cells.toList ++ arr.toList.drop (k * 10 + inf.size)).toArray) rfl rfl (by simp [execOp, e9, f9, Sem.run_bind, hst, Result.andThen_ok, Sem.run_pure]) ?_
    have hw' : WI base L el w (W.setRow L.b (arr.toList.take (k * 10) ++ box7.cells.toList ++ arr.toList.drop (k * 10 + inf.size)).toArray) := by
      refine ⟨hw.bel.trans (below_setRow' _ _ _ (hb hnil)), fun i hi => ?_, fun _ => ⟨_, setRow_heap _ _ _ _ _ _ hrow, ?_⟩⟩
      · rw [← hw.oth i hi]
        exact setRow_other _ _ _ _ (hi hnil)
      · have : box7.cells.toList.length = 10 := rfl
        simp only [List.size_toArray, List.length_append, List.length_take, List.length_drop, this, Array.length_toList, hasz, hisz]
        omega
    -- the next one
    show (Code.region 8 _ false).wpIn _ _ _ _ _ _
    refine wpIn_region_list (wpL_in ?_)
    refine wpL_val (v := .int .i64 k) rfl rfl (by simp [execOp, g9]) ?_
    have k10 := k9.put 27 (.int .i64 k) (by decide)
    have e10 := ev_same a9 27 (.int .i64 k) (by omega)
    have i10 := ev_ne a9 27 6 (.int .i64 k) (by decide)
    rw [i9] at i10
    generalize a9.put (some 27) (.int .i64 k) = a10 at k10 e10 i10
    have s10 : a10.tmps.size = 43 := by rw [k10.size, hsz]
    have hwr : IntKind.wrap .i64 ((k : Int) + 1) = ((k + 1 : Nat) : Int) := by
      have : maxLen = 9223372036854775807 := rfl
      rw [wrap_i64 (by omega) (by omega)]; omega
    refine wpL_val (v := .int .i64 ((k + 1 : Nat) : Int)) rfl rfl (by
      have hc : a10.eval (.const (.int .i64 1)) = .int .i64 1 := rfl
      rw [← hwr]
      simp only [execOp, e10, hc, run_add, eqGuard, Sem.run_bind, Sem.run_pure, Result.andThen_ok]
      rfl) ?_
    have k11 := k10.put 28 (.int .i64 ((k + 1 : Nat) : Int)) (by decide)
    have e11 := ev_same a10 28 (.int .i64 ((k + 1 : Nat) : Int)) (by omega)
    have i11 := ev_ne a10 28 6 (.int .i64 ((k + 1 : Nat) : Int)) (by decide)
    rw [i10] at i11
    generalize a10.put (some 28) (.int .i64 ((k + 1 : Nat) : Int)) = a11 at k11 e11 i11
    have s11 : a11.tmps.size = 43 := by rw [k11.size, hsz]
    refine wpL_val (v := .int .i64 ((k + 1 : Nat) : Int)) rfl rfl (by simp [execOp, e11]) ?_
    exact hih _ _ (by omega) (k11.put 7 _ (by decide)) (by rw [ev_ne a11 7 6 _ (by decide), i11]) (ev_same a11 7 _ (by omega)) hw'
end Go.Sx.Mk


/- Boxes: the law BoxLess. -/
namespace Go.Sx.Mk
open Go.Proofs Go.RowKit
def finr (v : Bool) : St := ⟨sel 43 [4] [.bool v], []⟩
def mkr (a b : Bx) (want : List Row) : St := ⟨sel 43 [2, 3, 5] [.ptr 0 0, .ptr 1 0, .vw 2], [.cells (bxC a), .cells (bxC b), .vec true BK want none, .dead]⟩
structure Xsp where
  a : Bx
  b : Bx
  want : List Row
  l : List Row
def mksp (x : Xsp) : St := ⟨sel 43 [2, 3, 5, 6] [.ptr 0 0, .ptr 1 0, .vw 2, .vw 3], [.cells (bxC x.a), .cells (bxC x.b), .vec true BK x.want none, .vec true BK x.l none]⟩
def livesp : List (Nat × Option (List CK)) := [(2, none), (3, none), (5, some BK), (6, some BK)]
def picksp : List SV → List Blk → Option Xsp
  | [.ptr 0 0, .ptr 1 0, .vw 2, .vw 3], [.cells A, .cells B, .vec true k1 want none, .vec true k2 l none] => match decide (k1 = BK), decide (k2 = BK), bxP A, bxP B with
    | true, true, some a, some b => some ⟨a, b, want, l⟩
    | _, _, _, _ => none
  | _, _ => none
theorem picksp_ok : ∀ vals mem x, picksp vals mem = some x → mksp x = ⟨sel 43 [2, 3, 5, 6] vals, mem⟩ := by
  intro vals mem x h
  unfold picksp at h
  split at h
  · split at h
    · rename_i h1 h2 h3 h4
      cases h
      rw [of_decide_eq_true h1, of_decide_eq_true h2, bxP_ok h3, bxP_ok h4]
      rfl
    · cases h
  · cases h
abbrev SMR := List Row → List Row → Bool
noncomputable def Gsp (g5 : Bx → Bx → Bool) (ls : BR) (sm : SMR) : FuncId → Option (List SV → GT SV)
  | 13 => some (sg0 (.leaf (.bool true)))
  | 15 => some (sgBB fun a b => .when (g5 a b) (.leaf (.rows BK (ls a b))))
  | 16 => some (sgB2 fun l m => .leaf (.bool (sm l m)))
  | _ => none
theorem Gsp_ok : ∀ g s, Gsp (fun a b => ok5 a (bmX a b)) lessB smV g = some s → SummT Try.prog g s := fun g s h => by
  unfold Gsp at h
  split at h
  · cases h; exact S_awake
  · cases h; exact S_bl
  · cases h; exact S_same
  · cases h
theorem pc_rest (g5 : Bx → Bx → Bool) (ls : BR) (sm : SMR) (a b : Bx) (want : List Row) : pieceP Try.prog (Gsp g5 ls sm) ents [15] nolp (fun _ => none) 0 1 (subOf nodesp [1, 1]) [(4, none)] (mkr a b want) = sure (g5 a b) (some (E.ret, finr (sm (ls a b) want))) none := by kernel_rfl
def ressp (g5 : Bx → Bx → Bool) (ls : BR) (sm : SMR) (x : Xsp) : GT (E × St) := .when (g5 x.a x.b) (.leaf (.ret, finr (sm (ls x.a x.b) x.want)))
def annsp (g5 : Bx → Bx → Bool) (ls : BR) (sm : SMR) : Ann := ⟨livesp, 1000000, some (sumT 43 [2, 3, 5, 6] picksp (ressp g5 ls sm))⟩
noncomputable def Gbl2 (gl g5 : Bx → Bx → Bool) (ls lr : BR) (sm : SMR) : FuncId → Option (List SV → GT SV)
  | 14 => some (sgBB fun a b => .when (gl a b) (.leaf (.rows BK (lr a b))))
  | 15 => some (sgBB fun a b => .when (g5 a b) (.leaf (.rows BK (ls a b))))
  | 16 => some (sgB2 fun l m => .leaf (.bool (sm l m)))
  | _ => none
theorem Gbl2_ok : ∀ g s, Gbl2 okL (fun a b => ok5 a (bmX a b)) lessB lessBR smV g = some s → SummT Try.prog g s := fun g s h => by
  unfold Gbl2 at h
  split at h
  · cases h; exact S_rless
  · cases h; exact S_bl
  · cases h; exact S_same
  · cases h
noncomputable def T_lbl (gl g5 : Bx → Bx → Bool) (ls lr : BR) (sm : SMR) (a b : Bx) : GT SV := GT.br (gl a b)
    (GT.br (g5 a b)
      (GT.br (!sm (ls a b) (lr a b)) (GT.leaf (SV.bool false))
        (GT.br (g5 a b) (GT.leaf (SV.bool (sm (ls a b) (lr a b)))) GT.stop))
      GT.stop)
    GT.stop
theorem e_lbl (gl g5 : Bx → Bx → Bool) (ls lr : BR) (sm : SMR) (a b : Bx) : evFn Try.prog (Gbl2 gl g5 ls lr sm) ents [15, 14] (lpN [] [(4, [1, 1, 1, 1], annsp g5 ls sm)]) 1 4 [bx a, bx b] = (T_lbl gl g5 ls lr sm a b).opt := by kernel_rfl
theorem nb {a b : Nat} (h : ¬ a = b) : Nat.beq a b = false := by
  cases hb : Nat.beq a b with
  | false => rfl
  | true => exact absurd (Nat.eq_of_beq_eq_true hb) h
abbrev gX (a b : Bx) : Bool := ok5 a (bmX a b)
theorem code_sp : CodeOKP Try.prog 0 nodesp (fun st => (sumT 43 [2, 3, 5, 6] picksp (ressp gX lessB smV) st).opt) := by
  intro mb rd n0 st e st' h0 hpl base ρ a w Q hs hir hq
  have h : (sumT 43 [2, 3, 5, 6] picksp (ressp gX lessB smV) st).opt = some (e, st') := h0
  clear h0
  unfold sumT at h
  split at h
  case h_2 => cases h
  rename_i hn
  have hn' : st.tmps.length = 43 := Nat.eq_of_beq_eq_true hn
  split at h
  case h_2 => cases h
  rename_i x hx
  have hs0 := sel_std (live := [2, 3, 5, 6]) hs hn'
  have hmem : (mksp x).mem = st.mem := by rw [picksp_ok _ _ _ hx]
  rw [← picksp_ok _ _ _ hx] at hs0
  obtain ⟨xa, xb, want, l⟩ := x
  unfold ressp at h
  obtain ⟨hg, h2⟩ := GT.opt_when h
  simp only at hg h2
  have h2' : (E.ret, finr (smV (lessB xa xb) want)) = (e, st') := Option.some.inj h2
  simp only [Prod.mk.injEq] at h2'
  obtain ⟨rfl, rfl⟩ := h2'
  have hsz : a.tmps.size = 43 := by rw [← hs0.size]; rfl
  have hid : (mksp ⟨xa, xb, want, l⟩).mem[3]? = some (.vec true BK l none) := rfl
  have hB := hs0.mem.blk 3 _ hid
  have h6 : a.eval (.tmp 6) = (ρ 3).sl l.length := hs0.tmps 6
  have hB2 := hB.2.2
  have hnc : (ρ 3).nil = true → (ρ 3).cap = 0 := fun hn => by
    rcases hB2 with h | h
    · exact h.2.2
    · rw [hn] at h; cases h.1
  have hmx : (ρ 3).cap ≤ maxLen := by
    rcases hB2 with h | h
    · rw [h.2.2]; exact Nat.zero_le _
    · exact h.2.2.2.2.1
  rw [eq_sp]
  refine wpIn_seq (do_r5 (ρ 3) l.length hsz h6 hnc ?_)
  intro a1 k1 e1
  show (Code.seq _ _).wpIn _ _ _ _ _ _
  refine wpIn_seq (wpIn_seq (do_r6 _ (by rw [k1.size, hsz]) e1 ?_))
  intro a2 k2 e2 e2'
  show (Code.block 0 _).wpIn _ _ _ _ _ _
  have k12 : Kp S3 a a2 := ⟨k2.size.trans k1.size, k2.defers.trans k1.defers, fun t ht => (k2.keep t ht).trans (k1.keep t ht)⟩
  have b : (ρ 3).nil = false → base ≤ (ρ 3).b := fun hn => by
    rcases hB2 with h | h
    · rw [h.1] at hn; cases hn
    · exact h.2.1
  have o : (ρ 3).nil = false → (ρ 3).o = 0 := fun hn => by
    rcases hB2 with h | h
    · rw [h.1] at hn; cases hn
    · exact h.2.2.1
  obtain ⟨el, hrow⟩ : ∃ el, (ρ 3).nil = false → ∃ arr, w.heap[(ρ 3).b]? = some (.cells arr el (0, 0)) ∧ arr.size = (ρ 3).cap * 10 := by
    rcases hB2 with h | ⟨_, _, _, _, _, arr, el, h6, h7, _⟩
    · exact ⟨0, fun hn => by rw [h.1] at hn; cases hn⟩
    · exact ⟨el, fun _ => ⟨arr, h6, h7⟩⟩
  refine wpIn_block (wpIn_loop_rounds ((ρ 3).cap + 1) ?_)
  refine do_rounds (base := base) (L := ρ 3) (el := el) (a := a) (w := w) hsz b o hnc hmx ?_ (ρ 3).cap 0 a2 w (Nat.zero_add _) k12 e2 e2' ⟨Bel.refl _ _, fun _ _ => rfl, hrow⟩
  intro a3 W k3 hw
  show Exit.inBlock 0 _ (.exit 0) a3 W
  unfold Exit.inBlock
  simp only [if_true]
  show (subOf nodesp [1, 1]).wpIn (Rnd rd) n0 Try.prog Q a3 W
  have hbW : base ≤ W.heap.size := Nat.le_trans hs.base hw.bel.size
  have hm4 : SatM ρ ((mksp ⟨xa, xb, want, l⟩).mem.set 3 .dead) base W := by
    by_cases hn : (ρ 3).nil = true
    · have hcap := hnc hn
      have key : ∀ (id : Nat) (y : Blk), ((mksp ⟨xa, xb, want, l⟩).mem.set 3 .dead)[id]? = some y → y ≠ .dead → (mksp ⟨xa, xb, want, l⟩).mem[id]? = some y := by
        intro id y hy hne
        by_cases he : id = 3
        · subst he
          rw [List.getElem?_set_self (by show 3 < 4; omega)] at hy
          cases hy; exact absurd rfl hne
        · rwa [List.getElem?_set_ne (Ne.symm he)] at hy
      refine ⟨fun id y hy => ?_, fun i j p q hp hq' ho1 ho2 => hs0.mem.inj i j p q (key i p hp (by rintro rfl; cases ho1)) (key j q hq' (by rintro rfl; cases ho2)) ho1 ho2⟩
      by_cases hd : y = .dead
      · subst hd; trivial
      · have hy' := key id y hy hd
        refine (hs0.mem.blk id y hy').mono (ext_set (y := .dead) ρ hid trivial) rfl (fun hnd => ?_)
        exact hw.oth _ (fun hf => by rw [hn] at hf; cases hf)
    · have hn' : (ρ 3).nil = false := by simpa using hn
      exact hs0.mem.write hs.base hid rfl hn' trivial (by simp [Blk.isOwn]) (fun k hk hne => hw.oth k (fun _ => hne)) trivial
  have hs3 : Std mb ρ base (mkr xa xb want) a3 W := by
    refine ⟨by rw [k3.defers]; exact hs.defers.keep hw.bel.oth, by rw [k3.size, hsz]; rfl, fun t => ?_, hm4, hbW, Nat.le_trans hs.old hw.bel.size⟩
    have kk := fun (u : Nat) (hu : u ∈ S3) => (k3.keep u hu)
    by_cases h2 : t = 2
    · subst h2
      rw [kk 2 (by decide)]
      exact hs0.tmps 2
    by_cases h3 : t = 3
    · subst h3
      rw [kk 3 (by decide)]
      exact hs0.tmps 3
    by_cases h5 : t = 5
    · subst h5
      rw [kk 5 (by decide)]
      exact hs0.tmps 5
    by_cases ht : t < 43
    · have : (mkr xa xb want).tmps.getD t .undef = .poison := by
        show (sel 43 [2, 3, 5] [.ptr 0 0, .ptr 1 0, .vw 2]).getD t .undef = .poison
        have e1 : (sel 43 [2, 3, 5] [.ptr 0 0, .ptr 1 0, .vw 2]).getD t .undef = sel1 [2, 3, 5] [.ptr 0 0, .ptr 1 0, .vw 2] t := by
          simp [sel, List.getD_eq_getElem?_getD, ht]
        rw [e1]
        unfold sel1 indexN
        have n2 : Nat.beq t 2 = false := nb h2
        have n3 : Nat.beq t 3 = false := nb h3
        have n5 : Nat.beq t 5 = false := nb h5
        rw [n2]
        simp only [indexN, n3, n5]
      rw [this]
      trivial
    · have e1 : (mkr xa xb want).tmps.getD t .undef = .undef := by
        simp [mkr, sel, List.getD_eq_getElem?_getD, ht]
      have e2 : a3.tmps.getD t Go.undef = Go.undef := by
        have : a3.tmps.size ≤ t := by rw [k3.size, hsz]; omega
        simp [Array.getD_eq_getD_getElem?, this]
      rw [e1, e2]
      rfl
  have hpc := (pc_rest gX lessB smV xa xb want).trans (show sure (gX xa xb) _ none = some (E.ret, finr (smV (lessB xa xb) want)) by rw [hg]; rfl)
  refine piece_wp (imp := [15]) (facts Gsp_ok) 0 1 (subOf nodesp [1, 1]) (lpOK_none _) [(4, none)] hpc hs3 (hir.keep hw.bel.oth) (Nat.zero_le _) ?_
  intro ρ' a' w' g1 g2 g3
  exact hq ρ' a' w' g1 (hw.bel.trans g2) ⟨Nat.zero_le _, fun _ h => absurd h (Nat.not_lt_zero _), fun _ _ _ h => absurd h (Nat.not_lt_zero _)⟩
noncomputable def evLess7 (svs : List SV) : Option SV := evFn Try.prog (Gbl2 okL gX lessB lessBR smV) ents [15, 14] (lpN [] [(4, [1, 1, 1, 1], annsp gX lessB smV)]) 1 4 svs
theorem LLess7.summ : Summ Try.prog 4 evLess7 := evFn_summ (factsN Gbl2_ok [] _ (fun x hx => by cases hx) (by
  intro x hx
  rw [List.mem_singleton] at hx
  subst hx
  intro s pin hs hp
  cases hs
  have hpin : pin = 0 := by
    have : (1000000 : Nat) = 1000000 + pin := hp
    omega
  subst hpin
  exact code_sp)) 1 4
end Go.Sx.Mk


/- Boxes: BoxLess, as its row wants it. -/
namespace Go.Sx.Mk
open Go.Proofs Go.RowKit
theorem lessBs_eq {a b : Bx} (ha : OkB a) (hb : OkB b) : lessB a b = lessBR a b := by
  unfold lessB lessBR maB
  by_cases h1 : ckB a = 0
  case neg =>
    have e1 : (ckB a == 0) = false := by simpa using h1
    have e2 : (ckB a != 0) = true := by simpa using h1
    rw [e1, e2]; rfl
  have e1 : (ckB a == 0) = true := by simpa using h1
  have e2 : (ckB a != 0) = false := by simpa using h1
  by_cases h2 : ckB b = 0
  case neg =>
    have f1 : (ckB b == 0) = false := by simpa using h2
    have f2 : (ckB b != 0) = true := by simpa using h2
    rw [e1, e2, f1, f2]; rfl
  have f1 : (ckB b == 0) = true := by simpa using h2
  have f2 : (ckB b != 0) = false := by simpa using h2
  rw [e1, e2, f1, f2]
  cases h : bmB a b with
  | false => rfl
  | true =>
    show lessX r1 r2 r3 r4 r5 a (bmX a b) = pcL a (bmX a b) (Mm.lessRr a.mv a.mc b.mv b.mc)
    exact lessX_pc ha hb h
theorem lessRr_len {a m : Bx} (h1 : U8 a.mv) (h2 : U8 a.mc) (h3 : U8 m.mv) (h4 : U8 m.mc) : decide ((Mm.lessRr a.mv a.mc m.mv m.mc).length ≤ 200) = true := by
  have h := ok5_ok h1 h2 h3 h4
  unfold ok5 at h
  obtain ⟨A, e1, hA⟩ := Mm.In.nat h1
  obtain ⟨C, e2, hC⟩ := Mm.In.nat h2
  obtain ⟨B, e3, hB⟩ := Mm.In.nat h3
  obtain ⟨D, e4, hD⟩ := Mm.In.nat h4
  rw [e1, e2, e3, e4, Mm.less_eq hA hC hB hD] at h
  rw [e1, e2, e3, e4]
  exact h
theorem less7 {a b : Bx} (ha : OkB a) (hb : OkB b) : (T_lbl okL gX lessB lessBR smV a b).opt = some (.bool true) := by
  have hl : okL a b = true := by
    unfold okL
    rw [okB_iff.2 ha, okB_iff.2 hb, lessRr_len ha.mv ha.mc hb.mv hb.mc]
    rfl
  have hg : gX a b = true := ok5_ok ha.mv ha.mc (bmX_ok ha hb).mv (bmX_ok ha hb).mc
  unfold T_lbl
  rw [hl, hg, lessBs_eq ha hb, smV_refl]
  rfl
theorem LLess7.ok (sl sh dl dh pl ph ql qh mv mc sl' sh' dl' dh' pl' ph' ql' qh' mv' mc' : Int) (h0_0 : U32 sl) (h0_1 : U32 sh) (h0_2 : U32 dl) (h0_3 : U32 dh) (h0_4 : U16 pl) (h0_5 : U16 ph) (h0_6 : U16 ql) (h0_7 : U16 qh) (h0_8 : U8 mv) (h0_9 : U8 mc) (h1_0 : U32 sl') (h1_1 : U32 sh') (h1_2 : U32 dl') (h1_3 : U32 dh') (h1_4 : U16 pl') (h1_5 : U16 ph') (h1_6 : U16 ql') (h1_7 : U16 qh') (h1_8 : U8 mv') (h1_9 : U8 mc') : evLess7 [bx ⟨sl, sh, dl, dh, pl, ph, ql, qh, mv, mc⟩, bx ⟨sl', sh', dl', dh', pl', ph', ql', qh', mv', mc'⟩] = some (.bool true)  :=
  (e_lbl okL gX lessB lessBR smV _ _).trans (less7 ⟨h0_0, h0_1, h0_2, h0_3, h0_4, h0_5, h0_6, h0_7, h0_8, h0_9⟩ ⟨h1_0, h1_1, h1_2, h1_3, h1_4, h1_5, h1_6, h1_7, h1_8, h1_9⟩)
end Go.Sx.Mk
