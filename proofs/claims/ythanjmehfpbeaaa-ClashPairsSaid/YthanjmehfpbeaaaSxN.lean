/- What the functions of the layer answer, by value, and the plain laws behind the statement. Conditions: none beyond those that each theorem names. -/
import Derived.Test.YthanjmehfpbeaaaSxM
set_option linter.unusedVariables false
set_option linter.unusedSimpArgs false
/- Clashes: may a list be? Both. -/
namespace Go.Sx.Mk
open Go.Proofs Go.RowKit
theorem chkB_len : ∀ (rs pre : List Row), chkB pre rs = 0 → rs = [] ∨ pre.length + rs.length ≤ 64
  | [], _, _ => .inl rfl
  | r :: rs, pre, h => by
    unfold chkB at h
    right
    cases ht : (tkV pre (rowR r) != 0) with
    | true =>
      rw [ht] at h
      have hne : ¬ tkV pre (rowR r) = 0 := by simpa using ht
      exact absurd h hne
    | false =>
      rw [ht] at h
      by_cases h64 : 64 ≤ pre.length
      · rw [decide_eq_true h64] at h; cases h
      · rw [decide_eq_false h64] at h
        rcases chkB_len rs (pre ++ [r]) h with h' | h'
        · subst h'; simp; omega
        · simp at h' ⊢; omega
theorem chkL_len {l : List Row} (h : chkL l = 0) : l.length ≤ 64 := by
  rcases chkB_len l [] h with h' | h'
  · subst h'; simp
  · simpa using h'
theorem S_chk : SummT Try.prog 28 (sgL fun l => .leaf (.int .i64 (chkL l))) := sgL.summ (evFn_summ (factsL Gts_ok _ (Pp.at_one (f0 := 53) (p0 := [0, 1, 0, 1, 1]) (ann := annts okts chkL) (fun s h => by cases h; exact loopts))) 2 28) (fun l sv h => by
  refine (e_chk tkV okts chkL l).trans (Eq.trans ?_ h)
  unfold T_chk
  have hok : okts l l.length l.length (l.length : Int) 0 = true := by simp [okts]
  rw [hok]
  by_cases h0 : chkL l = 0
  · have := chkL_len h0
    rw [h0, decide_eq_true (show (0 : Int) ≤ (l.length : Int) ∧ (l.length : Int) ≤ (l.length : Int) ∧ (l.length : Int) < 4000000000 by omega)]
    rfl
  · have hb : (chkL l == 0) = false := by simpa using h0
    rw [hb]; rfl)
/-! of the reference -/
noncomputable def bodyli : Code := bodyOf 29 [0, 1, 0, 1, 1, 0, 0, 1, 0, 0, 1, 0, 1]
def liveli : List (Nat × Option (List CK)) := [(0, none), (3, none), (6, none)]
def outli : List (Nat × Option (List CK)) := [(0, none), (3, none), (2, none)]
def mkli (l : List Row) (n : Nat) (i : Int) (k : Int) : St := ⟨sel 42 [0, 3, 6] [.vs 0 0 n, .int .i64 i, .int .i64 k], [.vec false RK l none]⟩
def finli (l : List Row) (n : Nat) (i : Int) (s : SV) : St := ⟨sel 42 [0, 3, 2] [.vs 0 0 n, .int .i64 i, s], [.vec false RK l none]⟩
structure Xli where
  l : List Row
  n : Nat
  i : Int
  k : Int
def Xli.st (x : Xli) : St := mkli x.l x.n x.i x.k
def pickli : List SV → List Blk → Option Xli
  | [.vs 0 0 n, .int .i64 i, .int .i64 k], [.vec false [.i .i64, .i .u32, .i .i64, .i .u32, .i .i64, .i .u16, .i .u16, .i .u16, .i .u16, .i .u8, .i .u8, .i .i64] l none] => some ⟨l, n, i, k⟩
  | _, _ => none
theorem pickli_ok : ∀ vals mem x, pickli vals mem = some x → x.st = ⟨sel 42 [0, 3, 6] vals, mem⟩ := by
  intro vals mem x h
  unfold pickli at h
  split at h
  · cases h; rfl
  · cases h
theorem step_li (again : St → Option (E × St)) (l : List Row) (n : Nat) (i k : Int) : step Try.prog G0 ents [] 1 bodyli liveli outli again (mkli l n i k) = sure (decide (k < i))
    (sure (decide ((0 : Int) ≤ k ∧ k < (↑n : Int)))
      (sure (decide ((0 : Int) ≤ i ∧ i < (↑n : Int)))
        (sure
          (List.getD (l.getD ((0 : Nat) + k.toNat) []) ((0 : Nat) + (0 : Nat)) (0 : Int) ==
            List.getD (l.getD ((0 : Nat) + i.toNat) []) ((0 : Nat) + (0 : Nat)) (0 : Int))
          (some (E.ret, finli l n i (SV.int IntKind.i64 (111 : Int))))
          (again (mkli l n i (IntKind.i64.wrap (k + (1 : Int))))))
        none)
      none)
    (some (E.brk (2 : Nat), finli l n i SV.poison)) := by kernel_rfl
def anyF (id : Int) : List Row → Bool
  | [] => false
  | r :: rs => match r.getD 0 0 == id with
    | true => true
    | false => anyF id rs
def endli (l : List Row) (n : Nat) (i : Int) (b : Bool) : E × St := match b with
  | true => (.ret, finli l n i (.int .i64 111))
  | false => (.brk 2, finli l n i .poison)
theorem run_li (y : Row) (tl : List Row) : ∀ (rs pre : List Row), ((pre ++ rs) ++ y :: tl).length ≤ maxLen →
    loopN (step Try.prog G0 ents [] 1 bodyli liveli outli) (rs.length + 1) (mkli ((pre ++ rs) ++ y :: tl) ((pre ++ rs) ++ y :: tl).length ((pre ++ rs).length : Nat) (pre.length : Nat)) = some (endli ((pre ++ rs) ++ y :: tl) ((pre ++ rs) ++ y :: tl).length ((pre ++ rs).length : Nat) (anyF (y.getD 0 0) rs))
  | [], pre, _ => by
    rw [show ([] : List Row).length + 1 = 0 + 1 from rfl, loopN_succ, step_li, decide_eq_false (by simp)]
    rfl
  | x :: rs, pre, hlen => by
    rw [show (x :: rs).length + 1 = (rs.length + 1) + 1 from rfl, loopN_succ, step_li]
    have hm : maxLen = 9223372036854775807 := rfl
    have hL : (pre ++ x :: rs).length = pre.length + rs.length + 1 := by simp; omega
    have hA : ((pre ++ x :: rs) ++ y :: tl).length = pre.length + rs.length + 1 + tl.length + 1 := by simp; omega
    have h0 : ((pre.length : Nat) : Int) < (((pre ++ x :: rs).length : Nat) : Int) := by omega
    have h1 : (0 : Int) ≤ ((pre.length : Nat) : Int) ∧ ((pre.length : Nat) : Int) < ((((pre ++ x :: rs) ++ y :: tl).length : Nat) : Int) := ⟨by omega, by omega⟩
    have h2 : (0 : Int) ≤ (((pre ++ x :: rs).length : Nat) : Int) ∧ (((pre ++ x :: rs).length : Nat) : Int) < ((((pre ++ x :: rs) ++ y :: tl).length : Nat) : Int) := ⟨by omega, by omega⟩
    have h3 : IntKind.wrap .i64 (((pre.length : Nat) : Int) + 1) = (((pre ++ [x]).length : Nat) : Int) := by rw [wrap_i64 (by omega) (by omega)]; simp
    have h5 : pre ++ x :: rs = (pre ++ [x]) ++ rs := by simp
    have ih := run_li y tl rs (pre ++ [x]) (by rw [← h5]; exact hlen)
    rw [← h5] at ih
    have g1 : ((pre ++ x :: rs) ++ y :: tl).getD (0 + ((pre.length : Nat) : Int).toNat) [] = x := by
      rw [show (pre ++ x :: rs) ++ y :: tl = pre ++ x :: (rs ++ y :: tl) by simp]
      exact mid7 pre x (rs ++ y :: tl) _ (Int.toNat_natCast _)
    have g2 : ((pre ++ x :: rs) ++ y :: tl).getD (0 + (((pre ++ x :: rs).length : Nat) : Int).toNat) [] = y := mid7 _ y tl _ (Int.toNat_natCast _)
    rw [g1, g2, h3, decide_eq_true h0, decide_eq_true h1, decide_eq_true h2]
    show sure (x.getD 0 0 == y.getD 0 0) _ _ = _
    unfold anyF
    cases x.getD 0 0 == y.getD 0 0 with
    | true => rfl
    | false => exact ih
def okli (l : List Row) (n : Nat) (i k : Int) : Bool := k == 0 && (decide (n = l.length) && decide (0 ≤ i ∧ i < (l.length : Int)))
def hasI (l : List Row) (i : Int) : Bool := anyF ((l.getD i.toNat []).getD 0 0) (l.take i.toNat)
abbrev KLi := List Row → Nat → Int → Int → Bool
def resli (ok : KLi) (hs : List Row → Int → Bool) (x : Xli) : GT (E × St) := .when (ok x.l x.n x.i x.k) (.br (hs x.l x.i) (.leaf (.ret, finli x.l x.n x.i (.int .i64 111))) (.leaf (.brk 2, finli x.l x.n x.i .poison)))
theorem loopli : LoopOK Try.prog bodyli (fun st => (sumT 42 [0, 3, 6] pickli (resli okli hasI) st).opt) := by
  refine loop_two (imp := []) (facts G0_ok) 0 1 bodyli (lpOK_none _) liveli outli 42 [0, 3, 6] pickli Xli.st (fun x => okli x.l x.n x.i x.k) (fun x => hasI x.l x.i) _ _ pickli_ok ?_
  intro x h1 hlen
  obtain ⟨l, n, i, k⟩ := x
  simp only [okli, Bool.and_eq_true, beq_iff_eq, decide_eq_true_eq] at h1
  obtain ⟨hk, hn, h0, hi⟩ := h1
  have hle := hlen 0 false _ l none rfl
  obtain ⟨i, rfl⟩ := Int.eq_ofNat_of_zero_le h0
  have hil : i < l.length := by omega
  have hsp : l = l.take i ++ l[i] :: l.drop (i + 1) := by simp
  have hti : (l.take i).length = i := by simp; omega
  have h5 := run_li l[i] (l.drop (i + 1)) (l.take i) [] (by simpa using hle)
  simp only [List.nil_append, List.length_nil] at h5
  rw [← hsp, hti] at h5
  refine ⟨i + 1, ?_⟩
  unfold Xli.st
  try simp only at hk hn
  rw [hk, hn]
  refine h5.trans ?_
  have hg : l.getD i [] = l[i] := by simp [List.getD_eq_getElem?_getD, hil]
  unfold endli hasI
  simp only [Int.toNat_natCast, hg]
  cases anyF (l[i].getD 0 0) (l.take i) <;> rfl
def annli (ok : KLi) (hs : List Row → Int → Bool) : Ann := ⟨liveli, 0, some (sumT 42 [0, 3, 6] pickli (resli ok hs))⟩
noncomputable def Glo (g : Rl → Bool) (ce ci : Rl → Int) : FuncId → Option (List SV → GT SV)
  | 54 => some (sgR fun r => .when (g r) (.leaf (.tup [.int .i64 (ce r), .int .i64 (ci r)])))
  | _ => none
theorem Glo_ok : ∀ g s, Glo okR ckE ckI g = some s → SummT Try.prog g s := fun g s h => by
  unfold Glo at h
  split at h
  · cases h; exact S_rrck
  · cases h
noncomputable def bodylo : Code := bodyOf 29 [0, 1, 0, 1]
def livelo : List (Nat × Option (List CK)) := [(0, none), (3, none)]
def outlo : List (Nat × Option (List CK)) := [(2, none)]
def mklo (l : List Row) (n : Nat) (i : Int) : St := ⟨sel 42 [0, 3] [.vs 0 0 n, .int .i64 i], [.vec false RK l none]⟩
def finlo (s : SV) : St := ⟨sel 42 [2] [s], []⟩
structure Xlo where
  l : List Row
  n : Nat
  i : Int
def Xlo.st (x : Xlo) : St := mklo x.l x.n x.i
def picklo : List SV → List Blk → Option Xlo
  | [.vs 0 0 n, .int .i64 i], [.vec false [.i .i64, .i .u32, .i .i64, .i .u32, .i .i64, .i .u16, .i .u16, .i .u16, .i .u16, .i .u8, .i .u8, .i .i64] l none] => some ⟨l, n, i⟩
  | _, _ => none
theorem picklo_ok : ∀ vals mem x, picklo vals mem = some x → x.st = ⟨sel 42 [0, 3] vals, mem⟩ := by
  intro vals mem x h
  unfold picklo at h
  split at h
  · cases h; rfl
  · cases h
theorem step_lo (g : Rl → Bool) (ce ci : Rl → Int) (ok : KLi) (hs : List Row → Int → Bool) (again : St → Option (E × St)) (l : List Row) (n : Nat) (i : Int) : stepP Try.prog (Glo g ce ci) ents [] (fun _ _ => none) (lpC [([0, 1, 0, 1, 1, 0, 0, 1], annli ok hs)]) 0 1 bodylo livelo outlo again (mklo l n i) = sure (decide (i < (↑n : Int)))
    (sure (decide ((0 : Int) ≤ i ∧ i < (↑n : Int)))
      (sure
        (g
          { id := List.getD (l.getD ((0 : Nat) + i.toNat) []) (0 : Nat) (0 : Int),
            sa := List.getD (l.getD ((0 : Nat) + i.toNat) []) ((0 : Nat) + (1 : Nat)) (0 : Int),
            sn := List.getD (l.getD ((0 : Nat) + i.toNat) []) ((0 : Nat) + (1 : Nat) + (1 : Nat)) (0 : Int),
            da := List.getD (l.getD ((0 : Nat) + i.toNat) []) ((0 : Nat) + (1 : Nat) + (1 : Nat) + (1 : Nat)) (0 : Int),
            dn :=
              List.getD (l.getD ((0 : Nat) + i.toNat) []) ((0 : Nat) + (1 : Nat) + (1 : Nat) + (1 : Nat) + (1 : Nat))
                (0 : Int),
            sl :=
              List.getD (l.getD ((0 : Nat) + i.toNat) [])
                ((0 : Nat) + (1 : Nat) + (1 : Nat) + (1 : Nat) + (1 : Nat) + (1 : Nat)) (0 : Int),
            sh :=
              List.getD (l.getD ((0 : Nat) + i.toNat) [])
                ((0 : Nat) + (1 : Nat) + (1 : Nat) + (1 : Nat) + (1 : Nat) + (1 : Nat) + (1 : Nat)) (0 : Int),
            dl :=
              List.getD (l.getD ((0 : Nat) + i.toNat) [])
                ((0 : Nat) + (1 : Nat) + (1 : Nat) + (1 : Nat) + (1 : Nat) + (1 : Nat) + (1 : Nat) + (1 : Nat))
                (0 : Int),
            dh :=
              List.getD (l.getD ((0 : Nat) + i.toNat) [])
                ((0 : Nat) + (1 : Nat) + (1 : Nat) + (1 : Nat) + (1 : Nat) + (1 : Nat) + (1 : Nat) + (1 : Nat) +
                  (1 : Nat))
                (0 : Int),
            mv :=
              List.getD (l.getD ((0 : Nat) + i.toNat) [])
                ((0 : Nat) + (1 : Nat) + (1 : Nat) + (1 : Nat) + (1 : Nat) + (1 : Nat) + (1 : Nat) + (1 : Nat) +
                    (1 : Nat) +
                  (1 : Nat))
                (0 : Int),
            mc :=
              List.getD (l.getD ((0 : Nat) + i.toNat) [])
                ((0 : Nat) + (1 : Nat) + (1 : Nat) + (1 : Nat) + (1 : Nat) + (1 : Nat) + (1 : Nat) + (1 : Nat) +
                      (1 : Nat) +
                    (1 : Nat) +
                  (1 : Nat))
                (0 : Int),
            ac :=
              List.getD (l.getD ((0 : Nat) + i.toNat) [])
                ((0 : Nat) + (1 : Nat) + (1 : Nat) + (1 : Nat) + (1 : Nat) + (1 : Nat) + (1 : Nat) + (1 : Nat) +
                        (1 : Nat) +
                      (1 : Nat) +
                    (1 : Nat) +
                  (1 : Nat))
                (0 : Int) })
        (sure
          (ce
              { id := List.getD (l.getD ((0 : Nat) + i.toNat) []) (0 : Nat) (0 : Int),
                sa := List.getD (l.getD ((0 : Nat) + i.toNat) []) ((0 : Nat) + (1 : Nat)) (0 : Int),
                sn := List.getD (l.getD ((0 : Nat) + i.toNat) []) ((0 : Nat) + (1 : Nat) + (1 : Nat)) (0 : Int),
                da :=
                  List.getD (l.getD ((0 : Nat) + i.toNat) []) ((0 : Nat) + (1 : Nat) + (1 : Nat) + (1 : Nat)) (0 : Int),
                dn :=
                  List.getD (l.getD ((0 : Nat) + i.toNat) [])
                    ((0 : Nat) + (1 : Nat) + (1 : Nat) + (1 : Nat) + (1 : Nat)) (0 : Int),
                sl :=
                  List.getD (l.getD ((0 : Nat) + i.toNat) [])
                    ((0 : Nat) + (1 : Nat) + (1 : Nat) + (1 : Nat) + (1 : Nat) + (1 : Nat)) (0 : Int),
                sh :=
                  List.getD (l.getD ((0 : Nat) + i.toNat) [])
                    ((0 : Nat) + (1 : Nat) + (1 : Nat) + (1 : Nat) + (1 : Nat) + (1 : Nat) + (1 : Nat)) (0 : Int),
                dl :=
                  List.getD (l.getD ((0 : Nat) + i.toNat) [])
                    ((0 : Nat) + (1 : Nat) + (1 : Nat) + (1 : Nat) + (1 : Nat) + (1 : Nat) + (1 : Nat) + (1 : Nat))
                    (0 : Int),
                dh :=
                  List.getD (l.getD ((0 : Nat) + i.toNat) [])
                    ((0 : Nat) + (1 : Nat) + (1 : Nat) + (1 : Nat) + (1 : Nat) + (1 : Nat) + (1 : Nat) + (1 : Nat) +
                      (1 : Nat))
                    (0 : Int),
                mv :=
                  List.getD (l.getD ((0 : Nat) + i.toNat) [])
                    ((0 : Nat) + (1 : Nat) + (1 : Nat) + (1 : Nat) + (1 : Nat) + (1 : Nat) + (1 : Nat) + (1 : Nat) +
                        (1 : Nat) +
                      (1 : Nat))
                    (0 : Int),
                mc :=
                  List.getD (l.getD ((0 : Nat) + i.toNat) [])
                    ((0 : Nat) + (1 : Nat) + (1 : Nat) + (1 : Nat) + (1 : Nat) + (1 : Nat) + (1 : Nat) + (1 : Nat) +
                          (1 : Nat) +
                        (1 : Nat) +
                      (1 : Nat))
                    (0 : Int),
                ac :=
                  List.getD (l.getD ((0 : Nat) + i.toNat) [])
                    ((0 : Nat) + (1 : Nat) + (1 : Nat) + (1 : Nat) + (1 : Nat) + (1 : Nat) + (1 : Nat) + (1 : Nat) +
                            (1 : Nat) +
                          (1 : Nat) +
                        (1 : Nat) +
                      (1 : Nat))
                    (0 : Int) } !=
            (0 : Int))
          (some
            (E.ret,
              finlo
                (SV.int IntKind.i64
                  (ce
                    { id := List.getD (l.getD ((0 : Nat) + i.toNat) []) (0 : Nat) (0 : Int),
                      sa := List.getD (l.getD ((0 : Nat) + i.toNat) []) ((0 : Nat) + (1 : Nat)) (0 : Int),
                      sn := List.getD (l.getD ((0 : Nat) + i.toNat) []) ((0 : Nat) + (1 : Nat) + (1 : Nat)) (0 : Int),
                      da :=
                        List.getD (l.getD ((0 : Nat) + i.toNat) []) ((0 : Nat) + (1 : Nat) + (1 : Nat) + (1 : Nat))
                          (0 : Int),
                      dn :=
                        List.getD (l.getD ((0 : Nat) + i.toNat) [])
                          ((0 : Nat) + (1 : Nat) + (1 : Nat) + (1 : Nat) + (1 : Nat)) (0 : Int),
                      sl :=
                        List.getD (l.getD ((0 : Nat) + i.toNat) [])
                          ((0 : Nat) + (1 : Nat) + (1 : Nat) + (1 : Nat) + (1 : Nat) + (1 : Nat)) (0 : Int),
                      sh :=
                        List.getD (l.getD ((0 : Nat) + i.toNat) [])
                          ((0 : Nat) + (1 : Nat) + (1 : Nat) + (1 : Nat) + (1 : Nat) + (1 : Nat) + (1 : Nat)) (0 : Int),
                      dl :=
                        List.getD (l.getD ((0 : Nat) + i.toNat) [])
                          ((0 : Nat) + (1 : Nat) + (1 : Nat) + (1 : Nat) + (1 : Nat) + (1 : Nat) + (1 : Nat) +
                            (1 : Nat))
                          (0 : Int),
                      dh :=
                        List.getD (l.getD ((0 : Nat) + i.toNat) [])
                          ((0 : Nat) + (1 : Nat) + (1 : Nat) + (1 : Nat) + (1 : Nat) + (1 : Nat) + (1 : Nat) +
                              (1 : Nat) +
                            (1 : Nat))
                          (0 : Int),
                      mv :=
                        List.getD (l.getD ((0 : Nat) + i.toNat) [])
                          ((0 : Nat) + (1 : Nat) + (1 : Nat) + (1 : Nat) + (1 : Nat) + (1 : Nat) + (1 : Nat) +
                                (1 : Nat) +
                              (1 : Nat) +
                            (1 : Nat))
                          (0 : Int),
                      mc :=
                        List.getD (l.getD ((0 : Nat) + i.toNat) [])
                          ((0 : Nat) + (1 : Nat) + (1 : Nat) + (1 : Nat) + (1 : Nat) + (1 : Nat) + (1 : Nat) +
                                  (1 : Nat) +
                                (1 : Nat) +
                              (1 : Nat) +
                            (1 : Nat))
                          (0 : Int),
                      ac :=
                        List.getD (l.getD ((0 : Nat) + i.toNat) [])
                          ((0 : Nat) + (1 : Nat) + (1 : Nat) + (1 : Nat) + (1 : Nat) + (1 : Nat) + (1 : Nat) +
                                    (1 : Nat) +
                                  (1 : Nat) +
                                (1 : Nat) +
                              (1 : Nat) +
                            (1 : Nat))
                          (0 : Int) }))))
          (sure (ok l n i (0 : Int))
            (sure (hs l i) (some (E.ret, finlo (SV.int IntKind.i64 (111 : Int))))
              (sure (i == (64 : Int)) (some (E.ret, finlo (SV.int IntKind.i64 (113 : Int))))
                (again (mklo l n (IntKind.i64.wrap (i + (1 : Int)))))))
            none))
        none)
      none)
    (some (E.brk (0 : Nat), finlo SV.poison)) := by kernel_rfl
theorem any_fd (id : Int) : ∀ (rs : List Row) (k : Nat), anyF id rs = decide (0 ≤ fdV id rs k)
  | [], k => by rfl
  | r :: rs, k => by
    unfold anyF fdV
    cases r.getD 0 0 == id with
    | true => exact (decide_eq_true (Int.natCast_nonneg _)).symm
    | false => exact any_fd id rs (k + 1)
def allOk (l : List Row) : Bool := l.all fun r => okR (rowR r)
def endlo (v : Int) : E × St := if v = 0 then (.brk 0, finlo .poison) else (.ret, finlo (.int .i64 v))
theorem run_lo : ∀ (rs pre : List Row), (pre ++ rs).length ≤ maxLen → allOk rs = true → pre.length ≤ 64 →
    loopN (stepP Try.prog (Glo okR ckE ckI) ents [] (fun _ _ => none) (lpC [([0, 1, 0, 1, 1, 0, 0, 1], annli okli hasI)]) 0 1 bodylo livelo outlo) (rs.length + 1) (mklo (pre ++ rs) (pre ++ rs).length (pre.length : Nat)) = some (endlo (chkB pre rs))
  | [], pre, _, _, _ => by
    rw [show ([] : List Row).length + 1 = 0 + 1 from rfl, loopN_succ, step_lo, decide_eq_false (by simp)]
    simp [sure, endlo, chkB]
  | x :: rs, pre, hlen, hok, h64 => by
    rw [show (x :: rs).length + 1 = (rs.length + 1) + 1 from rfl, loopN_succ, step_lo]
    have hm : maxLen = 9223372036854775807 := rfl
    have hok' : okR (rowR x) = true ∧ allOk rs = true := by
      unfold allOk at hok ⊢
      simpa using hok
    have hl2 : (pre ++ x :: rs).length = pre.length + rs.length + 1 := by simp; omega
    have hl : ((pre.length : Nat) : Int) < (((pre ++ x :: rs).length : Nat) : Int) := by omega
    have h1 : (0 : Int) ≤ ((pre.length : Nat) : Int) ∧ ((pre.length : Nat) : Int) < (((pre ++ x :: rs).length : Nat) : Int) := ⟨by omega, hl⟩
    have h3 : IntKind.wrap .i64 (((pre.length : Nat) : Int) + 1) = (((pre ++ [x]).length : Nat) : Int) := by rw [wrap_i64 (by omega) (by omega)]; simp
    have h5 : pre ++ x :: rs = (pre ++ [x]) ++ rs := by simp
    have hli : okli (pre ++ x :: rs) (pre ++ x :: rs).length (pre.length : Nat) 0 = true := by
      unfold okli
      rw [decide_eq_true h1]
      simp
    have hhs : hasI (pre ++ x :: rs) (pre.length : Nat) = anyF (x.getD 0 0) pre := by
      unfold hasI
      have e1 : (pre ++ x :: rs).getD ((pre.length : Nat) : Int).toNat [] = x := by simp [List.getD_eq_getElem?_getD]
      have e2 : (pre ++ x :: rs).take ((pre.length : Nat) : Int).toNat = pre := by simp
      rw [e1, e2]
    rw [mid7 pre x rs _ (Int.toNat_natCast _), h3, decide_eq_true hl, decide_eq_true h1, hli, hhs]
    show sure (okR (rowR x)) (sure (ckE (rowR x) != 0) (some (E.ret, finlo (.int .i64 (ckE (rowR x))))) (sure (anyF (x.getD 0 0) pre) (some (E.ret, finlo (.int .i64 111))) (sure (((pre.length : Nat) : Int) == 64) (some (E.ret, finlo (.int .i64 113))) _))) none = _
    rw [hok'.1, any_fd (x.getD 0 0) pre 0]
    unfold chkB tkV
    show sure (ckE (rowR x) != 0) _ (sure (decide (0 ≤ fdV (rowR x).id pre 0)) _ _) = _
    cases ht : (ckE (rowR x) != 0) with
    | true =>
      have hne : ¬ ckE (rowR x) = 0 := by simpa using ht
      simp only [sure, ht]
      unfold endlo
      rw [if_neg hne]
    | false =>
      simp only [sure]
      cases decide (0 ≤ fdV (rowR x).id pre 0) with
      | true => rfl
      | false =>
        have e : (((pre.length : Nat) : Int) == 64) = decide (64 ≤ pre.length) := by
          rw [Bool.eq_iff_iff]
          simp
          omega
        rw [e]
        by_cases hc : 64 ≤ pre.length
        · rw [decide_eq_true hc]; rfl
        · rw [decide_eq_false hc]
          have ih := run_lo rs (pre ++ [x]) (by rw [← h5]; exact hlen) hok'.2 (by simp; omega)
          rw [← h5] at ih
          exact ih
theorem at_li : codeAt bodylo [0, 1, 0, 1, 1, 0, 0, 1] = some (.loop bodyli) := by kernel_rfl
theorem lplo_ok : LpOK Try.prog bodylo (lpC [([0, 1, 0, 1, 1, 0, 0, 1], annli okli hasI)]) := lpC_ok _ (by
  intro x hx s hs c hc
  rw [List.mem_singleton] at hx
  subst hx
  cases hs
  have e : some (Code.loop bodyli) = some (Code.loop c) := at_li.symm.trans hc
  cases e
  exact loopli)
def oklo (l : List Row) (n : Nat) (i : Int) : Bool := i == 0 && (decide (n = l.length) && allOk l)
abbrev KLo := List Row → Nat → Int → Bool
def reslo (ok : KLo) (ch : List Row → Int) (x : Xlo) : GT (E × St) := .when (ok x.l x.n x.i) (.br (ch x.l == 0) (.leaf (.brk 0, finlo .poison)) (.leaf (.ret, finlo (.int .i64 (ch x.l)))))
theorem looplo : LoopOK Try.prog bodylo (fun st => (sumT 42 [0, 3] picklo (reslo oklo chkL) st).opt) := by
  refine loop_two (imp := []) (facts Glo_ok) 0 1 bodylo lplo_ok livelo outlo 42 [0, 3] picklo Xlo.st (fun x => oklo x.l x.n x.i) (fun x => chkL x.l == 0) _ _ picklo_ok ?_
  intro x h1 hlen
  simp only [oklo, Bool.and_eq_true, beq_iff_eq, decide_eq_true_eq] at h1
  obtain ⟨hi, hn, ha⟩ := h1
  have h5 := run_lo x.l [] (by simpa using hlen 0 false _ x.l none rfl) ha (by simp)
  refine ⟨x.l.length + 1, ?_⟩
  unfold Xlo.st
  rw [hi, hn]
  refine h5.trans ?_
  unfold endlo chkL
  by_cases h : chkB [] x.l = 0
  · rw [show chkB ([] : List Row) x.l = 0 from h]; rfl
  · have hb : (chkB [] x.l == 0) = false := by simpa using h
    rw [if_neg h, hb]; rfl
def annlo (ok : KLo) (ch : List Row → Int) : Ann := ⟨livelo, 0, some (sumT 42 [0, 3] picklo (reslo ok ch))⟩
noncomputable def T_rls (g : Rl → Bool) (ce ci : Rl → Int) (ok : KLo) (ch : List Row → Int) (l : List Row) : GT SV := GT.br (ok l l.length (0 : Int))
    (GT.br (ch l == (0 : Int)) (GT.leaf (SV.int IntKind.i64 (0 : Int))) (GT.leaf (SV.int IntKind.i64 (ch l)))) GT.stop
theorem e_rls (g : Rl → Bool) (ce ci : Rl → Int) (ok : KLo) (ch : List Row → Int) (l : List Row) : evFn Try.prog (Glo g ce ci) ents [] (lpL [(29, [0, 1, 0, 1], annlo ok ch)]) 1 29 [.rows RK l] = (T_rls g ce ci ok ch l).opt := by kernel_rfl
theorem S_rls : SummT Try.prog 29 (sgL fun l => .when (allOk l) (.leaf (.int .i64 (chkL l)))) := sgL.summ (evFn_summ (factsL Glo_ok _ (Pp.at_one (f0 := 29) (p0 := [0, 1, 0, 1]) (ann := annlo oklo chkL) (fun s h => by cases h; exact looplo))) 1 29) (fun l sv h => by
  obtain ⟨h1, h2⟩ := GT.opt_when h
  refine (e_rls okR ckE ckI oklo chkL l).trans (Eq.trans ?_ h2)
  unfold T_rls
  have hok : oklo l l.length 0 = true := by simp [oklo, h1]
  rw [hok]
  by_cases h0 : chkL l = 0
  · rw [h0]; rfl
  · have hb : (chkL l == 0) = false := by simpa using h0
    rw [hb]; rfl)
end Go.Sx.Mk


/- Clashes: Pairs of the program. -/
namespace Go.Sx.Mk
open Go.Proofs Go.RowKit
abbrev KP : List CK := [.i .i64, .i .i64, .i .i64, .b]
noncomputable def Gpr (bk : Rl → Rl → Int) (mb : Rl → Rl → Bool) (ch : List Row → Int) : FuncId → Option (List SV → GT SV)
  | 8 => some (sgRR fun a b => .leaf (.tup [.int .i64 (bk a b), .bool (mb a b)]))
  | 28 => some (sgL fun l => .leaf (.int .i64 (ch l)))
  | 999999 => some (fun _ => GT.stop)
  | _ => none
theorem Gpr_ok : ∀ g s, Gpr btK meB chkL g = some s → SummT Try.prog g s := fun g s h => by
  unfold Gpr at h
  split at h
  · cases h; exact S_btw
  · cases h; exact S_chk
  · cases h; exact merge_ok
  · cases h
noncomputable def bodypi : Code := bodyOf 12 [0, 1, 1, 0, 0, 1, 1, 0, 0, 1, 0, 1, 1, 1]
def livepi : List (Nat × Option (List CK)) := [(0, none), (5, some (KP)), (7, none), (6, none), (17, none), (18, none), (19, none), (27, none), (28, none), (29, none)]
def outpi : List (Nat × Option (List CK)) := [(0, none), (5, some (KP)), (17, none), (18, none), (19, none)]
def mkpi (l : List Row) (o : List Row) (n : Nat) (n2 : Nat) (lo : Nat) (len : Nat) (a0 : Int) (a1 : Int) (a2 : Int) (a3 : Int) (a4 : Int) (a5 : Int) (a6 : Int) (a7 : Int) (a8 : Int) (a9 : Int) (a10 : Int) (a11 : Int) (i : Int) (m2 : Int) (j : Int) (m : Int) (k : Int) : St := ⟨sel 59 [0, 5, 7, 6, 17, 18, 19, 27, 28, 29] [.vs 0 0 n, .vw 1, .ptr 2 0, .int .i64 i, .vs 0 0 n2, .int .i64 m2, .int .i64 j, .vs 0 lo len, .int .i64 m, .int .i64 k], [.vec false RK l none, .vec true KP o none, .cells [.int .i64 a0, .int .u32 a1, .int .i64 a2, .int .u32 a3, .int .i64 a4, .int .u16 a5, .int .u16 a6, .int .u16 a7, .int .u16 a8, .int .u8 a9, .int .u8 a10, .int .i64 a11]]⟩
def finpi (l : List Row) (o : List Row) (n : Nat) (n2 : Nat) (m2 : Int) (j : Int) : St := ⟨sel 59 [0, 5, 17, 18, 19] [.vs 0 0 n, .vw 1, .vs 0 0 n2, .int .i64 m2, .int .i64 j], [.vec false RK l none, .vec true KP o none]⟩
structure Xpi where
  l : List Row
  o : List Row
  n : Nat
  n2 : Nat
  lo : Nat
  len : Nat
  a0 : Int
  a1 : Int
  a2 : Int
  a3 : Int
  a4 : Int
  a5 : Int
  a6 : Int
  a7 : Int
  a8 : Int
  a9 : Int
  a10 : Int
  a11 : Int
  i : Int
  m2 : Int
  j : Int
  m : Int
  k : Int
def Xpi.st (x : Xpi) : St := mkpi x.l x.o x.n x.n2 x.lo x.len x.a0 x.a1 x.a2 x.a3 x.a4 x.a5 x.a6 x.a7 x.a8 x.a9 x.a10 x.a11 x.i x.m2 x.j x.m x.k
def pickpi : List SV → List Blk → Option Xpi
  | [.vs 0 0 n, .vw 1, .ptr 2 0, .int .i64 i, .vs 0 0 n2, .int .i64 m2, .int .i64 j, .vs 0 lo len, .int .i64 m, .int .i64 k], [.vec false [.i .i64, .i .u32, .i .i64, .i .u32, .i .i64, .i .u16, .i .u16, .i .u16, .i .u16, .i .u8, .i .u8, .i .i64] l none, .vec true [.i .i64, .i .i64, .i .i64, .b] o none, .cells [.int .i64 a0, .int .u32 a1, .int .i64 a2, .int .u32 a3, .int .i64 a4, .int .u16 a5, .int .u16 a6, .int .u16 a7, .int .u16 a8, .int .u8 a9, .int .u8 a10, .int .i64 a11]] => some ⟨l, o, n, n2, lo, len, a0, a1, a2, a3, a4, a5, a6, a7, a8, a9, a10, a11, i, m2, j, m, k⟩
  | _, _ => none
theorem pickpi_ok : ∀ vals mem x, pickpi vals mem = some x → x.st = ⟨sel 59 [0, 5, 7, 6, 17, 18, 19, 27, 28, 29] vals, mem⟩ := by
  intro vals mem x h
  unfold pickpi at h
  split at h
  · cases h; rfl
  · cases h
theorem step_pi (bk : Rl → Rl → Int) (mb : Rl → Rl → Bool) (ch : List Row → Int) (again : St → Option (E × St)) (l o : List Row) (n n2 lo len : Nat) (a0 a1 a2 a3 a4 a5 a6 a7 a8 a9 a10 a11 i m2 j m k : Int) : step Try.prog (Gpr bk mb ch) ents [] 1 bodypi livepi outpi again (mkpi l o n n2 lo len a0 a1 a2 a3 a4 a5 a6 a7 a8 a9 a10 a11 i m2 j m k) = sure (decide (k < m))
    (sure (decide ((0 : Int) ≤ k ∧ k < (↑len : Int)))
      (sure
        (mb
          { id := a0, sa := a1, sn := a2, da := a3, dn := a4, sl := a5, sh := a6, dl := a7, dh := a8, mv := a9,
            mc := a10, ac := a11 }
          { id := List.getD (l.getD (lo + k.toNat) []) (0 : Nat) (0 : Int),
            sa := List.getD (l.getD (lo + k.toNat) []) ((0 : Nat) + (1 : Nat)) (0 : Int),
            sn := List.getD (l.getD (lo + k.toNat) []) ((0 : Nat) + (1 : Nat) + (1 : Nat)) (0 : Int),
            da := List.getD (l.getD (lo + k.toNat) []) ((0 : Nat) + (1 : Nat) + (1 : Nat) + (1 : Nat)) (0 : Int),
            dn :=
              List.getD (l.getD (lo + k.toNat) []) ((0 : Nat) + (1 : Nat) + (1 : Nat) + (1 : Nat) + (1 : Nat))
                (0 : Int),
            sl :=
              List.getD (l.getD (lo + k.toNat) [])
                ((0 : Nat) + (1 : Nat) + (1 : Nat) + (1 : Nat) + (1 : Nat) + (1 : Nat)) (0 : Int),
            sh :=
              List.getD (l.getD (lo + k.toNat) [])
                ((0 : Nat) + (1 : Nat) + (1 : Nat) + (1 : Nat) + (1 : Nat) + (1 : Nat) + (1 : Nat)) (0 : Int),
            dl :=
              List.getD (l.getD (lo + k.toNat) [])
                ((0 : Nat) + (1 : Nat) + (1 : Nat) + (1 : Nat) + (1 : Nat) + (1 : Nat) + (1 : Nat) + (1 : Nat))
                (0 : Int),
            dh :=
              List.getD (l.getD (lo + k.toNat) [])
                ((0 : Nat) + (1 : Nat) + (1 : Nat) + (1 : Nat) + (1 : Nat) + (1 : Nat) + (1 : Nat) + (1 : Nat) +
                  (1 : Nat))
                (0 : Int),
            mv :=
              List.getD (l.getD (lo + k.toNat) [])
                ((0 : Nat) + (1 : Nat) + (1 : Nat) + (1 : Nat) + (1 : Nat) + (1 : Nat) + (1 : Nat) + (1 : Nat) +
                    (1 : Nat) +
                  (1 : Nat))
                (0 : Int),
            mc :=
              List.getD (l.getD (lo + k.toNat) [])
                ((0 : Nat) + (1 : Nat) + (1 : Nat) + (1 : Nat) + (1 : Nat) + (1 : Nat) + (1 : Nat) + (1 : Nat) +
                      (1 : Nat) +
                    (1 : Nat) +
                  (1 : Nat))
                (0 : Int),
            ac :=
              List.getD (l.getD (lo + k.toNat) [])
                ((0 : Nat) + (1 : Nat) + (1 : Nat) + (1 : Nat) + (1 : Nat) + (1 : Nat) + (1 : Nat) + (1 : Nat) +
                        (1 : Nat) +
                      (1 : Nat) +
                    (1 : Nat) +
                  (1 : Nat))
                (0 : Int) })
        (sure (decide (o.length + (1 : Nat) < (4000000000 : Nat)))
          (again
            (mkpi l
              (o ++
                [[i, IntKind.i64.wrap (IntKind.i64.wrap (i + (1 : Int)) + k),
                    bk
                      { id := a0, sa := a1, sn := a2, da := a3, dn := a4, sl := a5, sh := a6, dl := a7, dh := a8,
                        mv := a9, mc := a10, ac := a11 }
                      { id := List.getD (l.getD (lo + k.toNat) []) (0 : Nat) (0 : Int),
                        sa := List.getD (l.getD (lo + k.toNat) []) ((0 : Nat) + (1 : Nat)) (0 : Int),
                        sn := List.getD (l.getD (lo + k.toNat) []) ((0 : Nat) + (1 : Nat) + (1 : Nat)) (0 : Int),
                        da :=
                          List.getD (l.getD (lo + k.toNat) []) ((0 : Nat) + (1 : Nat) + (1 : Nat) + (1 : Nat))
                            (0 : Int),
                        dn :=
                          List.getD (l.getD (lo + k.toNat) [])
                            ((0 : Nat) + (1 : Nat) + (1 : Nat) + (1 : Nat) + (1 : Nat)) (0 : Int),
                        sl :=
                          List.getD (l.getD (lo + k.toNat) [])
                            ((0 : Nat) + (1 : Nat) + (1 : Nat) + (1 : Nat) + (1 : Nat) + (1 : Nat)) (0 : Int),
                        sh :=
                          List.getD (l.getD (lo + k.toNat) [])
                            ((0 : Nat) + (1 : Nat) + (1 : Nat) + (1 : Nat) + (1 : Nat) + (1 : Nat) + (1 : Nat))
                            (0 : Int),
                        dl :=
                          List.getD (l.getD (lo + k.toNat) [])
                            ((0 : Nat) + (1 : Nat) + (1 : Nat) + (1 : Nat) + (1 : Nat) + (1 : Nat) + (1 : Nat) +
                              (1 : Nat))
                            (0 : Int),
                        dh :=
                          List.getD (l.getD (lo + k.toNat) [])
                            ((0 : Nat) + (1 : Nat) + (1 : Nat) + (1 : Nat) + (1 : Nat) + (1 : Nat) + (1 : Nat) +
                                (1 : Nat) +
                              (1 : Nat))
                            (0 : Int),
                        mv :=
                          List.getD (l.getD (lo + k.toNat) [])
                            ((0 : Nat) + (1 : Nat) + (1 : Nat) + (1 : Nat) + (1 : Nat) + (1 : Nat) + (1 : Nat) +
                                  (1 : Nat) +
                                (1 : Nat) +
                              (1 : Nat))
                            (0 : Int),
                        mc :=
                          List.getD (l.getD (lo + k.toNat) [])
                            ((0 : Nat) + (1 : Nat) + (1 : Nat) + (1 : Nat) + (1 : Nat) + (1 : Nat) + (1 : Nat) +
                                    (1 : Nat) +
                                  (1 : Nat) +
                                (1 : Nat) +
                              (1 : Nat))
                            (0 : Int),
                        ac :=
                          List.getD (l.getD (lo + k.toNat) [])
                            ((0 : Nat) + (1 : Nat) + (1 : Nat) + (1 : Nat) + (1 : Nat) + (1 : Nat) + (1 : Nat) +
                                      (1 : Nat) +
                                    (1 : Nat) +
                                  (1 : Nat) +
                                (1 : Nat) +
                              (1 : Nat))
                            (0 : Int) },
                    bif
                        a11 !=
                          List.getD (l.getD (lo + k.toNat) [])
                            ((0 : Nat) + (1 : Nat) + (1 : Nat) + (1 : Nat) + (1 : Nat) + (1 : Nat) + (1 : Nat) +
                                      (1 : Nat) +
                                    (1 : Nat) +
                                  (1 : Nat) +
                                (1 : Nat) +
                              (1 : Nat))
                            (0 : Int) then
                      (1 : Int)
                    else (0 : Int)]])
              n n2 lo len a0 a1 a2 a3 a4 a5 a6 a7 a8 a9 a10 a11 i m2 j m (IntKind.i64.wrap (k + (1 : Int)))))
          none)
        (again
          (mkpi l o n n2 lo len a0 a1 a2 a3 a4 a5 a6 a7 a8 a9 a10 a11 i m2 j m (IntKind.i64.wrap (k + (1 : Int))))))
      none)
    (some (E.brk (2 : Nat), finpi l o n n2 m2 j)) := by kernel_rfl
def rl12 (a0 a1 a2 a3 a4 a5 a6 a7 a8 a9 a10 a11 : Int) : List Int := [a0, a1, a2, a3, a4, a5, a6, a7, a8, a9, a10, a11]
def row12 (r : Row) : List Int := rl12 (r.getD 0 0) (r.getD 1 0) (r.getD 2 0) (r.getD 3 0) (r.getD 4 0) (r.getD 5 0) (r.getD 6 0) (r.getD 7 0) (r.getD 8 0) (r.getD 9 0) (r.getD 10 0) (r.getD 11 0)
def prow (a x : Row) (i k : Int) : Row := [i, k, btK (rowR a) (rowR x), cond (a.getD 11 0 != x.getD 11 0) 1 0]
def prI (a : Row) (i : Nat) : List Row → Nat → List Row
  | [], _ => []
  | x :: rs, j => match meB (rowR a) (rowR x) with
    | true => prow a x (i : Int) (j : Int) :: prI a i rs (j + 1)
    | false => prI a i rs (j + 1)
theorem prI_len (a : Row) (i : Nat) : ∀ (rs : List Row) (j : Nat), (prI a i rs j).length ≤ rs.length
  | [], _ => Nat.le_refl _
  | x :: rs, j => by
    unfold prI
    have := prI_len a i rs (j + 1)
    cases meB (rowR a) (rowR x) with
    | true => simp; omega
    | false => simp; omega
def mkpi' (l o : List Row) (n n2 lo len : Nat) (a : Row) (i m2 j m k : Int) : St := mkpi l o n n2 lo len (a.getD 0 0) (a.getD 1 0) (a.getD 2 0) (a.getD 3 0) (a.getD 4 0) (a.getD 5 0) (a.getD 6 0) (a.getD 7 0) (a.getD 8 0) (a.getD 9 0) (a.getD 10 0) (a.getD 11 0) i m2 j m k
theorem run_pi (a : Row) (pre : List Row) (n n2 : Nat) (m2 j : Int) (hp : pre.length ≤ 1000) : ∀ (rs ps o : List Row), o.length + rs.length ≤ 1000000 → (ps ++ rs).length ≤ 1000 →
    loopN (step Try.prog (Gpr btK meB chkL) ents [] 1 bodypi livepi outpi) (rs.length + 1) (mkpi' (pre ++ a :: (ps ++ rs)) o n n2 (pre.length + 1) (ps ++ rs).length a (pre.length : Nat) m2 j ((ps ++ rs).length : Nat) (ps.length : Nat))
      = some (.brk 2, finpi (pre ++ a :: (ps ++ rs)) (o ++ prI a pre.length rs (pre.length + 1 + ps.length)) n n2 m2 j)
  | [], ps, o, _, _ => by
    unfold mkpi'
    rw [show ([] : List Row).length + 1 = 0 + 1 from rfl, loopN_succ, step_pi, decide_eq_false (by simp)]
    show some (E.brk 2, finpi _ o n n2 m2 j) = _
    unfold prI
    rw [List.append_nil o]
  | x :: rs, ps, o, ho, hps => by
    unfold mkpi'
    rw [show (x :: rs).length + 1 = (rs.length + 1) + 1 from rfl, loopN_succ, step_pi]
    simp only [List.length_cons] at ho
    have hl2 : (ps ++ x :: rs).length = ps.length + rs.length + 1 := by simp; omega
    have h0 : ((ps.length : Nat) : Int) < (((ps ++ x :: rs).length : Nat) : Int) := by omega
    have h1 : (0 : Int) ≤ ((ps.length : Nat) : Int) ∧ ((ps.length : Nat) : Int) < (((ps ++ x :: rs).length : Nat) : Int) := ⟨by omega, h0⟩
    have h3 : IntKind.wrap .i64 (((ps.length : Nat) : Int) + 1) = (((ps ++ [x]).length : Nat) : Int) := by rw [wrap_i64 (by omega) (by omega)]; simp
    have h4 : IntKind.wrap .i64 (IntKind.wrap .i64 (((pre.length : Nat) : Int) + 1) + ((ps.length : Nat) : Int)) = ((pre.length + 1 + ps.length : Nat) : Int) := by
      rw [wrap_i64 (n := ((pre.length : Nat) : Int) + 1) (by omega) (by omega), wrap_i64 (by omega) (by omega)]; omega
    have h5 : ps ++ x :: rs = (ps ++ [x]) ++ rs := by simp
    have g1 : (pre ++ a :: (ps ++ x :: rs)).getD (pre.length + 1 + ((ps.length : Nat) : Int).toNat) [] = x := by
      rw [show pre ++ a :: (ps ++ x :: rs) = (pre ++ a :: ps) ++ x :: rs by simp, Int.toNat_natCast]
      have : pre.length + 1 + ps.length = (pre ++ a :: ps).length := by simp; omega
      rw [this]
      simp [List.getD_eq_getElem?_getD]
    have hsm : decide (o.length + 1 < 4000000000) = true := decide_eq_true (by omega)
    rw [g1, h3, h4, decide_eq_true h0, decide_eq_true h1, hsm]
    show sure (meB (rowR a) (rowR x)) (_) (_) = _
    have e2 : pre.length + 1 + ps.length + 1 = pre.length + 1 + (ps ++ [x]).length := by simp; omega
    unfold prI
    cases meB (rowR a) (rowR x) with
    | true =>
      have ih := run_pi a pre n n2 m2 j hp rs (ps ++ [x]) (o ++ [prow a x (pre.length : Nat) ((pre.length + 1 + ps.length : Nat) : Int)]) (by simp; omega) (by rw [← h5]; exact hps)
      rw [← h5] at ih
      refine ih.trans ?_
      rw [← e2]
      simp
    | false =>
      have ih := run_pi a pre n n2 m2 j hp rs (ps ++ [x]) o (by omega) (by rw [← h5]; exact hps)
      rw [← h5] at ih
      refine ih.trans ?_
      rw [← e2]
def okpi (l o : List Row) (lo len : Nat) (ais : List Int) (i m k : Int) : Bool := k == 0 && (decide (0 ≤ i ∧ i < (l.length : Int) ∧ (lo : Int) = i + 1 ∧ (len : Int) = (l.length : Int) - (i + 1) ∧ m = (len : Int) ∧ l.length ≤ 1000 ∧ o.length ≤ 900000) && decide (ais = row12 (l.getD i.toNat [])))
def prL (l : List Row) (i : Nat) : List Row := prI (l.getD i []) i (l.drop (i + 1)) (i + 1)
abbrev KPi := List Row → List Row → Nat → Nat → List Int → Int → Int → Int → Bool
def respi (ok : KPi) (pr : List Row → Nat → List Row) (x : Xpi) : GT (E × St) := .when (ok x.l x.o x.lo x.len (rl12 x.a0 x.a1 x.a2 x.a3 x.a4 x.a5 x.a6 x.a7 x.a8 x.a9 x.a10 x.a11) x.i x.m x.k) (.leaf (.brk 2, finpi x.l (x.o ++ pr x.l x.i.toNat) x.n x.n2 x.m2 x.j))
theorem looppi : LoopOK Try.prog bodypi (fun st => (sumT 59 [0, 5, 7, 6, 17, 18, 19, 27, 28, 29] pickpi (respi okpi prL) st).opt) := by
  refine loop_one (imp := []) (facts Gpr_ok) 0 1 bodypi (lpOK_none _) livepi outpi 59 [0, 5, 7, 6, 17, 18, 19, 27, 28, 29] pickpi Xpi.st (fun x => okpi x.l x.o x.lo x.len (rl12 x.a0 x.a1 x.a2 x.a3 x.a4 x.a5 x.a6 x.a7 x.a8 x.a9 x.a10 x.a11) x.i x.m x.k) (fun x => (.brk 2, finpi x.l (x.o ++ prL x.l x.i.toNat) x.n x.n2 x.m2 x.j)) pickpi_ok ?_
  intro x h1 hlen
  obtain ⟨l, o, n, n2, lo, len, a0, a1, a2, a3, a4, a5, a6, a7, a8, a9, a10, a11, i, m2, j, m, k⟩ := x
  simp only [okpi, Bool.and_eq_true, beq_iff_eq, decide_eq_true_eq] at h1
  obtain ⟨hk, ⟨h0, hi, hlo, hle, hm, hll, hol⟩, has⟩ := h1
  obtain ⟨i, rfl⟩ := Int.eq_ofNat_of_zero_le h0
  rw [Int.toNat_natCast] at has
  have hil : i < l.length := by omega
  have hg : l.getD i [] = l[i] := by simp [List.getD_eq_getElem?_getD, hil]
  rw [hg] at has
  unfold rl12 row12 rl12 at has
  simp only [List.cons.injEq, and_true] at has
  obtain ⟨b0, b1, b2, b3, b4, b5, b6, b7, b8, b9, b10, b11⟩ := has
  have hsp : l = l.take i ++ l[i] :: l.drop (i + 1) := by simp
  have hti : (l.take i).length = i := by simp; omega
  have hdl : (l.drop (i + 1)).length = l.length - (i + 1) := by simp
  have h5 := run_pi l[i] (l.take i) n n2 m2 j (by omega) (l.drop (i + 1)) [] o (by omega) (by simp; omega)
  simp only [List.nil_append, List.length_nil, Nat.add_zero] at h5
  rw [← hsp, hti, hdl] at h5
  unfold mkpi' at h5
  rw [← b0, ← b1, ← b2, ← b3, ← b4, ← b5, ← b6, ← b7, ← b8, ← b9, ← b10, ← b11] at h5
  refine ⟨l.length - (i + 1) + 1, ?_⟩
  have e1 : lo = i + 1 := by omega
  have e2 : len = l.length - (i + 1) := by omega
  subst e1 e2 hm hk
  unfold Xpi.st
  refine h5.trans ?_
  unfold prL
  rw [Int.toNat_natCast, hg]
def annpi (ok : KPi) (pr : List Row → Nat → List Row) : Ann := ⟨livepi, 0, some (sumT 59 [0, 5, 7, 6, 17, 18, 19, 27, 28, 29] pickpi (respi ok pr))⟩
noncomputable def bodypo : Code := bodyOf 12 [0, 1, 0, 1, 1, 1]
def livepo : List (Nat × Option (List CK)) := [(0, none), (5, some (KP)), (17, none), (18, none), (19, none)]
def outpo : List (Nat × Option (List CK)) := [(5, some (KP))]
def mkpo (l : List Row) (o : List Row) (n : Nat) (n2 : Nat) (m2 : Int) (j : Int) : St := ⟨sel 59 [0, 5, 17, 18, 19] [.vs 0 0 n, .vw 1, .vs 0 0 n2, .int .i64 m2, .int .i64 j], [.vec false RK l none, .vec true KP o none]⟩
def finpo (o : List Row) : St := ⟨sel 59 [5] [.vw 0], [.vec true KP o none]⟩
structure Xpo where
  l : List Row
  o : List Row
  n : Nat
  n2 : Nat
  m2 : Int
  j : Int
def Xpo.st (x : Xpo) : St := mkpo x.l x.o x.n x.n2 x.m2 x.j
def pickpo : List SV → List Blk → Option Xpo
  | [.vs 0 0 n, .vw 1, .vs 0 0 n2, .int .i64 m2, .int .i64 j], [.vec false [.i .i64, .i .u32, .i .i64, .i .u32, .i .i64, .i .u16, .i .u16, .i .u16, .i .u16, .i .u8, .i .u8, .i .i64] l none, .vec true [.i .i64, .i .i64, .i .i64, .b] o none] => some ⟨l, o, n, n2, m2, j⟩
  | _, _ => none
theorem pickpo_ok : ∀ vals mem x, pickpo vals mem = some x → x.st = ⟨sel 59 [0, 5, 17, 18, 19] vals, mem⟩ := by
  intro vals mem x h
  unfold pickpo at h
  split at h
  · cases h; rfl
  · cases h
theorem step_po (bk : Rl → Rl → Int) (mb : Rl → Rl → Bool) (ch : List Row → Int) (ok : KPi) (pr : List Row → Nat → List Row) (again : St → Option (E × St)) (l o : List Row) (n n2 : Nat) (m2 j : Int) : stepP Try.prog (Gpr bk mb ch) ents [] (fun _ _ => none) (lpC [([0, 1, 1, 0, 0, 1, 1], annpi ok pr)]) 0 1 bodypo livepo outpo again (mkpo l o n n2 m2 j) = sure (decide (j < m2))
    (sure (decide ((0 : Int) ≤ j ∧ j < (↑n2 : Int)))
      (sure (decide ((0 : Int) ≤ IntKind.i64.wrap (j + (1 : Int)) ∧ IntKind.i64.wrap (j + (1 : Int)) ≤ (↑n : Int)))
        (sure
          (ok l o ((0 : Nat) + (IntKind.i64.wrap (j + (1 : Int))).toNat) (n - (IntKind.i64.wrap (j + (1 : Int))).toNat)
            [List.getD (l.getD ((0 : Nat) + j.toNat) []) (0 : Nat) (0 : Int),
              List.getD (l.getD ((0 : Nat) + j.toNat) []) ((0 : Nat) + (1 : Nat)) (0 : Int),
              List.getD (l.getD ((0 : Nat) + j.toNat) []) ((0 : Nat) + (1 : Nat) + (1 : Nat)) (0 : Int),
              List.getD (l.getD ((0 : Nat) + j.toNat) []) ((0 : Nat) + (1 : Nat) + (1 : Nat) + (1 : Nat)) (0 : Int),
              List.getD (l.getD ((0 : Nat) + j.toNat) []) ((0 : Nat) + (1 : Nat) + (1 : Nat) + (1 : Nat) + (1 : Nat))
                (0 : Int),
              List.getD (l.getD ((0 : Nat) + j.toNat) [])
                ((0 : Nat) + (1 : Nat) + (1 : Nat) + (1 : Nat) + (1 : Nat) + (1 : Nat)) (0 : Int),
              List.getD (l.getD ((0 : Nat) + j.toNat) [])
                ((0 : Nat) + (1 : Nat) + (1 : Nat) + (1 : Nat) + (1 : Nat) + (1 : Nat) + (1 : Nat)) (0 : Int),
              List.getD (l.getD ((0 : Nat) + j.toNat) [])
                ((0 : Nat) + (1 : Nat) + (1 : Nat) + (1 : Nat) + (1 : Nat) + (1 : Nat) + (1 : Nat) + (1 : Nat))
                (0 : Int),
              List.getD (l.getD ((0 : Nat) + j.toNat) [])
                ((0 : Nat) + (1 : Nat) + (1 : Nat) + (1 : Nat) + (1 : Nat) + (1 : Nat) + (1 : Nat) + (1 : Nat) +
                  (1 : Nat))
                (0 : Int),
              List.getD (l.getD ((0 : Nat) + j.toNat) [])
                ((0 : Nat) + (1 : Nat) + (1 : Nat) + (1 : Nat) + (1 : Nat) + (1 : Nat) + (1 : Nat) + (1 : Nat) +
                    (1 : Nat) +
                  (1 : Nat))
                (0 : Int),
              List.getD (l.getD ((0 : Nat) + j.toNat) [])
                ((0 : Nat) + (1 : Nat) + (1 : Nat) + (1 : Nat) + (1 : Nat) + (1 : Nat) + (1 : Nat) + (1 : Nat) +
                      (1 : Nat) +
                    (1 : Nat) +
                  (1 : Nat))
                (0 : Int),
              List.getD (l.getD ((0 : Nat) + j.toNat) [])
                ((0 : Nat) + (1 : Nat) + (1 : Nat) + (1 : Nat) + (1 : Nat) + (1 : Nat) + (1 : Nat) + (1 : Nat) +
                        (1 : Nat) +
                      (1 : Nat) +
                    (1 : Nat) +
                  (1 : Nat))
                (0 : Int)]
            j (↑(n - (IntKind.i64.wrap (j + (1 : Int))).toNat) : Int) (0 : Int))
          (again (mkpo l (o ++ pr l j.toNat) n n2 m2 (IntKind.i64.wrap (j + (1 : Int))))) none)
        none)
      none)
    (some (E.brk (0 : Nat), finpo o)) := by kernel_rfl
def prF (l : List Row) : Nat → Nat → List Row
  | 0, _ => []
  | c + 1, i => prL l i ++ prF l c (i + 1)
theorem prL_len (l : List Row) (i : Nat) : (prL l i).length ≤ l.length := by
  unfold prL
  have := prI_len (l.getD i []) i (l.drop (i + 1)) (i + 1)
  rw [List.length_drop] at this
  omega
theorem run_po (l : List Row) (hl : l.length ≤ 64) : ∀ (c i : Nat) (o : List Row), i + c = l.length → o.length ≤ i * 64 →
    loopN (stepP Try.prog (Gpr btK meB chkL) ents [] (fun _ _ => none) (lpC [([0, 1, 1, 0, 0, 1, 1], annpi okpi prL)]) 0 1 bodypo livepo outpo) (c + 1) (mkpo l o l.length l.length (l.length : Nat) (i : Nat)) = some (.brk 0, finpo (o ++ prF l c i))
  | 0, i, o, hc, _ => by
    rw [loopN_succ, step_po, decide_eq_false (by omega)]
    show some (E.brk 0, finpo o) = _
    unfold prF
    rw [List.append_nil]
  | c + 1, i, o, hc, ho => by
    rw [loopN_succ, step_po]
    have h3 : IntKind.wrap .i64 ((i : Int) + 1) = ((i + 1 : Nat) : Int) := by rw [wrap_i64 (by omega) (by omega)]; omega
    have h0 : (i : Int) < (l.length : Int) := by omega
    have h1 : (0 : Int) ≤ (i : Int) ∧ (i : Int) < (l.length : Int) := ⟨by omega, h0⟩
    have h2 : (0 : Int) ≤ ((i + 1 : Nat) : Int) ∧ ((i + 1 : Nat) : Int) ≤ (l.length : Int) := ⟨by omega, by omega⟩
    have hok : okpi l o (0 + (i + 1)) (l.length - (i + 1)) (row12 (l.getD (0 + i) [])) (i : Int) ((l.length - (i + 1) : Nat) : Int) 0 = true := by
      unfold okpi
      rw [Nat.zero_add, Nat.zero_add, Int.toNat_natCast]
      simp only [Bool.and_eq_true, beq_iff_eq, decide_eq_true_eq, and_true, true_and]
      omega
    rw [h3, decide_eq_true h0, decide_eq_true h1, decide_eq_true h2]
    simp only [Int.toNat_natCast]
    show sure (okpi l o (0 + (i + 1)) (l.length - (i + 1)) (row12 (l.getD (0 + i) [])) (i : Int) ((l.length - (i + 1) : Nat) : Int) 0) _ _ = _
    rw [hok]
    have hp := prL_len l i
    refine (run_po l hl c (i + 1) (o ++ prL l i) (by omega) (by simp; omega)).trans ?_
    rw [List.append_assoc]
    rfl
theorem at_pi : codeAt bodypo [0, 1, 1, 0, 0, 1, 1] = some (.loop bodypi) := by kernel_rfl
theorem lppo_ok : LpOK Try.prog bodypo (lpC [([0, 1, 1, 0, 0, 1, 1], annpi okpi prL)]) := lpC_ok _ (by
  intro x hx s hs c hc
  rw [List.mem_singleton] at hx
  subst hx
  cases hs
  have e : some (Code.loop bodypi) = some (Code.loop c) := at_pi.symm.trans hc
  cases e
  exact looppi)
def okpo (l o : List Row) (n n2 : Nat) (m2 j : Int) : Bool := j == 0 && decide (n = l.length ∧ n2 = l.length ∧ m2 = (l.length : Int) ∧ l.length ≤ 64 ∧ o = [])
def pairsL (l : List Row) : List Row := prF l l.length 0
abbrev KPo := List Row → List Row → Nat → Nat → Int → Int → Bool
def respo (ok : KPo) (pr : List Row → List Row) (x : Xpo) : GT (E × St) := .when (ok x.l x.o x.n x.n2 x.m2 x.j) (.leaf (.brk 0, finpo (pr x.l)))
theorem looppo : LoopOK Try.prog bodypo (fun st => (sumT 59 [0, 5, 17, 18, 19] pickpo (respo okpo pairsL) st).opt) := by
  refine loop_one (imp := []) (facts Gpr_ok) 0 1 bodypo lppo_ok livepo outpo 59 [0, 5, 17, 18, 19] pickpo Xpo.st (fun x => okpo x.l x.o x.n x.n2 x.m2 x.j) (fun x => (.brk 0, finpo (pairsL x.l))) pickpo_ok ?_
  intro x h1 hlen
  obtain ⟨l, o, n, n2, m2, j⟩ := x
  simp only [okpo, Bool.and_eq_true, beq_iff_eq, decide_eq_true_eq] at h1
  obtain ⟨hj, hn, hn2, hm, hl, ho⟩ := h1
  subst hj hn hn2 hm ho
  exact ⟨l.length + 1, run_po l hl l.length 0 [] (by omega) (by simp)⟩
def annpo (ok : KPo) (pr : List Row → List Row) : Ann := ⟨livepo, 0, some (sumT 59 [0, 5, 17, 18, 19] pickpo (respo ok pr))⟩
noncomputable def T_prs (bk : Rl → Rl → Int) (mb : Rl → Rl → Bool) (ch : List Row → Int) (ok : KPo) (pr : List Row → List Row) (l : List Row) : GT SV := GT.br (ch (List.take l.length (List.drop (0 : Nat) l)) != (0 : Int))
    (GT.leaf
      (SV.tup
        [SV.rows [CK.i IntKind.i64, CK.i IntKind.i64, CK.i IntKind.i64, CK.b] [],
          SV.int IntKind.i64 (ch (List.take l.length (List.drop (0 : Nat) l)))]))
    (GT.br (ok l [] l.length l.length (↑l.length : Int) (0 : Int))
      (GT.leaf
        (SV.tup
          [SV.rows [CK.i IntKind.i64, CK.i IntKind.i64, CK.i IntKind.i64, CK.b] (pr l), SV.int IntKind.i64 (0 : Int)]))
      GT.stop)
theorem e_prs (bk : Rl → Rl → Int) (mb : Rl → Rl → Bool) (ch : List Row → Int) (ok : KPo) (pr : List Row → List Row) (l : List Row) : evFn Try.prog (Gpr bk mb ch) ents [] (lpL [(12, [0, 1, 0, 1, 1, 1], annpo ok pr)]) 1 12 [.rows RK l] = (T_prs bk mb ch ok pr l).opt := by kernel_rfl
def prsV (l : List Row) : List Row := sure (chkL l != 0) [] (pairsL l)
theorem S_prs : SummT Try.prog 12 (sgL fun l => .leaf (.tup [.rows KP (prsV l), .int .i64 (chkL l)])) := sgL.summ (evFn_summ (factsL Gpr_ok _ (Pp.at_one (f0 := 12) (p0 := [0, 1, 0, 1, 1, 1]) (ann := annpo okpo pairsL) (fun s h => by cases h; exact looppo))) 1 12) (fun l sv h => by
  refine (e_prs btK meB chkL okpo pairsL l).trans (Eq.trans ?_ h)
  unfold T_prs prsV
  have e : List.take l.length (List.drop 0 l) = l := by simp
  rw [e]
  by_cases h0 : chkL l = 0
  · have hl := chkL_len h0
    have hok : okpo l [] l.length l.length (l.length : Int) 0 = true := by simp [okpo, hl]
    rw [hok, h0]
    rfl
  · have hb : (chkL l != 0) = true := by simpa using h0
    rw [hb]; rfl)
end Go.Sx.Mk


/- Clashes: Pairs of the reference. -/
namespace Go.Sx.Mk
open Go.Proofs Go.RowKit
noncomputable def Gpq (g2 : Rl → Rl → Bool) (ga : List Row → Bool) (bk : Rl → Rl → Int) (mb : Rl → Rl → Bool) (ch : List Row → Int) : FuncId → Option (List SV → GT SV)
  | 9 => some (sgRR fun a b => .when (g2 a b) (.leaf (.tup [.int .i64 (bk a b), .bool (mb a b)])))
  | 29 => some (sgL fun l => .when (ga l) (.leaf (.int .i64 (ch l))))
  | 999999 => some (fun _ => GT.stop)
  | _ => none
theorem Gpq_ok : ∀ g s, Gpq okP2 allOk btK meB chkL g = some s → SummT Try.prog g s := fun g s h => by
  unfold Gpq at h
  split at h
  · cases h; exact S_rbt
  · cases h; exact S_rls
  · cases h; exact merge_ok
  · cases h
noncomputable def bodyqi : Code := bodyOf 13 [0, 1, 0, 0, 1, 0, 0, 1, 0, 1, 1, 1, 1]
def liveqi : List (Nat × Option (List CK)) := [(0, none), (5, some (KP)), (6, none), (7, none)]
def outqi : List (Nat × Option (List CK)) := [(0, none), (5, some (KP)), (6, none)]
def mkqi (l : List Row) (o : List Row) (n : Nat) (i : Int) (k : Int) : St := ⟨sel 61 [0, 5, 6, 7] [.vs 0 0 n, .vw 1, .int .i64 i, .int .i64 k], [.vec false RK l none, .vec true KP o none]⟩
def finqi (l : List Row) (o : List Row) (n : Nat) (i : Int) : St := ⟨sel 61 [0, 5, 6] [.vs 0 0 n, .vw 1, .int .i64 i], [.vec false RK l none, .vec true KP o none]⟩
structure Xqi where
  l : List Row
  o : List Row
  n : Nat
  i : Int
  k : Int
def Xqi.st (x : Xqi) : St := mkqi x.l x.o x.n x.i x.k
def pickqi : List SV → List Blk → Option Xqi
  | [.vs 0 0 n, .vw 1, .int .i64 i, .int .i64 k], [.vec false [.i .i64, .i .u32, .i .i64, .i .u32, .i .i64, .i .u16, .i .u16, .i .u16, .i .u16, .i .u8, .i .u8, .i .i64] l none, .vec true [.i .i64, .i .i64, .i .i64, .b] o none] => some ⟨l, o, n, i, k⟩
  | _, _ => none
theorem pickqi_ok : ∀ vals mem x, pickqi vals mem = some x → x.st = ⟨sel 61 [0, 5, 6, 7] vals, mem⟩ := by
  intro vals mem x h
  unfold pickqi at h
  split at h
  · cases h; rfl
  · cases h
theorem step_qi (g2 : Rl → Rl → Bool) (ga : List Row → Bool) (bk : Rl → Rl → Int) (mb : Rl → Rl → Bool) (ch : List Row → Int) (again : St → Option (E × St)) (l o : List Row) (n : Nat) (i k : Int) : step Try.prog (Gpq g2 ga bk mb ch) ents [] 1 bodyqi liveqi outqi again (mkqi l o n i k) = sure (decide (k < (↑n : Int)))
    (sure (decide ((0 : Int) ≤ i ∧ i < (↑n : Int)))
      (sure (decide ((0 : Int) ≤ k ∧ k < (↑n : Int)))
        (sure
          (g2
            { id := List.getD (l.getD ((0 : Nat) + i.toNat) []) (0 : Nat) (0 : Int),
              sa := List.getD (l.getD ((0 : Nat) + i.toNat) []) ((0 : Nat) + (1 : Nat)) (0 : Int),
              sn := List.getD (l.getD ((0 : Nat) + i.toNat) []) ((0 : Nat) + (1 : Nat) + (1 : Nat)) (0 : Int),
              da :=
                List.getD (l.getD ((0 : Nat) + i.toNat) []) ((0 : Nat) + (1 : Nat) + (1 : Nat) + (1 : Nat)) (0 : Int),
              dn :=
                List.getD (l.getD ((0 : Nat) + i.toNat) []) ((0 : Nat) + (1 : Nat) + (1 : Nat) + (1 : Nat) + (1 : Nat))
                  (0 : Int),
              sl :=
                List.getD (l.getD ((0 : Nat) + i.toNat) [])
                  ((0 : Nat) + (1 : Nat) + (1 : Nat) + (1 : Nat) + (1 : Nat) + (1 : Nat)) (0 : Int),
              sh :=
                List.getD (l.getD ((0 : Nat) + i.toNat) [])
                  ((0 : Nat) + (1 : Nat) + (1 : Nat) + (1 : Nat) + (1 : Nat) + (1 : Nat) + (1 : Nat)) (0 : Int),
              dl :=
                List.getD (l.getD ((0 : Nat) + i.toNat) [])
                  ((0 : Nat) + (1 : Nat) + (1 : Nat) + (1 : Nat) + (1 : Nat) + (1 : Nat) + (1 : Nat) + (1 : Nat))
                  (0 : Int),
              dh :=
                List.getD (l.getD ((0 : Nat) + i.toNat) [])
                  ((0 : Nat) + (1 : Nat) + (1 : Nat) + (1 : Nat) + (1 : Nat) + (1 : Nat) + (1 : Nat) + (1 : Nat) +
                    (1 : Nat))
                  (0 : Int),
              mv :=
                List.getD (l.getD ((0 : Nat) + i.toNat) [])
                  ((0 : Nat) + (1 : Nat) + (1 : Nat) + (1 : Nat) + (1 : Nat) + (1 : Nat) + (1 : Nat) + (1 : Nat) +
                      (1 : Nat) +
                    (1 : Nat))
                  (0 : Int),
              mc :=
                List.getD (l.getD ((0 : Nat) + i.toNat) [])
                  ((0 : Nat) + (1 : Nat) + (1 : Nat) + (1 : Nat) + (1 : Nat) + (1 : Nat) + (1 : Nat) + (1 : Nat) +
                        (1 : Nat) +
                      (1 : Nat) +
                    (1 : Nat))
                  (0 : Int),
              ac :=
                List.getD (l.getD ((0 : Nat) + i.toNat) [])
                  ((0 : Nat) + (1 : Nat) + (1 : Nat) + (1 : Nat) + (1 : Nat) + (1 : Nat) + (1 : Nat) + (1 : Nat) +
                          (1 : Nat) +
                        (1 : Nat) +
                      (1 : Nat) +
                    (1 : Nat))
                  (0 : Int) }
            { id := List.getD (l.getD ((0 : Nat) + k.toNat) []) (0 : Nat) (0 : Int),
              sa := List.getD (l.getD ((0 : Nat) + k.toNat) []) ((0 : Nat) + (1 : Nat)) (0 : Int),
              sn := List.getD (l.getD ((0 : Nat) + k.toNat) []) ((0 : Nat) + (1 : Nat) + (1 : Nat)) (0 : Int),
              da :=
                List.getD (l.getD ((0 : Nat) + k.toNat) []) ((0 : Nat) + (1 : Nat) + (1 : Nat) + (1 : Nat)) (0 : Int),
              dn :=
                List.getD (l.getD ((0 : Nat) + k.toNat) []) ((0 : Nat) + (1 : Nat) + (1 : Nat) + (1 : Nat) + (1 : Nat))
                  (0 : Int),
              sl :=
                List.getD (l.getD ((0 : Nat) + k.toNat) [])
                  ((0 : Nat) + (1 : Nat) + (1 : Nat) + (1 : Nat) + (1 : Nat) + (1 : Nat)) (0 : Int),
              sh :=
                List.getD (l.getD ((0 : Nat) + k.toNat) [])
                  ((0 : Nat) + (1 : Nat) + (1 : Nat) + (1 : Nat) + (1 : Nat) + (1 : Nat) + (1 : Nat)) (0 : Int),
              dl :=
                List.getD (l.getD ((0 : Nat) + k.toNat) [])
                  ((0 : Nat) + (1 : Nat) + (1 : Nat) + (1 : Nat) + (1 : Nat) + (1 : Nat) + (1 : Nat) + (1 : Nat))
                  (0 : Int),
              dh :=
                List.getD (l.getD ((0 : Nat) + k.toNat) [])
                  ((0 : Nat) + (1 : Nat) + (1 : Nat) + (1 : Nat) + (1 : Nat) + (1 : Nat) + (1 : Nat) + (1 : Nat) +
                    (1 : Nat))
                  (0 : Int),
              mv :=
                List.getD (l.getD ((0 : Nat) + k.toNat) [])
                  ((0 : Nat) + (1 : Nat) + (1 : Nat) + (1 : Nat) + (1 : Nat) + (1 : Nat) + (1 : Nat) + (1 : Nat) +
                      (1 : Nat) +
                    (1 : Nat))
                  (0 : Int),
              mc :=
                List.getD (l.getD ((0 : Nat) + k.toNat) [])
                  ((0 : Nat) + (1 : Nat) + (1 : Nat) + (1 : Nat) + (1 : Nat) + (1 : Nat) + (1 : Nat) + (1 : Nat) +
                        (1 : Nat) +
                      (1 : Nat) +
                    (1 : Nat))
                  (0 : Int),
              ac :=
                List.getD (l.getD ((0 : Nat) + k.toNat) [])
                  ((0 : Nat) + (1 : Nat) + (1 : Nat) + (1 : Nat) + (1 : Nat) + (1 : Nat) + (1 : Nat) + (1 : Nat) +
                          (1 : Nat) +
                        (1 : Nat) +
                      (1 : Nat) +
                    (1 : Nat))
                  (0 : Int) })
          (sure
            (mb
              { id := List.getD (l.getD ((0 : Nat) + i.toNat) []) (0 : Nat) (0 : Int),
                sa := List.getD (l.getD ((0 : Nat) + i.toNat) []) ((0 : Nat) + (1 : Nat)) (0 : Int),
                sn := List.getD (l.getD ((0 : Nat) + i.toNat) []) ((0 : Nat) + (1 : Nat) + (1 : Nat)) (0 : Int),
                da :=
                  List.getD (l.getD ((0 : Nat) + i.toNat) []) ((0 : Nat) + (1 : Nat) + (1 : Nat) + (1 : Nat)) (0 : Int),
                dn :=
                  List.getD (l.getD ((0 : Nat) + i.toNat) [])
                    ((0 : Nat) + (1 : Nat) + (1 : Nat) + (1 : Nat) + (1 : Nat)) (0 : Int),
                sl :=
                  List.getD (l.getD ((0 : Nat) + i.toNat) [])
                    ((0 : Nat) + (1 : Nat) + (1 : Nat) + (1 : Nat) + (1 : Nat) + (1 : Nat)) (0 : Int),
                sh :=
                  List.getD (l.getD ((0 : Nat) + i.toNat) [])
                    ((0 : Nat) + (1 : Nat) + (1 : Nat) + (1 : Nat) + (1 : Nat) + (1 : Nat) + (1 : Nat)) (0 : Int),
                dl :=
                  List.getD (l.getD ((0 : Nat) + i.toNat) [])
                    ((0 : Nat) + (1 : Nat) + (1 : Nat) + (1 : Nat) + (1 : Nat) + (1 : Nat) + (1 : Nat) + (1 : Nat))
                    (0 : Int),
                dh :=
                  List.getD (l.getD ((0 : Nat) + i.toNat) [])
                    ((0 : Nat) + (1 : Nat) + (1 : Nat) + (1 : Nat) + (1 : Nat) + (1 : Nat) + (1 : Nat) + (1 : Nat) +
                      (1 : Nat))
                    (0 : Int),
                mv :=
                  List.getD (l.getD ((0 : Nat) + i.toNat) [])
                    ((0 : Nat) + (1 : Nat) + (1 : Nat) + (1 : Nat) + (1 : Nat) + (1 : Nat) + (1 : Nat) + (1 : Nat) +
                        (1 : Nat) +
                      (1 : Nat))
                    (0 : Int),
                mc :=
                  List.getD (l.getD ((0 : Nat) + i.toNat) [])
                    ((0 : Nat) + (1 : Nat) + (1 : Nat) + (1 : Nat) + (1 : Nat) + (1 : Nat) + (1 : Nat) + (1 : Nat) +
                          (1 : Nat) +
                        (1 : Nat) +
                      (1 : Nat))
                    (0 : Int),
                ac :=
                  List.getD (l.getD ((0 : Nat) + i.toNat) [])
                    ((0 : Nat) + (1 : Nat) + (1 : Nat) + (1 : Nat) + (1 : Nat) + (1 : Nat) + (1 : Nat) + (1 : Nat) +
                            (1 : Nat) +
                          (1 : Nat) +
                        (1 : Nat) +
                      (1 : Nat))
                    (0 : Int) }
              { id := List.getD (l.getD ((0 : Nat) + k.toNat) []) (0 : Nat) (0 : Int),
                sa := List.getD (l.getD ((0 : Nat) + k.toNat) []) ((0 : Nat) + (1 : Nat)) (0 : Int),
                sn := List.getD (l.getD ((0 : Nat) + k.toNat) []) ((0 : Nat) + (1 : Nat) + (1 : Nat)) (0 : Int),
                da :=
                  List.getD (l.getD ((0 : Nat) + k.toNat) []) ((0 : Nat) + (1 : Nat) + (1 : Nat) + (1 : Nat)) (0 : Int),
                dn :=
                  List.getD (l.getD ((0 : Nat) + k.toNat) [])
                    ((0 : Nat) + (1 : Nat) + (1 : Nat) + (1 : Nat) + (1 : Nat)) (0 : Int),
                sl :=
                  List.getD (l.getD ((0 : Nat) + k.toNat) [])
                    ((0 : Nat) + (1 : Nat) + (1 : Nat) + (1 : Nat) + (1 : Nat) + (1 : Nat)) (0 : Int),
                sh :=
                  List.getD (l.getD ((0 : Nat) + k.toNat) [])
                    ((0 : Nat) + (1 : Nat) + (1 : Nat) + (1 : Nat) + (1 : Nat) + (1 : Nat) + (1 : Nat)) (0 : Int),
                dl :=
                  List.getD (l.getD ((0 : Nat) + k.toNat) [])
                    ((0 : Nat) + (1 : Nat) + (1 : Nat) + (1 : Nat) + (1 : Nat) + (1 : Nat) + (1 : Nat) + (1 : Nat))
                    (0 : Int),
                dh :=
                  List.getD (l.getD ((0 : Nat) + k.toNat) [])
                    ((0 : Nat) + (1 : Nat) + (1 : Nat) + (1 : Nat) + (1 : Nat) + (1 : Nat) + (1 : Nat) + (1 : Nat) +
                      (1 : Nat))
                    (0 : Int),
                mv :=
                  List.getD (l.getD ((0 : Nat) + k.toNat) [])
                    ((0 : Nat) + (1 : Nat) + (1 : Nat) + (1 : Nat) + (1 : Nat) + (1 : Nat) + (1 : Nat) + (1 : Nat) +
                        (1 : Nat) +
                      (1 : Nat))
                    (0 : Int),
                mc :=
                  List.getD (l.getD ((0 : Nat) + k.toNat) [])
                    ((0 : Nat) + (1 : Nat) + (1 : Nat) + (1 : Nat) + (1 : Nat) + (1 : Nat) + (1 : Nat) + (1 : Nat) +
                          (1 : Nat) +
                        (1 : Nat) +
                      (1 : Nat))
                    (0 : Int),
                ac :=
                  List.getD (l.getD ((0 : Nat) + k.toNat) [])
                    ((0 : Nat) + (1 : Nat) + (1 : Nat) + (1 : Nat) + (1 : Nat) + (1 : Nat) + (1 : Nat) + (1 : Nat) +
                            (1 : Nat) +
                          (1 : Nat) +
                        (1 : Nat) +
                      (1 : Nat))
                    (0 : Int) })
            (sure (decide ((0 : Int) ≤ i ∧ i < (↑n : Int)))
              (sure (decide ((0 : Int) ≤ k ∧ k < (↑n : Int)))
                (sure
                  (List.getD (l.getD ((0 : Nat) + i.toNat) []) ((0 : Nat) + (11 : Nat)) (0 : Int) !=
                    List.getD (l.getD ((0 : Nat) + k.toNat) []) ((0 : Nat) + (11 : Nat)) (0 : Int))
                  (sure (decide (o.length + (1 : Nat) < (4000000000 : Nat)))
                    (again
                      (mkqi l
                        (o ++
                          [[i, k,
                              bk
                                { id := List.getD (l.getD ((0 : Nat) + i.toNat) []) (0 : Nat) (0 : Int),
                                  sa := List.getD (l.getD ((0 : Nat) + i.toNat) []) ((0 : Nat) + (1 : Nat)) (0 : Int),
                                  sn :=
                                    List.getD (l.getD ((0 : Nat) + i.toNat) []) ((0 : Nat) + (1 : Nat) + (1 : Nat))
                                      (0 : Int),
                                  da :=
                                    List.getD (l.getD ((0 : Nat) + i.toNat) [])
                                      ((0 : Nat) + (1 : Nat) + (1 : Nat) + (1 : Nat)) (0 : Int),
                                  dn :=
                                    List.getD (l.getD ((0 : Nat) + i.toNat) [])
                                      ((0 : Nat) + (1 : Nat) + (1 : Nat) + (1 : Nat) + (1 : Nat)) (0 : Int),
                                  sl :=
                                    List.getD (l.getD ((0 : Nat) + i.toNat) [])
                                      ((0 : Nat) + (1 : Nat) + (1 : Nat) + (1 : Nat) + (1 : Nat) + (1 : Nat)) (0 : Int),
                                  sh :=
                                    List.getD (l.getD ((0 : Nat) + i.toNat) [])
                                      ((0 : Nat) + (1 : Nat) + (1 : Nat) + (1 : Nat) + (1 : Nat) + (1 : Nat) +
                                        (1 : Nat))
                                      (0 : Int),
                                  dl :=
                                    List.getD (l.getD ((0 : Nat) + i.toNat) [])
                                      ((0 : Nat) + (1 : Nat) + (1 : Nat) + (1 : Nat) + (1 : Nat) + (1 : Nat) +
                                          (1 : Nat) +
                                        (1 : Nat))
                                      (0 : Int),
                                  dh :=
                                    List.getD (l.getD ((0 : Nat) + i.toNat) [])
                                      ((0 : Nat) + (1 : Nat) + (1 : Nat) + (1 : Nat) + (1 : Nat) + (1 : Nat) +
                                            (1 : Nat) +
                                          (1 : Nat) +
                                        (1 : Nat))
                                      (0 : Int),
                                  mv :=
                                    List.getD (l.getD ((0 : Nat) + i.toNat) [])
                                      ((0 : Nat) + (1 : Nat) + (1 : Nat) + (1 : Nat) + (1 : Nat) + (1 : Nat) +
                                              (1 : Nat) +
                                            (1 : Nat) +
                                          (1 : Nat) +
                                        (1 : Nat))
                                      (0 : Int),
                                  mc :=
                                    List.getD (l.getD ((0 : Nat) + i.toNat) [])
                                      ((0 : Nat) + (1 : Nat) + (1 : Nat) + (1 : Nat) + (1 : Nat) + (1 : Nat) +
                                                (1 : Nat) +
                                              (1 : Nat) +
                                            (1 : Nat) +
                                          (1 : Nat) +
                                        (1 : Nat))
                                      (0 : Int),
                                  ac :=
                                    List.getD (l.getD ((0 : Nat) + i.toNat) [])
                                      ((0 : Nat) + (1 : Nat) + (1 : Nat) + (1 : Nat) + (1 : Nat) + (1 : Nat) +
                                                  (1 : Nat) +
                                                (1 : Nat) +
                                              (1 : Nat) +
                                            (1 : Nat) +
                                          (1 : Nat) +
                                        (1 : Nat))
                                      (0 : Int) }
                                { id := List.getD (l.getD ((0 : Nat) + k.toNat) []) (0 : Nat) (0 : Int),
                                  sa := List.getD (l.getD ((0 : Nat) + k.toNat) []) ((0 : Nat) + (1 : Nat)) (0 : Int),
                                  sn :=
                                    List.getD (l.getD ((0 : Nat) + k.toNat) []) ((0 : Nat) + (1 : Nat) + (1 : Nat))
                                      (0 : Int),
                                  da :=
                                    List.getD (l.getD ((0 : Nat) + k.toNat) [])
                                      ((0 : Nat) + (1 : Nat) + (1 : Nat) + (1 : Nat)) (0 : Int),
                                  dn :=
                                    List.getD (l.getD ((0 : Nat) + k.toNat) [])
                                      ((0 : Nat) + (1 : Nat) + (1 : Nat) + (1 : Nat) + (1 : Nat)) (0 : Int),
                                  sl :=
                                    List.getD (l.getD ((0 : Nat) + k.toNat) [])
                                      ((0 : Nat) + (1 : Nat) + (1 : Nat) + (1 : Nat) + (1 : Nat) + (1 : Nat)) (0 : Int),
                                  sh :=
                                    List.getD (l.getD ((0 : Nat) + k.toNat) [])
                                      ((0 : Nat) + (1 : Nat) + (1 : Nat) + (1 : Nat) + (1 : Nat) + (1 : Nat) +
                                        (1 : Nat))
                                      (0 : Int),
                                  dl :=
                                    List.getD (l.getD ((0 : Nat) + k.toNat) [])
                                      ((0 : Nat) + (1 : Nat) + (1 : Nat) + (1 : Nat) + (1 : Nat) + (1 : Nat) +
                                          (1 : Nat) +
                                        (1 : Nat))
                                      (0 : Int),
                                  dh :=
                                    List.getD (l.getD ((0 : Nat) + k.toNat) [])
                                      ((0 : Nat) + (1 : Nat) + (1 : Nat) + (1 : Nat) + (1 : Nat) + (1 : Nat) +
                                            (1 : Nat) +
                                          (1 : Nat) +
                                        (1 : Nat))
                                      (0 : Int),
                                  mv :=
                                    List.getD (l.getD ((0 : Nat) + k.toNat) [])
                                      ((0 : Nat) + (1 : Nat) + (1 : Nat) + (1 : Nat) + (1 : Nat) + (1 : Nat) +
                                              (1 : Nat) +
                                            (1 : Nat) +
                                          (1 : Nat) +
                                        (1 : Nat))
                                      (0 : Int),
                                  mc :=
                                    List.getD (l.getD ((0 : Nat) + k.toNat) [])
                                      ((0 : Nat) + (1 : Nat) + (1 : Nat) + (1 : Nat) + (1 : Nat) + (1 : Nat) +
                                                (1 : Nat) +
                                              (1 : Nat) +
                                            (1 : Nat) +
                                          (1 : Nat) +
                                        (1 : Nat))
                                      (0 : Int),
                                  ac :=
                                    List.getD (l.getD ((0 : Nat) + k.toNat) [])
                                      ((0 : Nat) + (1 : Nat) + (1 : Nat) + (1 : Nat) + (1 : Nat) + (1 : Nat) +
                                                  (1 : Nat) +
                                                (1 : Nat) +
                                              (1 : Nat) +
                                            (1 : Nat) +
                                          (1 : Nat) +
                                        (1 : Nat))
                                      (0 : Int) },
                              (1 : Int)]])
                        n i (IntKind.i64.wrap (k + (1 : Int)))))
                    none)
                  (sure (decide (o.length + (1 : Nat) < (4000000000 : Nat)))
                    (again
                      (mkqi l
                        (o ++
                          [[i, k,
                              bk
                                { id := List.getD (l.getD ((0 : Nat) + i.toNat) []) (0 : Nat) (0 : Int),
                                  sa := List.getD (l.getD ((0 : Nat) + i.toNat) []) ((0 : Nat) + (1 : Nat)) (0 : Int),
                                  sn :=
                                    List.getD (l.getD ((0 : Nat) + i.toNat) []) ((0 : Nat) + (1 : Nat) + (1 : Nat))
                                      (0 : Int),
                                  da :=
                                    List.getD (l.getD ((0 : Nat) + i.toNat) [])
                                      ((0 : Nat) + (1 : Nat) + (1 : Nat) + (1 : Nat)) (0 : Int),
                                  dn :=
                                    List.getD (l.getD ((0 : Nat) + i.toNat) [])
                                      ((0 : Nat) + (1 : Nat) + (1 : Nat) + (1 : Nat) + (1 : Nat)) (0 : Int),
                                  sl :=
                                    List.getD (l.getD ((0 : Nat) + i.toNat) [])
                                      ((0 : Nat) + (1 : Nat) + (1 : Nat) + (1 : Nat) + (1 : Nat) + (1 : Nat)) (0 : Int),
                                  sh :=
                                    List.getD (l.getD ((0 : Nat) + i.toNat) [])
                                      ((0 : Nat) + (1 : Nat) + (1 : Nat) + (1 : Nat) + (1 : Nat) + (1 : Nat) +
                                        (1 : Nat))
                                      (0 : Int),
                                  dl :=
                                    List.getD (l.getD ((0 : Nat) + i.toNat) [])
                                      ((0 : Nat) + (1 : Nat) + (1 : Nat) + (1 : Nat) + (1 : Nat) + (1 : Nat) +
                                          (1 : Nat) +
                                        (1 : Nat))
                                      (0 : Int),
                                  dh :=
                                    List.getD (l.getD ((0 : Nat) + i.toNat) [])
                                      ((0 : Nat) + (1 : Nat) + (1 : Nat) + (1 : Nat) + (1 : Nat) + (1 : Nat) +
                                            (1 : Nat) +
                                          (1 : Nat) +
                                        (1 : Nat))
                                      (0 : Int),
                                  mv :=
                                    List.getD (l.getD ((0 : Nat) + i.toNat) [])
                                      ((0 : Nat) + (1 : Nat) + (1 : Nat) + (1 : Nat) + (1 : Nat) + (1 : Nat) +
                                              (1 : Nat) +
                                            (1 : Nat) +
                                          (1 : Nat) +
                                        (1 : Nat))
                                      (0 : Int),
                                  mc :=
                                    List.getD (l.getD ((0 : Nat) + i.toNat) [])
                                      ((0 : Nat) + (1 : Nat) + (1 : Nat) + (1 : Nat) + (1 : Nat) + (1 : Nat) +
                                                (1 : Nat) +
                                              (1 : Nat) +
                                            (1 : Nat) +
                                          (1 : Nat) +
                                        (1 : Nat))
                                      (0 : Int),
                                  ac :=
                                    List.getD (l.getD ((0 : Nat) + i.toNat) [])
                                      ((0 : Nat) + (1 : Nat) + (1 : Nat) + (1 : Nat) + (1 : Nat) + (1 : Nat) +
                                                  (1 : Nat) +
                                                (1 : Nat) +
                                              (1 : Nat) +
                                            (1 : Nat) +
                                          (1 : Nat) +
                                        (1 : Nat))
                                      (0 : Int) }
                                { id := List.getD (l.getD ((0 : Nat) + k.toNat) []) (0 : Nat) (0 : Int),
                                  sa := List.getD (l.getD ((0 : Nat) + k.toNat) []) ((0 : Nat) + (1 : Nat)) (0 : Int),
                                  sn :=
                                    List.getD (l.getD ((0 : Nat) + k.toNat) []) ((0 : Nat) + (1 : Nat) + (1 : Nat))
                                      (0 : Int),
                                  da :=
                                    List.getD (l.getD ((0 : Nat) + k.toNat) [])
                                      ((0 : Nat) + (1 : Nat) + (1 : Nat) + (1 : Nat)) (0 : Int),
                                  dn :=
                                    List.getD (l.getD ((0 : Nat) + k.toNat) [])
                                      ((0 : Nat) + (1 : Nat) + (1 : Nat) + (1 : Nat) + (1 : Nat)) (0 : Int),
                                  sl :=
                                    List.getD (l.getD ((0 : Nat) + k.toNat) [])
                                      ((0 : Nat) + (1 : Nat) + (1 : Nat) + (1 : Nat) + (1 : Nat) + (1 : Nat)) (0 : Int),
                                  sh :=
                                    List.getD (l.getD ((0 : Nat) + k.toNat) [])
                                      ((0 : Nat) + (1 : Nat) + (1 : Nat) + (1 : Nat) + (1 : Nat) + (1 : Nat) +
                                        (1 : Nat))
                                      (0 : Int),
                                  dl :=
                                    List.getD (l.getD ((0 : Nat) + k.toNat) [])
                                      ((0 : Nat) + (1 : Nat) + (1 : Nat) + (1 : Nat) + (1 : Nat) + (1 : Nat) +
                                          (1 : Nat) +
                                        (1 : Nat))
                                      (0 : Int),
                                  dh :=
                                    List.getD (l.getD ((0 : Nat) + k.toNat) [])
                                      ((0 : Nat) + (1 : Nat) + (1 : Nat) + (1 : Nat) + (1 : Nat) + (1 : Nat) +
                                            (1 : Nat) +
                                          (1 : Nat) +
                                        (1 : Nat))
                                      (0 : Int),
                                  mv :=
                                    List.getD (l.getD ((0 : Nat) + k.toNat) [])
                                      ((0 : Nat) + (1 : Nat) + (1 : Nat) + (1 : Nat) + (1 : Nat) + (1 : Nat) +
                                              (1 : Nat) +
                                            (1 : Nat) +
                                          (1 : Nat) +
                                        (1 : Nat))
                                      (0 : Int),
                                  mc :=
                                    List.getD (l.getD ((0 : Nat) + k.toNat) [])
                                      ((0 : Nat) + (1 : Nat) + (1 : Nat) + (1 : Nat) + (1 : Nat) + (1 : Nat) +
                                                (1 : Nat) +
                                              (1 : Nat) +
                                            (1 : Nat) +
                                          (1 : Nat) +
                                        (1 : Nat))
                                      (0 : Int),
                                  ac :=
                                    List.getD (l.getD ((0 : Nat) + k.toNat) [])
                                      ((0 : Nat) + (1 : Nat) + (1 : Nat) + (1 : Nat) + (1 : Nat) + (1 : Nat) +
                                                  (1 : Nat) +
                                                (1 : Nat) +
                                              (1 : Nat) +
                                            (1 : Nat) +
                                          (1 : Nat) +
                                        (1 : Nat))
                                      (0 : Int) },
                              (0 : Int)]])
                        n i (IntKind.i64.wrap (k + (1 : Int)))))
                    none))
                none)
              none)
            (again (mkqi l o n i (IntKind.i64.wrap (k + (1 : Int))))))
          none)
        none)
      none)
    (some (E.brk (2 : Nat), finqi l o n i)) := by kernel_rfl
set_option maxRecDepth 20000 in
theorem run_qi (a : Row) (i : Nat) (hi1 : i ≤ 1000) (hga : okR (rowR a) = true) : ∀ (rs pre o : List Row), i < pre.length → pre.getD i [] = a → allOk rs = true → o.length + rs.length ≤ 1000000 → (pre ++ rs).length ≤ 1000 →
    loopN (step Try.prog (Gpq okP2 allOk btK meB chkL) ents [] 1 bodyqi liveqi outqi) (rs.length + 1) (mkqi (pre ++ rs) o (pre ++ rs).length (i : Nat) (pre.length : Nat)) = some (.brk 2, finqi (pre ++ rs) (o ++ prI a i rs pre.length) (pre ++ rs).length (i : Nat))
  | [], pre, o, _, _, _, _, _ => by
    rw [show ([] : List Row).length + 1 = 0 + 1 from rfl, loopN_succ, step_qi, decide_eq_false (by simp)]
    show some (E.brk 2, finqi _ o _ _) = _
    unfold prI
    rw [List.append_nil o]
  | x :: rs, pre, o, hi, ha, hok, ho, hps => by
    rw [show (x :: rs).length + 1 = (rs.length + 1) + 1 from rfl, loopN_succ, step_qi]
    have hok' : okR (rowR x) = true ∧ allOk rs = true := by
      unfold allOk at hok ⊢
      simpa using hok
    simp only [List.length_cons] at ho
    have hl2 : (pre ++ x :: rs).length = pre.length + rs.length + 1 := by simp; omega
    have h0 : ((pre.length : Nat) : Int) < (((pre ++ x :: rs).length : Nat) : Int) := by omega
    have h1 : (0 : Int) ≤ ((pre.length : Nat) : Int) ∧ ((pre.length : Nat) : Int) < (((pre ++ x :: rs).length : Nat) : Int) := ⟨by omega, h0⟩
    have h2 : (0 : Int) ≤ ((i : Nat) : Int) ∧ ((i : Nat) : Int) < (((pre ++ x :: rs).length : Nat) : Int) := ⟨by omega, by omega⟩
    have h3 : IntKind.wrap .i64 (((pre.length : Nat) : Int) + 1) = (((pre ++ [x]).length : Nat) : Int) := by rw [wrap_i64 (by omega) (by omega)]; simp
    have h5 : pre ++ x :: rs = (pre ++ [x]) ++ rs := by simp
    have g1 : (pre ++ x :: rs).getD (0 + ((pre.length : Nat) : Int).toNat) [] = x := mid7 pre x rs _ (Int.toNat_natCast _)
    have g2 : (pre ++ x :: rs).getD (0 + ((i : Nat) : Int).toNat) [] = a := by
      rw [Int.toNat_natCast, Nat.zero_add, ← ha]
      simp [List.getD_eq_getElem?_getD, List.getElem?_append_left hi]
    have hsm : decide (o.length + 1 < 4000000000) = true := decide_eq_true (by omega)
    have hp2 : okP2 (rowR a) (rowR x) = true := by unfold okP2 okRR; rw [hga, hok'.1]; rfl
    have ha2 : (pre ++ [x]).getD i [] = a := by
      rw [← ha]
      simp [List.getD_eq_getElem?_getD, List.getElem?_append_left hi]
    rw [g1, g2, h3, decide_eq_true h0, decide_eq_true h1, decide_eq_true h2, hsm]
    show sure (okP2 (rowR a) (rowR x)) (sure (meB (rowR a) (rowR x)) (sure true (sure true (sure (a.getD 11 0 != x.getD 11 0) (sure true (loopN (step Try.prog (Gpq okP2 allOk btK meB chkL) ents [] 1 bodyqi liveqi outqi) (rs.length + 1) (mkqi (pre ++ x :: rs) (o ++ [[(i : Int), ((pre.length : Nat) : Int), btK (rowR a) (rowR x), 1]]) (pre ++ x :: rs).length (i : Int) (((pre ++ [x]).length : Nat) : Int))) none) (sure true (loopN (step Try.prog (Gpq okP2 allOk btK meB chkL) ents [] 1 bodyqi liveqi outqi) (rs.length + 1) (mkqi (pre ++ x :: rs) (o ++ [[(i : Int), ((pre.length : Nat) : Int), btK (rowR a) (rowR x), 0]]) (pre ++ x :: rs).length (i : Int) (((pre ++ [x]).length : Nat) : Int))) none)) none) none) (loopN (step Try.prog (Gpq okP2 allOk btK meB chkL) ents [] 1 bodyqi liveqi outqi) (rs.length + 1) (mkqi (pre ++ x :: rs) o (pre ++ x :: rs).length (i : Int) (((pre ++ [x]).length : Nat) : Int)))) none = _
    rw [hp2]
    have e2 : pre.length + 1 = (pre ++ [x]).length := by simp
    unfold prI
    cases meB (rowR a) (rowR x) with
    | true =>
      have fin : ∀ b : Int, prow a x (i : Int) ((pre.length : Nat) : Int) = [(i : Int), ((pre.length : Nat) : Int), btK (rowR a) (rowR x), b] →
          loopN (step Try.prog (Gpq okP2 allOk btK meB chkL) ents [] 1 bodyqi liveqi outqi) (rs.length + 1) (mkqi (pre ++ x :: rs) (o ++ [[(i : Int), ((pre.length : Nat) : Int), btK (rowR a) (rowR x), b]]) (pre ++ x :: rs).length (i : Int) (((pre ++ [x]).length : Nat) : Int)) = some (.brk 2, finqi (pre ++ x :: rs) (o ++ prow a x (i : Int) ((pre.length : Nat) : Int) :: prI a i rs (pre.length + 1)) (pre ++ x :: rs).length (i : Nat)) := by
        intro b hb
        have ih := run_qi a i hi1 hga rs (pre ++ [x]) (o ++ [prow a x (i : Nat) (pre.length : Nat)]) (by simp; omega) ha2 hok'.2 (by simp; omega) (by rw [← h5]; exact hps)
        rw [← h5, hb] at ih
        rw [hb]
        refine ih.trans ?_
        rw [← e2]
        simp
      simp only [sure]
      cases hq : (a.getD 11 0 != x.getD 11 0) with
      | true => exact fin 1 (by unfold prow; rw [hq]; rfl)
      | false => exact fin 0 (by unfold prow; rw [hq]; rfl)
    | false =>
      have ih := run_qi a i hi1 hga rs (pre ++ [x]) o (by simp; omega) ha2 hok'.2 (by omega) (by rw [← h5]; exact hps)
      rw [← h5] at ih
      refine ih.trans ?_
      rw [← e2]
def okqi (l o : List Row) (n : Nat) (i k : Int) : Bool := decide (0 ≤ i ∧ i < (l.length : Int) ∧ k = i + 1 ∧ n = l.length ∧ l.length ≤ 1000 ∧ o.length ≤ 900000) && allOk l
abbrev KQi := List Row → List Row → Nat → Int → Int → Bool
def resqi (ok : KQi) (pr : List Row → Nat → List Row) (x : Xqi) : GT (E × St) := .when (ok x.l x.o x.n x.i x.k) (.leaf (.brk 2, finqi x.l (x.o ++ pr x.l x.i.toNat) x.n x.i))
set_option maxRecDepth 20000 in
theorem loopqi : LoopOK Try.prog bodyqi (fun st => (sumT 61 [0, 5, 6, 7] pickqi (resqi okqi prL) st).opt) := by
  refine loop_one (imp := []) (facts Gpq_ok) 0 1 bodyqi (lpOK_none _) liveqi outqi 61 [0, 5, 6, 7] pickqi Xqi.st (fun x => okqi x.l x.o x.n x.i x.k) (fun x => (.brk 2, finqi x.l (x.o ++ prL x.l x.i.toNat) x.n x.i)) pickqi_ok ?_
  intro x h1 hlen
  obtain ⟨l, o, n, i, k⟩ := x
  simp only [okqi, Bool.and_eq_true, decide_eq_true_eq] at h1
  obtain ⟨⟨h0, hi, hk, hn, hll, hol⟩, ha⟩ := h1
  obtain ⟨i, rfl⟩ := Int.eq_ofNat_of_zero_le h0
  have hil : i < l.length := by omega
  have hg : l.getD i [] = l[i] := by simp [List.getD_eq_getElem?_getD, hil]
  have hti : (l.take (i + 1)).length = i + 1 := by simp; omega
  have hdl : (l.drop (i + 1)).length = l.length - (i + 1) := by simp
  have hall : ∀ r ∈ l, okR (rowR r) = true := by unfold allOk at ha; simpa using ha
  have hda : allOk (l.drop (i + 1)) = true := by
    unfold allOk
    rw [List.all_eq_true]
    intro r hr
    exact hall r (List.mem_of_mem_drop hr)
  have h5 := run_qi (l.getD i []) i (by omega) (hall _ (by rw [hg]; exact List.getElem_mem hil)) (l.drop (i + 1)) (l.take (i + 1)) o (by omega) (by
    simp only [List.getD_eq_getElem?_getD, List.getElem?_take]
    rw [if_pos (by omega)]) hda (by omega) (by rw [List.take_append_drop]; exact hll)
  rw [List.take_append_drop, hti, hdl] at h5
  refine ⟨l.length - (i + 1) + 1, ?_⟩
  subst hn hk
  unfold Xqi.st
  have e1 : ((i + 1 : Nat) : Int) = (i : Int) + 1 := by omega
  rw [e1] at h5
  refine h5.trans ?_
  unfold prL
  rw [Int.toNat_natCast]
def annqi (ok : KQi) (pr : List Row → Nat → List Row) : Ann := ⟨liveqi, 0, some (sumT 61 [0, 5, 6, 7] pickqi (resqi ok pr))⟩
noncomputable def bodyqo : Code := bodyOf 13 [0, 1, 0, 1, 1, 1, 1]
def liveqo : List (Nat × Option (List CK)) := [(0, none), (5, some (KP)), (6, none)]
def outqo : List (Nat × Option (List CK)) := [(5, some (KP))]
def mkqo (l : List Row) (o : List Row) (n : Nat) (i : Int) : St := ⟨sel 61 [0, 5, 6] [.vs 0 0 n, .vw 1, .int .i64 i], [.vec false RK l none, .vec true KP o none]⟩
def finqo (o : List Row) : St := ⟨sel 61 [5] [.vw 0], [.vec true KP o none]⟩
structure Xqo where
  l : List Row
  o : List Row
  n : Nat
  i : Int
def Xqo.st (x : Xqo) : St := mkqo x.l x.o x.n x.i
def pickqo : List SV → List Blk → Option Xqo
  | [.vs 0 0 n, .vw 1, .int .i64 i], [.vec false [.i .i64, .i .u32, .i .i64, .i .u32, .i .i64, .i .u16, .i .u16, .i .u16, .i .u16, .i .u8, .i .u8, .i .i64] l none, .vec true [.i .i64, .i .i64, .i .i64, .b] o none] => some ⟨l, o, n, i⟩
  | _, _ => none
theorem pickqo_ok : ∀ vals mem x, pickqo vals mem = some x → x.st = ⟨sel 61 [0, 5, 6] vals, mem⟩ := by
  intro vals mem x h
  unfold pickqo at h
  split at h
  · cases h; rfl
  · cases h
theorem step_qo (g2 : Rl → Rl → Bool) (ga : List Row → Bool) (bk : Rl → Rl → Int) (mb : Rl → Rl → Bool) (ch : List Row → Int) (ok : KQi) (pr : List Row → Nat → List Row) (again : St → Option (E × St)) (l o : List Row) (n : Nat) (i : Int) : stepP Try.prog (Gpq g2 ga bk mb ch) ents [] (fun _ _ => none) (lpC [([0, 1, 0, 0, 1], annqi ok pr)]) 0 1 bodyqo liveqo outqo again (mkqo l o n i) = sure (decide (i < (↑n : Int)))
    (sure (ok l o n i (IntKind.i64.wrap (i + (1 : Int))))
      (again (mkqo l (o ++ pr l i.toNat) n (IntKind.i64.wrap (i + (1 : Int))))) none)
    (some (E.brk (0 : Nat), finqo o)) := by kernel_rfl
set_option maxRecDepth 20000 in
theorem run_qo (l : List Row) (hl : l.length ≤ 64) (ha : allOk l = true) : ∀ (c i : Nat) (o : List Row), i + c = l.length → o.length ≤ i * 64 →
    loopN (stepP Try.prog (Gpq okP2 allOk btK meB chkL) ents [] (fun _ _ => none) (lpC [([0, 1, 0, 0, 1], annqi okqi prL)]) 0 1 bodyqo liveqo outqo) (c + 1) (mkqo l o l.length (i : Nat)) = some (.brk 0, finqo (o ++ prF l c i))
  | 0, i, o, hc, _ => by
    rw [loopN_succ, step_qo, decide_eq_false (by omega)]
    show some (E.brk 0, finqo o) = _
    unfold prF
    rw [List.append_nil]
  | c + 1, i, o, hc, ho => by
    rw [loopN_succ, step_qo]
    have h3 : IntKind.wrap .i64 ((i : Int) + 1) = ((i + 1 : Nat) : Int) := by rw [wrap_i64 (by omega) (by omega)]; omega
    have h0 : (i : Int) < (l.length : Int) := by omega
    have hok : okqi l o l.length (i : Int) ((i + 1 : Nat) : Int) = true := by
      unfold okqi
      rw [ha]
      simp only [Bool.and_true, decide_eq_true_eq, true_and]
      omega
    rw [h3, decide_eq_true h0, hok, Int.toNat_natCast]
    have hp := prL_len l i
    refine (run_qo l hl ha c (i + 1) (o ++ prL l i) (by omega) (by simp; omega)).trans ?_
    rw [List.append_assoc]
    rfl
theorem at_qi : codeAt bodyqo [0, 1, 0, 0, 1] = some (.loop bodyqi) := by kernel_rfl
theorem lpqo_ok : LpOK Try.prog bodyqo (lpC [([0, 1, 0, 0, 1], annqi okqi prL)]) := lpC_ok _ (by
  intro x hx s hs c hc
  rw [List.mem_singleton] at hx
  subst hx
  cases hs
  have e : some (Code.loop bodyqi) = some (Code.loop c) := at_qi.symm.trans hc
  cases e
  exact loopqi)
def okqo (l o : List Row) (n : Nat) (i : Int) : Bool := i == 0 && (decide (n = l.length ∧ l.length ≤ 64 ∧ o = []) && allOk l)
abbrev KQo := List Row → List Row → Nat → Int → Bool
def resqo (ok : KQo) (pr : List Row → List Row) (x : Xqo) : GT (E × St) := .when (ok x.l x.o x.n x.i) (.leaf (.brk 0, finqo (pr x.l)))
theorem loopqo : LoopOK Try.prog bodyqo (fun st => (sumT 61 [0, 5, 6] pickqo (resqo okqo pairsL) st).opt) := by
  refine loop_one (imp := []) (facts Gpq_ok) 0 1 bodyqo lpqo_ok liveqo outqo 61 [0, 5, 6] pickqo Xqo.st (fun x => okqo x.l x.o x.n x.i) (fun x => (.brk 0, finqo (pairsL x.l))) pickqo_ok ?_
  intro x h1 hlen
  obtain ⟨l, o, n, i⟩ := x
  simp only [okqo, Bool.and_eq_true, beq_iff_eq, decide_eq_true_eq] at h1
  obtain ⟨hi, ⟨hn, hl, ho⟩, ha⟩ := h1
  subst hi hn ho
  exact ⟨l.length + 1, run_qo l hl ha l.length 0 [] (by omega) (by simp)⟩
def annqo (ok : KQo) (pr : List Row → List Row) : Ann := ⟨liveqo, 0, some (sumT 61 [0, 5, 6] pickqo (resqo ok pr))⟩
noncomputable def T_rpr (g2 : Rl → Rl → Bool) (ga : List Row → Bool) (bk : Rl → Rl → Int) (mb : Rl → Rl → Bool) (ch : List Row → Int) (ok : KQo) (pr : List Row → List Row) (l : List Row) : GT SV := GT.br (ga (List.take l.length (List.drop (0 : Nat) l)))
    (GT.br (ch (List.take l.length (List.drop (0 : Nat) l)) != (0 : Int))
      (GT.leaf
        (SV.tup
          [SV.rows [CK.i IntKind.i64, CK.i IntKind.i64, CK.i IntKind.i64, CK.b] [],
            SV.int IntKind.i64 (ch (List.take l.length (List.drop (0 : Nat) l)))]))
      (GT.br (ok l [] l.length (0 : Int))
        (GT.leaf
          (SV.tup
            [SV.rows [CK.i IntKind.i64, CK.i IntKind.i64, CK.i IntKind.i64, CK.b] (pr l),
              SV.int IntKind.i64 (0 : Int)]))
        GT.stop))
    GT.stop
theorem e_rpr (g2 : Rl → Rl → Bool) (ga : List Row → Bool) (bk : Rl → Rl → Int) (mb : Rl → Rl → Bool) (ch : List Row → Int) (ok : KQo) (pr : List Row → List Row) (l : List Row) : evFn Try.prog (Gpq g2 ga bk mb ch) ents [] (lpL [(13, [0, 1, 0, 1, 1, 1, 1], annqo ok pr)]) 1 13 [.rows RK l] = (T_rpr g2 ga bk mb ch ok pr l).opt := by kernel_rfl
theorem S_rpr : SummT Try.prog 13 (sgL fun l => .when (allOk l) (.leaf (.tup [.rows KP (prsV l), .int .i64 (chkL l)]))) := sgL.summ (evFn_summ (factsL Gpq_ok _ (Pp.at_one (f0 := 13) (p0 := [0, 1, 0, 1, 1, 1, 1]) (ann := annqo okqo pairsL) (fun s h => by cases h; exact loopqo))) 1 13) (fun l sv h => by
  obtain ⟨ha, h2⟩ := GT.opt_when h
  refine (e_rpr okP2 allOk btK meB chkL okqo pairsL l).trans (Eq.trans ?_ h2)
  unfold T_rpr prsV
  have e : List.take l.length (List.drop 0 l) = l := by simp
  rw [e, ha]
  by_cases h0 : chkL l = 0
  · have hl := chkL_len h0
    have hok : okqo l [] l.length 0 = true := by simp [okqo, hl, ha]
    rw [hok, h0]
    rfl
  · have hb : (chkL l != 0) = true := by simpa using h0
    rw [hb]; rfl)
end Go.Sx.Mk


/- Clashes: mark, Same, same. Printed by gen22.py. -/
namespace Go.Sx.Mk
open Go.Proofs Go.RowKit
def sgIm (f : Int → GT SV) : List SV → GT SV
  | [.int .i64 n] => f n
  | _ => .stop
theorem sgIm.summ {P : Program} {g : FuncId} {s0 : List SV → Option SV} (h : Summ P g s0) {f : Int → GT SV} (hf : ∀ (n : Int) sv, (f n).opt = some sv → s0 [.int .i64 n] = some sv) : SummT P g (sgIm f) := h.weaken (by
  intro svs sv h'
  unfold sgIm at h'
  split at h'
  · exact hf _ sv h'
  · cases h')
noncomputable def T_mark (n : Int) : GT SV := GT.leaf
    (SV.agg
      [SV.int IntKind.i64 (IntKind.i64.wrap ((-7 : Int) - n)), SV.int IntKind.u32 (0 : Int),
        SV.int IntKind.i64 (0 : Int), SV.int IntKind.u32 (0 : Int), SV.int IntKind.i64 (0 : Int),
        SV.int IntKind.u16 (0 : Int), SV.int IntKind.u16 (0 : Int), SV.int IntKind.u16 (0 : Int),
        SV.int IntKind.u16 (0 : Int), SV.int IntKind.u8 (0 : Int), SV.int IntKind.u8 (0 : Int),
        SV.int IntKind.i64 (77 : Int)])
theorem e_mark (n : Int) : ev G0 1 27 [.int .i64 n] = (T_mark n).opt := by kernel_rfl
def markR (n : Int) : Rl := ⟨IntKind.wrap .i64 (-7 - n), 0, 0, 0, 0, 0, 0, 0, 0, 0, 0, 77⟩
theorem S_mark : SummT Try.prog 27 (sgIm fun n => .leaf (rx (markR n))) := sgIm.summ (evFn_summ (facts G0_ok) 1 27) (fun n sv h => (e_mark n).trans h)
noncomputable def bodysa : Code := bodyOf 30 [0,1,0,1,1]
def livesa : List (Nat × Option (List CK)) := [(0, none), (1, none), (5, none)]
def outsa : List (Nat × Option (List CK)) := [(4, none)]
def mksa (l : List Row) (m : List Row) (n : Nat) (k : Nat) (i : Int) : St := ⟨sel 26 [0, 1, 5] [.vs 0 0 n, .vs 1 0 k, .int .i64 i], [.vec false RK l none, .vec false RK m none]⟩
def finsa (s : SV) : St := ⟨sel 26 [4] [s], []⟩
structure Xsa where
  l : List Row
  m : List Row
  n : Nat
  k : Nat
  i : Int
def Xsa.st (x : Xsa) : St := mksa x.l x.m x.n x.k x.i
def picksa : List SV → List Blk → Option Xsa
  | [.vs 0 0 n, .vs 1 0 k, .int .i64 i], [.vec false [.i .i64, .i .u32, .i .i64, .i .u32, .i .i64, .i .u16, .i .u16, .i .u16, .i .u16, .i .u8, .i .u8, .i .i64] l none, .vec false [.i .i64, .i .u32, .i .i64, .i .u32, .i .i64, .i .u16, .i .u16, .i .u16, .i .u16, .i .u8, .i .u8, .i .i64] m none] => some ⟨l, m, n, k, i⟩
  | _, _ => none
theorem picksa_ok : ∀ vals mem x, picksa vals mem = some x → x.st = ⟨sel 26 [0, 1, 5] vals, mem⟩ := by
  intro vals mem x h
  unfold picksa at h
  split at h
  · cases h; rfl
  · cases h
theorem step_sa (again : St → Option (E × St)) (l m : List Row) (n k : Nat) (i : Int) : step Try.prog G0 ents [] 1 bodysa livesa outsa again (mksa l m n k i) = sure (decide (i < (↑n : Int)))
    (sure (decide ((0 : Int) ≤ i ∧ i < (↑n : Int)))
      (sure (decide ((0 : Int) ≤ i ∧ i < (↑k : Int)))
        (sure
          (!(List.getD (l.getD ((0 : Nat) + i.toNat) []) (0 : Nat) (0 : Int) ==
                List.getD (m.getD ((0 : Nat) + i.toNat) []) (0 : Nat) (0 : Int) &&
              (List.getD (l.getD ((0 : Nat) + i.toNat) []) ((0 : Nat) + (1 : Nat)) (0 : Int) ==
                    List.getD (m.getD ((0 : Nat) + i.toNat) []) ((0 : Nat) + (1 : Nat)) (0 : Int) &&
                  (List.getD (l.getD ((0 : Nat) + i.toNat) []) ((0 : Nat) + (1 : Nat) + (1 : Nat)) (0 : Int) ==
                      List.getD (m.getD ((0 : Nat) + i.toNat) []) ((0 : Nat) + (1 : Nat) + (1 : Nat)) (0 : Int) &&
                    true) &&
                (List.getD (l.getD ((0 : Nat) + i.toNat) []) ((0 : Nat) + (1 : Nat) + (1 : Nat) + (1 : Nat))
                        (0 : Int) ==
                      List.getD (m.getD ((0 : Nat) + i.toNat) []) ((0 : Nat) + (1 : Nat) + (1 : Nat) + (1 : Nat))
                        (0 : Int) &&
                    (List.getD (l.getD ((0 : Nat) + i.toNat) [])
                          ((0 : Nat) + (1 : Nat) + (1 : Nat) + (1 : Nat) + (1 : Nat)) (0 : Int) ==
                        List.getD (m.getD ((0 : Nat) + i.toNat) [])
                          ((0 : Nat) + (1 : Nat) + (1 : Nat) + (1 : Nat) + (1 : Nat)) (0 : Int) &&
                      true) &&
                  (List.getD (l.getD ((0 : Nat) + i.toNat) [])
                          ((0 : Nat) + (1 : Nat) + (1 : Nat) + (1 : Nat) + (1 : Nat) + (1 : Nat)) (0 : Int) ==
                        List.getD (m.getD ((0 : Nat) + i.toNat) [])
                          ((0 : Nat) + (1 : Nat) + (1 : Nat) + (1 : Nat) + (1 : Nat) + (1 : Nat)) (0 : Int) &&
                      (List.getD (l.getD ((0 : Nat) + i.toNat) [])
                            ((0 : Nat) + (1 : Nat) + (1 : Nat) + (1 : Nat) + (1 : Nat) + (1 : Nat) + (1 : Nat))
                            (0 : Int) ==
                          List.getD (m.getD ((0 : Nat) + i.toNat) [])
                            ((0 : Nat) + (1 : Nat) + (1 : Nat) + (1 : Nat) + (1 : Nat) + (1 : Nat) + (1 : Nat))
                            (0 : Int) &&
                        true) &&
                    (List.getD (l.getD ((0 : Nat) + i.toNat) [])
                            ((0 : Nat) + (1 : Nat) + (1 : Nat) + (1 : Nat) + (1 : Nat) + (1 : Nat) + (1 : Nat) +
                              (1 : Nat))
                            (0 : Int) ==
                          List.getD (m.getD ((0 : Nat) + i.toNat) [])
                            ((0 : Nat) + (1 : Nat) + (1 : Nat) + (1 : Nat) + (1 : Nat) + (1 : Nat) + (1 : Nat) +
                              (1 : Nat))
                            (0 : Int) &&
                        (List.getD (l.getD ((0 : Nat) + i.toNat) [])
                              ((0 : Nat) + (1 : Nat) + (1 : Nat) + (1 : Nat) + (1 : Nat) + (1 : Nat) + (1 : Nat) +
                                  (1 : Nat) +
                                (1 : Nat))
                              (0 : Int) ==
                            List.getD (m.getD ((0 : Nat) + i.toNat) [])
                              ((0 : Nat) + (1 : Nat) + (1 : Nat) + (1 : Nat) + (1 : Nat) + (1 : Nat) + (1 : Nat) +
                                  (1 : Nat) +
                                (1 : Nat))
                              (0 : Int) &&
                          true) &&
                      (List.getD (l.getD ((0 : Nat) + i.toNat) [])
                              ((0 : Nat) + (1 : Nat) + (1 : Nat) + (1 : Nat) + (1 : Nat) + (1 : Nat) + (1 : Nat) +
                                    (1 : Nat) +
                                  (1 : Nat) +
                                (1 : Nat))
                              (0 : Int) ==
                            List.getD (m.getD ((0 : Nat) + i.toNat) [])
                              ((0 : Nat) + (1 : Nat) + (1 : Nat) + (1 : Nat) + (1 : Nat) + (1 : Nat) + (1 : Nat) +
                                    (1 : Nat) +
                                  (1 : Nat) +
                                (1 : Nat))
                              (0 : Int) &&
                          (List.getD (l.getD ((0 : Nat) + i.toNat) [])
                                ((0 : Nat) + (1 : Nat) + (1 : Nat) + (1 : Nat) + (1 : Nat) + (1 : Nat) + (1 : Nat) +
                                        (1 : Nat) +
                                      (1 : Nat) +
                                    (1 : Nat) +
                                  (1 : Nat))
                                (0 : Int) ==
                              List.getD (m.getD ((0 : Nat) + i.toNat) [])
                                ((0 : Nat) + (1 : Nat) + (1 : Nat) + (1 : Nat) + (1 : Nat) + (1 : Nat) + (1 : Nat) +
                                        (1 : Nat) +
                                      (1 : Nat) +
                                    (1 : Nat) +
                                  (1 : Nat))
                                (0 : Int) &&
                            true) &&
                        (List.getD (l.getD ((0 : Nat) + i.toNat) [])
                              ((0 : Nat) + (1 : Nat) + (1 : Nat) + (1 : Nat) + (1 : Nat) + (1 : Nat) + (1 : Nat) +
                                        (1 : Nat) +
                                      (1 : Nat) +
                                    (1 : Nat) +
                                  (1 : Nat) +
                                (1 : Nat))
                              (0 : Int) ==
                            List.getD (m.getD ((0 : Nat) + i.toNat) [])
                              ((0 : Nat) + (1 : Nat) + (1 : Nat) + (1 : Nat) + (1 : Nat) + (1 : Nat) + (1 : Nat) +
                                        (1 : Nat) +
                                      (1 : Nat) +
                                    (1 : Nat) +
                                  (1 : Nat) +
                                (1 : Nat))
                              (0 : Int) &&
                          true))))))))
          (some (E.ret, finsa (SV.bool false))) (again (mksa l m n k (IntKind.i64.wrap (i + (1 : Int))))))
        none)
      none)
    (some (E.brk (0 : Nat), finsa SV.poison)) := by kernel_rfl
noncomputable def bodysm : Code := bodyOf 14 [0,1,0,1,1]
def livesm : List (Nat × Option (List CK)) := [(0, none), (1, none), (5, none)]
def outsm : List (Nat × Option (List CK)) := [(4, none)]
def mksm (l : List Row) (m : List Row) (n : Nat) (k : Nat) (i : Int) : St := ⟨sel 26 [0, 1, 5] [.vs 0 0 n, .vs 1 0 k, .int .i64 i], [.vec false KP l none, .vec false KP m none]⟩
def finsm (s : SV) : St := ⟨sel 26 [4] [s], []⟩
structure Xsm where
  l : List Row
  m : List Row
  n : Nat
  k : Nat
  i : Int
def Xsm.st (x : Xsm) : St := mksm x.l x.m x.n x.k x.i
def picksm : List SV → List Blk → Option Xsm
  | [.vs 0 0 n, .vs 1 0 k, .int .i64 i], [.vec false [.i .i64, .i .i64, .i .i64, .b] l none, .vec false [.i .i64, .i .i64, .i .i64, .b] m none] => some ⟨l, m, n, k, i⟩
  | _, _ => none
theorem picksm_ok : ∀ vals mem x, picksm vals mem = some x → x.st = ⟨sel 26 [0, 1, 5] vals, mem⟩ := by
  intro vals mem x h
  unfold picksm at h
  split at h
  · cases h; rfl
  · cases h
theorem step_sm (again : St → Option (E × St)) (l m : List Row) (n k : Nat) (i : Int) : step Try.prog G0 ents [] 1 bodysm livesm outsm again (mksm l m n k i) = sure (decide (i < (↑n : Int)))
    (sure (decide ((0 : Int) ≤ i ∧ i < (↑n : Int)))
      (sure (decide ((0 : Int) ≤ i ∧ i < (↑k : Int)))
        (sure
          (!(List.getD (l.getD ((0 : Nat) + i.toNat) []) (0 : Nat) (0 : Int) ==
                List.getD (m.getD ((0 : Nat) + i.toNat) []) (0 : Nat) (0 : Int) &&
              (List.getD (l.getD ((0 : Nat) + i.toNat) []) ((0 : Nat) + (1 : Nat)) (0 : Int) ==
                  List.getD (m.getD ((0 : Nat) + i.toNat) []) ((0 : Nat) + (1 : Nat)) (0 : Int) &&
                (List.getD (l.getD ((0 : Nat) + i.toNat) []) ((0 : Nat) + (1 : Nat) + (1 : Nat)) (0 : Int) ==
                    List.getD (m.getD ((0 : Nat) + i.toNat) []) ((0 : Nat) + (1 : Nat) + (1 : Nat)) (0 : Int) &&
                  ((List.getD (l.getD ((0 : Nat) + i.toNat) []) ((0 : Nat) + (1 : Nat) + (1 : Nat) + (1 : Nat))
                          (0 : Int) !=
                        (0 : Int)) ==
                      (List.getD (m.getD ((0 : Nat) + i.toNat) []) ((0 : Nat) + (1 : Nat) + (1 : Nat) + (1 : Nat))
                          (0 : Int) !=
                        (0 : Int)) &&
                    true)))))
          (some (E.ret, finsm (SV.bool false))) (again (mksm l m n k (IntKind.i64.wrap (i + (1 : Int))))))
        none)
      none)
    (some (E.brk (0 : Nat), finsm SV.poison)) := by kernel_rfl
end Go.Sx.Mk


/- Clashes: summaries of Same and same. Printed by gen22.py. -/
namespace Go.Sx.Mk
open Go.Proofs Go.RowKit
def eq_sa (x y : Row) : Bool := (List.getD x (0 : Nat) (0 : Int) == List.getD y (0 : Nat) (0 : Int) && (List.getD x ((0 : Nat) + (1 : Nat)) (0 : Int) == List.getD y ((0 : Nat) + (1 : Nat)) (0 : Int) && (List.getD x ((0 : Nat) + (1 : Nat) + (1 : Nat)) (0 : Int) == List.getD y ((0 : Nat) + (1 : Nat) + (1 : Nat)) (0 : Int) && true) && (List.getD x ((0 : Nat) + (1 : Nat) + (1 : Nat) + (1 : Nat)) (0 : Int) == List.getD y ((0 : Nat) + (1 : Nat) + (1 : Nat) + (1 : Nat)) (0 : Int) && (List.getD x ((0 : Nat) + (1 : Nat) + (1 : Nat) + (1 : Nat) + (1 : Nat)) (0 : Int) == List.getD y ((0 : Nat) + (1 : Nat) + (1 : Nat) + (1 : Nat) + (1 : Nat)) (0 : Int) && true) && (List.getD x ((0 : Nat) + (1 : Nat) + (1 : Nat) + (1 : Nat) + (1 : Nat) + (1 : Nat)) (0 : Int) == List.getD y ((0 : Nat) + (1 : Nat) + (1 : Nat) + (1 : Nat) + (1 : Nat) + (1 : Nat)) (0 : Int) && (List.getD x ((0 : Nat) + (1 : Nat) + (1 : Nat) + (1 : Nat) + (1 : Nat) + (1 : Nat) + (1 : Nat)) (0 : Int) == List.getD y ((0 : Nat) + (1 : Nat) + (1 : Nat) + (1 : Nat) + (1 : Nat) + (1 : Nat) + (1 : Nat)) (0 : Int) && true) && (List.getD x ((0 : Nat) + (1 : Nat) + (1 : Nat) + (1 : Nat) + (1 : Nat) + (1 : Nat) + (1 : Nat) + (1 : Nat)) (0 : Int) == List.getD y ((0 : Nat) + (1 : Nat) + (1 : Nat) + (1 : Nat) + (1 : Nat) + (1 : Nat) + (1 : Nat) + (1 : Nat)) (0 : Int) && (List.getD x ((0 : Nat) + (1 : Nat) + (1 : Nat) + (1 : Nat) + (1 : Nat) + (1 : Nat) + (1 : Nat) + (1 : Nat) + (1 : Nat)) (0 : Int) == List.getD y ((0 : Nat) + (1 : Nat) + (1 : Nat) + (1 : Nat) + (1 : Nat) + (1 : Nat) + (1 : Nat) + (1 : Nat) + (1 : Nat)) (0 : Int) && true) && (List.getD x ((0 : Nat) + (1 : Nat) + (1 : Nat) + (1 : Nat) + (1 : Nat) + (1 : Nat) + (1 : Nat) + (1 : Nat) + (1 : Nat) + (1 : Nat)) (0 : Int) == List.getD y ((0 : Nat) + (1 : Nat) + (1 : Nat) + (1 : Nat) + (1 : Nat) + (1 : Nat) + (1 : Nat) + (1 : Nat) + (1 : Nat) + (1 : Nat)) (0 : Int) && (List.getD x ((0 : Nat) + (1 : Nat) + (1 : Nat) + (1 : Nat) + (1 : Nat) + (1 : Nat) + (1 : Nat) + (1 : Nat) + (1 : Nat) + (1 : Nat) + (1 : Nat)) (0 : Int) == List.getD y ((0 : Nat) + (1 : Nat) + (1 : Nat) + (1 : Nat) + (1 : Nat) + (1 : Nat) + (1 : Nat) + (1 : Nat) + (1 : Nat) + (1 : Nat) + (1 : Nat)) (0 : Int) && true) && (List.getD x ((0 : Nat) + (1 : Nat) + (1 : Nat) + (1 : Nat) + (1 : Nat) + (1 : Nat) + (1 : Nat) + (1 : Nat) + (1 : Nat) + (1 : Nat) + (1 : Nat) + (1 : Nat)) (0 : Int) == List.getD y ((0 : Nat) + (1 : Nat) + (1 : Nat) + (1 : Nat) + (1 : Nat) + (1 : Nat) + (1 : Nat) + (1 : Nat) + (1 : Nat) + (1 : Nat) + (1 : Nat) + (1 : Nat)) (0 : Int) && true)))))))
def endsa (b : Bool) : E × St := if b then (.brk 0, finsa .poison) else (.ret, finsa (.bool false))
theorem run_sa : ∀ (rs rr pre prr : List Row), (pre ++ rs).length ≤ maxLen → prr.length = pre.length → rs.length = rr.length →
    loopN (step Try.prog G0 ents [] 1 bodysa livesa outsa) (rs.length + 1) (mksa (pre ++ rs) (prr ++ rr) (pre ++ rs).length (prr ++ rr).length (pre.length : Nat)) = some (endsa (sameF eq_sa rs rr))
  | [], rr, pre, prr, _, _, _ => by
    rw [show ([] : List Row).length + 1 = 0 + 1 from rfl, loopN_succ, step_sa]
    simp [sameF, sure, endsa]
  | x :: rs, [], pre, prr, _, _, h => by simp at h
  | x :: rs, y :: rr, pre, prr, hlen, hp, h => by
    rw [show (x :: rs).length + 1 = (rs.length + 1) + 1 from rfl, loopN_succ, step_sa]
    have hm : maxLen = 9223372036854775807 := rfl
    have hl : ((pre.length : Nat) : Int) < (((pre ++ x :: rs).length : Nat) : Int) := by simp; omega
    have h1 : (0 : Int) ≤ ((pre.length : Nat) : Int) ∧ ((pre.length : Nat) : Int) < (((pre ++ x :: rs).length : Nat) : Int) := ⟨by omega, hl⟩
    have h2 : (0 : Int) ≤ ((pre.length : Nat) : Int) ∧ ((pre.length : Nat) : Int) < (((prr ++ y :: rr).length : Nat) : Int) := ⟨by omega, by simp [hp]; omega⟩
    have h3 : IntKind.wrap .i64 (((pre.length : Nat) : Int) + 1) = (((pre ++ [x]).length : Nat) : Int) := by rw [wrap_i64 (by omega) (by omega)]; simp
    have h5 : pre ++ x :: rs = (pre ++ [x]) ++ rs := by simp
    have h5' : prr ++ y :: rr = (prr ++ [y]) ++ rr := by simp
    have ih := run_sa rs rr (pre ++ [x]) (prr ++ [y]) (by rw [← h5]; exact hlen) (by simp [hp]) (by simpa using h)
    rw [← h5, ← h5'] at ih
    rw [mid7 pre x rs _ (Int.toNat_natCast _), mid7 prr y rr _ ((Int.toNat_natCast _).trans hp.symm), h3]
    rw [show (List.getD x (0 : Nat) (0 : Int) == List.getD y (0 : Nat) (0 : Int) && (List.getD x ((0 : Nat) + (1 : Nat)) (0 : Int) == List.getD y ((0 : Nat) + (1 : Nat)) (0 : Int) && (List.getD x ((0 : Nat) + (1 : Nat) + (1 : Nat)) (0 : Int) == List.getD y ((0 : Nat) + (1 : Nat) + (1 : Nat)) (0 : Int) && true) && (List.getD x ((0 : Nat) + (1 : Nat) + (1 : Nat) + (1 : Nat)) (0 : Int) == List.getD y ((0 : Nat) + (1 : Nat) + (1 : Nat) + (1 : Nat)) (0 : Int) && (List.getD x ((0 : Nat) + (1 : Nat) + (1 : Nat) + (1 : Nat) + (1 : Nat)) (0 : Int) == List.getD y ((0 : Nat) + (1 : Nat) + (1 : Nat) + (1 : Nat) + (1 : Nat)) (0 : Int) && true) && (List.getD x ((0 : Nat) + (1 : Nat) + (1 : Nat) + (1 : Nat) + (1 : Nat) + (1 : Nat)) (0 : Int) == List.getD y ((0 : Nat) + (1 : Nat) + (1 : Nat) + (1 : Nat) + (1 : Nat) + (1 : Nat)) (0 : Int) && (List.getD x ((0 : Nat) + (1 : Nat) + (1 : Nat) + (1 : Nat) + (1 : Nat) + (1 : Nat) + (1 : Nat)) (0 : Int) == List.getD y ((0 : Nat) + (1 : Nat) + (1 : Nat) + (1 : Nat) + (1 : Nat) + (1 : Nat) + (1 : Nat)) (0 : Int) && true) && (List.getD x ((0 : Nat) + (1 : Nat) + (1 : Nat) + (1 : Nat) + (1 : Nat) + (1 : Nat) + (1 : Nat) + (1 : Nat)) (0 : Int) == List.getD y ((0 : Nat) + (1 : Nat) + (1 : Nat) + (1 : Nat) + (1 : Nat) + (1 : Nat) + (1 : Nat) + (1 : Nat)) (0 : Int) && (List.getD x ((0 : Nat) + (1 : Nat) + (1 : Nat) + (1 : Nat) + (1 : Nat) + (1 : Nat) + (1 : Nat) + (1 : Nat) + (1 : Nat)) (0 : Int) == List.getD y ((0 : Nat) + (1 : Nat) + (1 : Nat) + (1 : Nat) + (1 : Nat) + (1 : Nat) + (1 : Nat) + (1 : Nat) + (1 : Nat)) (0 : Int) && true) && (List.getD x ((0 : Nat) + (1 : Nat) + (1 : Nat) + (1 : Nat) + (1 : Nat) + (1 : Nat) + (1 : Nat) + (1 : Nat) + (1 : Nat) + (1 : Nat)) (0 : Int) == List.getD y ((0 : Nat) + (1 : Nat) + (1 : Nat) + (1 : Nat) + (1 : Nat) + (1 : Nat) + (1 : Nat) + (1 : Nat) + (1 : Nat) + (1 : Nat)) (0 : Int) && (List.getD x ((0 : Nat) + (1 : Nat) + (1 : Nat) + (1 : Nat) + (1 : Nat) + (1 : Nat) + (1 : Nat) + (1 : Nat) + (1 : Nat) + (1 : Nat) + (1 : Nat)) (0 : Int) == List.getD y ((0 : Nat) + (1 : Nat) + (1 : Nat) + (1 : Nat) + (1 : Nat) + (1 : Nat) + (1 : Nat) + (1 : Nat) + (1 : Nat) + (1 : Nat) + (1 : Nat)) (0 : Int) && true) && (List.getD x ((0 : Nat) + (1 : Nat) + (1 : Nat) + (1 : Nat) + (1 : Nat) + (1 : Nat) + (1 : Nat) + (1 : Nat) + (1 : Nat) + (1 : Nat) + (1 : Nat) + (1 : Nat)) (0 : Int) == List.getD y ((0 : Nat) + (1 : Nat) + (1 : Nat) + (1 : Nat) + (1 : Nat) + (1 : Nat) + (1 : Nat) + (1 : Nat) + (1 : Nat) + (1 : Nat) + (1 : Nat) + (1 : Nat)) (0 : Int) && true))))))) = eq_sa x y from rfl]
    rw [decide_eq_true hl, decide_eq_true h1, decide_eq_true h2]
    simp only [sure, sameF]
    cases eq_sa x y with
    | true => rw [Bool.true_and]; exact ih
    | false => rfl
def oksa (l m : List Row) (n k : Nat) (i : Int) : Bool := i == 0 && decide (n = l.length ∧ k = m.length ∧ l.length = m.length)
abbrev Ksa := List Row → List Row → Nat → Nat → Int → Bool
theorem loopsa : LoopOK Try.prog bodysa (fun st => (sumT 26 [0, 1, 5] picksa (fun x => .when (oksa x.l x.m x.n x.k x.i) (.br (sameF eq_sa x.l x.m) (.leaf (.brk 0, finsa .poison)) (.leaf (.ret, finsa (.bool false))))) st).opt) := by
  refine loop_two (imp := []) (facts G0_ok) 0 1 bodysa (lpOK_none _) livesa outsa 26 [0, 1, 5] picksa Xsa.st (fun x => oksa x.l x.m x.n x.k x.i) (fun x => sameF eq_sa x.l x.m) _ _ picksa_ok ?_
  intro x h1 hlen
  simp only [oksa, Bool.and_eq_true, beq_iff_eq, decide_eq_true_eq] at h1
  obtain ⟨hi, hn, hk, he⟩ := h1
  have h5 := run_sa x.l x.m [] [] (by simpa using hlen 0 false _ x.l none rfl) rfl he
  refine ⟨x.l.length + 1, ?_⟩
  unfold Xsa.st
  rw [hi, hn, hk]
  exact h5
def annsa (ok : Ksa) (sm : List Row → List Row → Bool) : Ann := ⟨livesa, 0, some (sumT 26 [0, 1, 5] picksa (fun x => .when (ok x.l x.m x.n x.k x.i) (.br (sm x.l x.m) (.leaf (.brk 0, finsa .poison)) (.leaf (.ret, finsa (.bool false))))))⟩
noncomputable def T_sa (ok : Ksa) (sm : List Row → List Row → Bool) (l m : List Row) : GT SV := GT.br ((↑l.length : Int) != (↑m.length : Int)) (GT.leaf (SV.bool false))
    (GT.br (ok l m l.length m.length (0 : Int)) (GT.br (sm l m) (GT.leaf (SV.bool true)) (GT.leaf (SV.bool false)))
      GT.stop)
theorem e_sa (ok : Ksa) (sm : List Row → List Row → Bool) (l m : List Row) : evFn Try.prog G0 ents [] (lpL [(30, [0, 1, 0, 1, 1], annsa ok sm)]) 1 30 [.rows RK l, .rows RK m] = (T_sa ok sm l m).opt := by kernel_rfl
def vsa (l m : List Row) : Bool := !((l.length : Int) != (m.length : Int)) && sameF eq_sa l m
def sgsa (f : List Row → List Row → GT SV) : List SV → GT SV
  | [.rows k1 l, .rows k2 m] => match decide (k1 = RK), decide (k2 = RK) with
    | true, true => f l m
    | _, _ => .stop
  | _ => .stop
theorem sgsa.summ {P : Program} {g : FuncId} {s0 : List SV → Option SV} (h : Summ P g s0) {f : List Row → List Row → GT SV} (hf : ∀ l m sv, (f l m).opt = some sv → s0 [.rows RK l, .rows RK m] = some sv) : SummT P g (sgsa f) := h.weaken (by
  intro svs sv h'
  unfold sgsa at h'
  split at h'
  · split at h'
    · rename_i hk1 hk2
      rw [of_decide_eq_true hk1, of_decide_eq_true hk2]
      exact hf _ _ sv h'
    · cases h'
  · cases h')
theorem S_sa : SummT Try.prog 30 (sgsa fun l m => .leaf (.bool (vsa l m))) := sgsa.summ (evFn_summ (factsL G0_ok _ (Pp.at_one (f0 := 30) (p0 := [0, 1, 0, 1, 1]) (ann := annsa oksa (sameF eq_sa)) (fun s h => by cases h; exact loopsa))) 1 30) (fun l m sv h => by
  refine (e_sa oksa (sameF eq_sa) l m).trans ?_
  refine Eq.trans ?_ h
  unfold T_sa vsa
  cases he : ((l.length : Int) != (m.length : Int)) with
  | true => rfl
  | false =>
    have h2 : (l.length : Int) = (m.length : Int) := by simpa using he
    have hok : oksa l m l.length m.length 0 = true := by unfold oksa; rw [decide_eq_true (show l.length = l.length ∧ m.length = m.length ∧ l.length = m.length from ⟨rfl, rfl, by omega⟩)]; rfl
    rw [hok]
    cases sameF eq_sa l m <;> rfl)
theorem eq_sa_refl (r : Row) : eq_sa r r = true := by simp [eq_sa]
theorem vsa_refl (l : List Row) : vsa l l = true := by
  unfold vsa
  rw [sameF_refl eq_sa_refl l]
  simp
def eq_sm (x y : Row) : Bool := (List.getD x (0 : Nat) (0 : Int) == List.getD y (0 : Nat) (0 : Int) && (List.getD x ((0 : Nat) + (1 : Nat)) (0 : Int) == List.getD y ((0 : Nat) + (1 : Nat)) (0 : Int) && (List.getD x ((0 : Nat) + (1 : Nat) + (1 : Nat)) (0 : Int) == List.getD y ((0 : Nat) + (1 : Nat) + (1 : Nat)) (0 : Int) && ((List.getD x ((0 : Nat) + (1 : Nat) + (1 : Nat) + (1 : Nat)) (0 : Int) != (0 : Int)) == (List.getD y ((0 : Nat) + (1 : Nat) + (1 : Nat) + (1 : Nat)) (0 : Int) != (0 : Int)) && true))))
def endsm (b : Bool) : E × St := if b then (.brk 0, finsm .poison) else (.ret, finsm (.bool false))
theorem run_sm : ∀ (rs rr pre prr : List Row), (pre ++ rs).length ≤ maxLen → prr.length = pre.length → rs.length = rr.length →
    loopN (step Try.prog G0 ents [] 1 bodysm livesm outsm) (rs.length + 1) (mksm (pre ++ rs) (prr ++ rr) (pre ++ rs).length (prr ++ rr).length (pre.length : Nat)) = some (endsm (sameF eq_sm rs rr))
  | [], rr, pre, prr, _, _, _ => by
    rw [show ([] : List Row).length + 1 = 0 + 1 from rfl, loopN_succ, step_sm]
    simp [sameF, sure, endsm]
  | x :: rs, [], pre, prr, _, _, h => by simp at h
  | x :: rs, y :: rr, pre, prr, hlen, hp, h => by
    rw [show (x :: rs).length + 1 = (rs.length + 1) + 1 from rfl, loopN_succ, step_sm]
    have hm : maxLen = 9223372036854775807 := rfl
    have hl : ((pre.length : Nat) : Int) < (((pre ++ x :: rs).length : Nat) : Int) := by simp; omega
    have h1 : (0 : Int) ≤ ((pre.length : Nat) : Int) ∧ ((pre.length : Nat) : Int) < (((pre ++ x :: rs).length : Nat) : Int) := ⟨by omega, hl⟩
    have h2 : (0 : Int) ≤ ((pre.length : Nat) : Int) ∧ ((pre.length : Nat) : Int) < (((prr ++ y :: rr).length : Nat) : Int) := ⟨by omega, by simp [hp]; omega⟩
    have h3 : IntKind.wrap .i64 (((pre.length : Nat) : Int) + 1) = (((pre ++ [x]).length : Nat) : Int) := by rw [wrap_i64 (by omega) (by omega)]; simp
    have h5 : pre ++ x :: rs = (pre ++ [x]) ++ rs := by simp
    have h5' : prr ++ y :: rr = (prr ++ [y]) ++ rr := by simp
    have ih := run_sm rs rr (pre ++ [x]) (prr ++ [y]) (by rw [← h5]; exact hlen) (by simp [hp]) (by simpa using h)
    rw [← h5, ← h5'] at ih
    rw [mid7 pre x rs _ (Int.toNat_natCast _), mid7 prr y rr _ ((Int.toNat_natCast _).trans hp.symm), h3]
    rw [show (List.getD x (0 : Nat) (0 : Int) == List.getD y (0 : Nat) (0 : Int) && (List.getD x ((0 : Nat) + (1 : Nat)) (0 : Int) == List.getD y ((0 : Nat) + (1 : Nat)) (0 : Int) && (List.getD x ((0 : Nat) + (1 : Nat) + (1 : Nat)) (0 : Int) == List.getD y ((0 : Nat) + (1 : Nat) + (1 : Nat)) (0 : Int) && ((List.getD x ((0 : Nat) + (1 : Nat) + (1 : Nat) + (1 : Nat)) (0 : Int) != (0 : Int)) == (List.getD y ((0 : Nat) + (1 : Nat) + (1 : Nat) + (1 : Nat)) (0 : Int) != (0 : Int)) && true)))) = eq_sm x y from rfl]
    rw [decide_eq_true hl, decide_eq_true h1, decide_eq_true h2]
    simp only [sure, sameF]
    cases eq_sm x y with
    | true => rw [Bool.true_and]; exact ih
    | false => rfl
def oksm (l m : List Row) (n k : Nat) (i : Int) : Bool := i == 0 && decide (n = l.length ∧ k = m.length ∧ l.length = m.length)
abbrev Ksm := List Row → List Row → Nat → Nat → Int → Bool
theorem loopsm : LoopOK Try.prog bodysm (fun st => (sumT 26 [0, 1, 5] picksm (fun x => .when (oksm x.l x.m x.n x.k x.i) (.br (sameF eq_sm x.l x.m) (.leaf (.brk 0, finsm .poison)) (.leaf (.ret, finsm (.bool false))))) st).opt) := by
  refine loop_two (imp := []) (facts G0_ok) 0 1 bodysm (lpOK_none _) livesm outsm 26 [0, 1, 5] picksm Xsm.st (fun x => oksm x.l x.m x.n x.k x.i) (fun x => sameF eq_sm x.l x.m) _ _ picksm_ok ?_
  intro x h1 hlen
  simp only [oksm, Bool.and_eq_true, beq_iff_eq, decide_eq_true_eq] at h1
  obtain ⟨hi, hn, hk, he⟩ := h1
  have h5 := run_sm x.l x.m [] [] (by simpa using hlen 0 false _ x.l none rfl) rfl he
  refine ⟨x.l.length + 1, ?_⟩
  unfold Xsm.st
  rw [hi, hn, hk]
  exact h5
def annsm (ok : Ksm) (sm : List Row → List Row → Bool) : Ann := ⟨livesm, 0, some (sumT 26 [0, 1, 5] picksm (fun x => .when (ok x.l x.m x.n x.k x.i) (.br (sm x.l x.m) (.leaf (.brk 0, finsm .poison)) (.leaf (.ret, finsm (.bool false))))))⟩
noncomputable def T_sm (ok : Ksm) (sm : List Row → List Row → Bool) (l m : List Row) : GT SV := GT.br ((↑l.length : Int) != (↑m.length : Int)) (GT.leaf (SV.bool false))
    (GT.br (ok l m l.length m.length (0 : Int)) (GT.br (sm l m) (GT.leaf (SV.bool true)) (GT.leaf (SV.bool false)))
      GT.stop)
theorem e_sm (ok : Ksm) (sm : List Row → List Row → Bool) (l m : List Row) : evFn Try.prog G0 ents [] (lpL [(14, [0, 1, 0, 1, 1], annsm ok sm)]) 1 14 [.rows KP l, .rows KP m] = (T_sm ok sm l m).opt := by kernel_rfl
def vsm (l m : List Row) : Bool := !((l.length : Int) != (m.length : Int)) && sameF eq_sm l m
def sgsm (f : List Row → List Row → GT SV) : List SV → GT SV
  | [.rows k1 l, .rows k2 m] => match decide (k1 = KP), decide (k2 = KP) with
    | true, true => f l m
    | _, _ => .stop
  | _ => .stop
theorem sgsm.summ {P : Program} {g : FuncId} {s0 : List SV → Option SV} (h : Summ P g s0) {f : List Row → List Row → GT SV} (hf : ∀ l m sv, (f l m).opt = some sv → s0 [.rows KP l, .rows KP m] = some sv) : SummT P g (sgsm f) := h.weaken (by
  intro svs sv h'
  unfold sgsm at h'
  split at h'
  · split at h'
    · rename_i hk1 hk2
      rw [of_decide_eq_true hk1, of_decide_eq_true hk2]
      exact hf _ _ sv h'
    · cases h'
  · cases h')
theorem S_sm : SummT Try.prog 14 (sgsm fun l m => .leaf (.bool (vsm l m))) := sgsm.summ (evFn_summ (factsL G0_ok _ (Pp.at_one (f0 := 14) (p0 := [0, 1, 0, 1, 1]) (ann := annsm oksm (sameF eq_sm)) (fun s h => by cases h; exact loopsm))) 1 14) (fun l m sv h => by
  refine (e_sm oksm (sameF eq_sm) l m).trans ?_
  refine Eq.trans ?_ h
  unfold T_sm vsm
  cases he : ((l.length : Int) != (m.length : Int)) with
  | true => rfl
  | false =>
    have h2 : (l.length : Int) = (m.length : Int) := by simpa using he
    have hok : oksm l m l.length m.length 0 = true := by unfold oksm; rw [decide_eq_true (show l.length = l.length ∧ m.length = m.length ∧ l.length = m.length from ⟨rfl, rfl, by omega⟩)]; rfl
    rw [hok]
    cases sameF eq_sm l m <;> rfl)
theorem eq_sm_refl (r : Row) : eq_sm r r = true := by simp [eq_sm]
theorem vsm_refl (l : List Row) : vsm l l = true := by
  unfold vsm
  rw [sameF_refl eq_sm_refl l]
  simp
end Go.Sx.Mk


/- Clashes: the law ClashPairs, its loop, and that of Back. -/
namespace Go.Sx.Mk
open Go.Proofs Go.RowKit
noncomputable def bodylw : Code := bodyOf 4 [0,1,0,1,1,1,1,1,1]
def livelw : List (Nat × Option (List CK)) := [(0, none), (3, none), (4, some (KP)), (6, some (KP)), (5, none), (7, none), (8, none), (9, none)]
def outlw : List (Nat × Option (List CK)) := [(0, none), (3, none), (6, some (KP)), (5, none), (7, none), (8, none)]
def mklw (l : List Row) (b : List Row) (p : List Row) (q : List Row) (n : Nat) (n3 : Nat) (e : Int) (f : Int) (h : Bool) (i : Int) : St := ⟨sel 74 [0, 3, 4, 6, 5, 7, 8, 9] [.vs 0 0 n, .vs 1 0 n3, .vw 2, .vw 3, .int .i64 e, .int .i64 f, .bool h, .int .i64 i], [.vec false RK l none, .vec true RK b none, .vec true KP p none, .vec true KP q none]⟩
def finlw (l : List Row) (b : List Row) (q : List Row) (n : Nat) (n3 : Nat) (e : Int) (f : Int) (h : Bool) : St := ⟨sel 74 [0, 3, 6, 5, 7, 8] [.vs 0 0 n, .vs 1 0 n3, .vw 2, .int .i64 e, .int .i64 f, .bool h], [.vec false RK l none, .vec true RK b none, .vec true KP q none]⟩
structure Xlw where
  l : List Row
  b : List Row
  p : List Row
  q : List Row
  n : Nat
  n3 : Nat
  e : Int
  f : Int
  h : Bool
  i : Int
def Xlw.st (x : Xlw) : St := mklw x.l x.b x.p x.q x.n x.n3 x.e x.f x.h x.i
def picklw : List SV → List Blk → Option Xlw
  | [.vs 0 0 n, .vs 1 0 n3, .vw 2, .vw 3, .int .i64 e, .int .i64 f, .bool h, .int .i64 i], [.vec false [.i .i64, .i .u32, .i .i64, .i .u32, .i .i64, .i .u16, .i .u16, .i .u16, .i .u16, .i .u8, .i .u8, .i .i64] l none, .vec true [.i .i64, .i .u32, .i .i64, .i .u32, .i .i64, .i .u16, .i .u16, .i .u16, .i .u16, .i .u8, .i .u8, .i .i64] b none, .vec true [.i .i64, .i .i64, .i .i64, .b] p none, .vec true [.i .i64, .i .i64, .i .i64, .b] q none] => some ⟨l, b, p, q, n, n3, e, f, h, i⟩
  | _, _ => none
theorem picklw_ok : ∀ vals mem x, picklw vals mem = some x → x.st = ⟨sel 74 [0, 3, 4, 6, 5, 7, 8, 9] vals, mem⟩ := by
  intro vals mem x h
  unfold picklw at h
  split at h
  · cases h; rfl
  · cases h
theorem step_lw (again : St → Option (E × St)) (l b p q : List Row) (n n3 : Nat) (e f : Int) (h : Bool) (i : Int) : step Try.prog G0 ents [] 1 bodylw livelw outlw again (mklw l b p q n n3 e f h i) = sure (decide (i < (↑p.length : Int)))
    (sure (decide ((0 : Int) ≤ i ∧ i < (↑p.length : Int)))
      (again
        (mklw l b (stR p i.toNat (0 : Nat) (4 : Nat) [(77 : Int), (0 : Int), (0 : Int), (0 : Int)]) q n n3 e f h
          (IntKind.i64.wrap (i + (1 : Int)))))
      none)
    (some (E.brk (0 : Nat), finlw l b q n n3 e f h)) := by kernel_rfl
def spI (w : Nat) (v : Row) : Nat → Nat → List Row → List Row
  | 0, _, b => b
  | c + 1, i, b => spI w v c (i + 1) (stR b i 0 w v)
theorem stR_len (b : List Row) (i j w : Nat) (v : Row) : (stR b i j w v).length = b.length := by simp [stR]
set_option maxRecDepth 20000 in
theorem run_lw (l b q : List Row) (n n3 : Nat) (e f : Int) (h : Bool) : ∀ (c i : Nat) (p : List Row), i + c = p.length → p.length ≤ maxLen →
    loopN (step Try.prog G0 ents [] 1 bodylw livelw outlw) (c + 1) (mklw l b p q n n3 e f h (i : Nat)) = some (.brk 0, finlw l b q n n3 e f h)
  | 0, i, p, hc, _ => by
    rw [loopN_succ, step_lw, decide_eq_false (by omega)]
    rfl
  | c + 1, i, p, hc, hp => by
    rw [loopN_succ, step_lw]
    have hm : maxLen = 9223372036854775807 := rfl
    have h3 : IntKind.wrap .i64 ((i : Int) + 1) = ((i + 1 : Nat) : Int) := by rw [wrap_i64 (by omega) (by omega)]; omega
    have h0 : (i : Int) < (p.length : Int) := by omega
    have h1 : (0 : Int) ≤ (i : Int) ∧ (i : Int) < (p.length : Int) := ⟨by omega, h0⟩
    rw [h3, decide_eq_true h0, decide_eq_true h1]
    refine (show sure true (sure true _ none) _ = _ from ?_)
    exact run_lw l b q n n3 e f h c (i + 1) (stR p (i : Int).toNat 0 4 [77, 0, 0, 0]) (by rw [stR_len]; omega) (by rw [stR_len]; exact hp)
theorem looplw : LoopOK Try.prog bodylw (fun st => (sumT 74 [0, 3, 4, 6, 5, 7, 8, 9] picklw (fun x => .when (x.i == 0) (.leaf (.brk 0, finlw x.l x.b x.q x.n x.n3 x.e x.f x.h))) st).opt) := by
  refine loop_one (imp := []) (facts G0_ok) 0 1 bodylw (lpOK_none _) livelw outlw 74 [0, 3, 4, 6, 5, 7, 8, 9] picklw Xlw.st (fun x => x.i == 0) (fun x => (.brk 0, finlw x.l x.b x.q x.n x.n3 x.e x.f x.h)) picklw_ok ?_
  intro x h1 hlen
  obtain ⟨l, b, p, q, n, n3, e, f, h, i⟩ := x
  have hi : i = 0 := eq_of_beq h1
  subst hi
  exact ⟨p.length + 1, run_lw l b q n n3 e f h p.length 0 p (by omega) (hlen 2 true _ p none rfl)⟩
def annlw : Ann := ⟨livelw, 0, some (sumT 74 [0, 3, 4, 6, 5, 7, 8, 9] picklw (fun x => .when (x.i == 0) (.leaf (.brk 0, finlw x.l x.b x.q x.n x.n3 x.e x.f x.h))))⟩
noncomputable def Gbk : FuncId → Option (List SV → GT SV)
  | 27 => some (sgIm fun n => .leaf (rx (markR n)))
  | _ => none
theorem Gbk_ok : ∀ g s, Gbk g = some s → SummT Try.prog g s := fun g s h => by
  unfold Gbk at h
  split at h
  · cases h; exact S_mark
  · cases h
noncomputable def bodybk : Code := bodyOf 15 [0,1,0,1,1,1]
def livebk : List (Nat × Option (List CK)) := [(5, none), (6, none), (7, none)]
def outbk : List (Nat × Option (List CK)) := [(6, none)]
def mkbk (l : List Row) (b : List Row) (q : List Row) (r : List Row) (m : Nat) (h : Bool) (i : Int) : St := ⟨sel 46 [5, 6, 7] [.vs 1 0 m, .bool h, .int .i64 i], [.vec false RK l none, .vec true RK b none, .vec true KP q none, .vec true KP r none]⟩
def finbk (l : List Row) (b : List Row) (q : List Row) (r : List Row) (h : Bool) : St := ⟨sel 46 [6] [.bool h], [.vec false RK l none, .vec true RK b none, .vec true KP q none, .vec true KP r none]⟩
structure Xbk where
  l : List Row
  b : List Row
  q : List Row
  r : List Row
  m : Nat
  h : Bool
  i : Int
def Xbk.st (x : Xbk) : St := mkbk x.l x.b x.q x.r x.m x.h x.i
def pickbk : List SV → List Blk → Option Xbk
  | [.vs 1 0 m, .bool h, .int .i64 i], [.vec false [.i .i64, .i .u32, .i .i64, .i .u32, .i .i64, .i .u16, .i .u16, .i .u16, .i .u16, .i .u8, .i .u8, .i .i64] l none, .vec true [.i .i64, .i .u32, .i .i64, .i .u32, .i .i64, .i .u16, .i .u16, .i .u16, .i .u16, .i .u8, .i .u8, .i .i64] b none, .vec true [.i .i64, .i .i64, .i .i64, .b] q none, .vec true [.i .i64, .i .i64, .i .i64, .b] r none] => some ⟨l, b, q, r, m, h, i⟩
  | _, _ => none
theorem pickbk_ok : ∀ vals mem x, pickbk vals mem = some x → x.st = ⟨sel 46 [5, 6, 7] vals, mem⟩ := by
  intro vals mem x h
  unfold pickbk at h
  split at h
  · cases h; rfl
  · cases h
theorem step_bk (again : St → Option (E × St)) (l b q r : List Row) (m : Nat) (h : Bool) (i : Int) : stepP Try.prog Gbk ents [] (fun _ _ => none) (fun _ => none) 4 1 bodybk livebk outbk again (mkbk l b q r m h i) = sure (decide (i < (↑m : Int)))
    (sure (decide ((0 : Int) ≤ i ∧ i < (↑m : Int)))
      (again
        (mkbk l
          (stR b ((0 : Nat) + i.toNat) (0 : Nat) (12 : Nat)
            [(-12 : Int), (0 : Int), (0 : Int), (0 : Int), (0 : Int), (0 : Int), (0 : Int), (0 : Int), (0 : Int),
              (0 : Int), (0 : Int), (77 : Int)])
          q r m h (IntKind.i64.wrap (i + (1 : Int)))))
      none)
    (some (E.brk (0 : Nat), finbk l b q r h)) := by kernel_rfl
def m5 : Row := [-12, 0, 0, 0, 0, 0, 0, 0, 0, 0, 0, 77]
set_option maxRecDepth 20000 in
theorem run_bk (l q r : List Row) (h : Bool) (m : Nat) (hm1 : m ≤ maxLen) : ∀ (c i : Nat) (b : List Row), i + c = m →
    loopN (stepP Try.prog Gbk ents [] (fun _ _ => none) (fun _ => none) 4 1 bodybk livebk outbk) (c + 1) (mkbk l b q r m h (i : Nat)) = some (.brk 0, finbk l (spI 12 m5 c i b) q r h)
  | 0, i, b, hc => by
    rw [loopN_succ, step_bk, decide_eq_false (by omega)]
    rfl
  | c + 1, i, b, hc => by
    rw [loopN_succ, step_bk]
    have hm : maxLen = 9223372036854775807 := rfl
    have h3 : IntKind.wrap .i64 ((i : Int) + 1) = ((i + 1 : Nat) : Int) := by rw [wrap_i64 (by omega) (by omega)]; omega
    have h0 : (i : Int) < (m : Int) := by omega
    have h1 : (0 : Int) ≤ (i : Int) ∧ (i : Int) < (m : Int) := ⟨by omega, h0⟩
    rw [h3, decide_eq_true h0, decide_eq_true h1, Int.toNat_natCast, Nat.zero_add]
    exact run_bk l q r h m hm1 c (i + 1) (stR b i 0 12 m5) (by omega)
def okbk (b : List Row) (m : Nat) (i : Int) : Bool := i == 0 && decide (m ≤ maxLen)
abbrev KBk := List Row → Nat → Int → Bool
def resbk (ok : KBk) (sp : List Row → Nat → List Row) (x : Xbk) : GT (E × St) := .when (ok x.b x.m x.i) (.leaf (.brk 0, finbk x.l (sp x.b x.m) x.q x.r x.h))
def spM (b : List Row) (m : Nat) : List Row := spI 12 m5 m 0 b
theorem loopbk : LoopOKP Try.prog 4 bodybk (fun st => (sumT 46 [5, 6, 7] pickbk (resbk okbk spM) st).opt) := by
  refine loop_one (imp := []) (facts Gbk_ok) 4 1 bodybk (lpOK_none _) livebk outbk 46 [5, 6, 7] pickbk Xbk.st (fun x => okbk x.b x.m x.i) (fun x => (.brk 0, finbk x.l (spM x.b x.m) x.q x.r x.h)) pickbk_ok ?_
  intro x h1 hlen
  obtain ⟨l, b, q, r, m, h, i⟩ := x
  simp only [okbk, Bool.and_eq_true, beq_iff_eq, decide_eq_true_eq] at h1
  obtain ⟨hi, hm⟩ := h1
  subst hi
  exact ⟨m + 1, run_bk l q r h m hm m 0 b (by omega)⟩
def annbk (ok : KBk) (sp : List Row → Nat → List Row) : Ann := ⟨livebk, 4, some (sumT 46 [5, 6, 7] pickbk (resbk ok sp))⟩
end Go.Sx.Mk


/- Clashes: the law ClashPairs, its tree. -/
namespace Go.Sx.Mk
open Go.Proofs Go.RowKit
abbrev SM2 := List Row → List Row → Bool
noncomputable def Glp (ga : List Row → Bool) (pv : List Row → List Row) (ch : List Row → Int) (s1 s2 : SM2) (mk : Int → Rl) : FuncId → Option (List SV → GT SV)
  | 10 => some (sg0 (.leaf (.bool true)))
  | 12 => some (sgL fun l => .leaf (.tup [.rows KP (pv l), .int .i64 (ch l)]))
  | 13 => some (sgL fun l => .when (ga l) (.leaf (.tup [.rows KP (pv l), .int .i64 (ch l)])))
  | 14 => some (sgsm fun l m => .leaf (.bool (s1 l m)))
  | 30 => some (sgsa fun l m => .leaf (.bool (s2 l m)))
  | 27 => some (sgIm fun n => .leaf (rx (mk n)))
  | 999999 => some (fun _ => GT.stop)
  | _ => none
theorem Glp_ok : ∀ g s, Glp allOk prsV chkL vsm vsa markR g = some s → SummT Try.prog g s := fun g s h => by
  unfold Glp at h
  split at h
  · cases h; exact S_aw22
  · cases h; exact S_prs
  · cases h; exact S_rpr
  · cases h; exact S_sm
  · cases h; exact S_sa
  · cases h; exact S_mark
  · cases h; exact merge_ok
  · cases h
noncomputable def T_lpr (ga : List Row → Bool) (pv : List Row → List Row) (ch : List Row → Int) (s1 s2 : SM2) (mk : Int → Rl) (ok : KBk) (sp : List Row → Nat → List Row) (l : List Row) : GT SV := GT.br (decide ((16777216 : Int) < (↑l.length : Int))) (GT.leaf (SV.bool true))
    (GT.br
      (decide
        ((0 : Int) ≤ IntKind.i64.wrap ((↑l.length : Int) + (2 : Int)) ∧
          IntKind.i64.wrap ((↑l.length : Int) + (2 : Int)) ≤ IntKind.i64.wrap ((↑l.length : Int) + (2 : Int)) ∧
            IntKind.i64.wrap ((↑l.length : Int) + (2 : Int)) < (4000000000 : Int)))
      (GT.br
        (decide
          ((0 : Int) ≤ (↑l.length : Int) ∧
            (↑l.length : Int) <
              (↑(cpR
                      (List.replicate (IntKind.i64.wrap ((↑l.length : Int) + (2 : Int))).toNat
                        [(0 : Int), (0 : Int), (0 : Int), (0 : Int), (0 : Int), (0 : Int), (0 : Int), (0 : Int),
                          (0 : Int), (0 : Int), (0 : Int), (0 : Int)])
                      (List.take l.length (List.drop (0 : Nat) l)) (0 : Nat)
                      (List.replicate (IntKind.i64.wrap ((↑l.length : Int) + (2 : Int))).toNat
                          [(0 : Int), (0 : Int), (0 : Int), (0 : Int), (0 : Int), (0 : Int), (0 : Int), (0 : Int),
                            (0 : Int), (0 : Int), (0 : Int), (0 : Int)]).length).length :
                Int)))
        (GT.br
          (decide
            ((0 : Int) ≤ IntKind.i64.wrap ((↑l.length : Int) + (1 : Int)) ∧
              IntKind.i64.wrap ((↑l.length : Int) + (1 : Int)) <
                (↑(stR
                        (cpR
                          (List.replicate (IntKind.i64.wrap ((↑l.length : Int) + (2 : Int))).toNat
                            [(0 : Int), (0 : Int), (0 : Int), (0 : Int), (0 : Int), (0 : Int), (0 : Int), (0 : Int),
                              (0 : Int), (0 : Int), (0 : Int), (0 : Int)])
                          (List.take l.length (List.drop (0 : Nat) l)) (0 : Nat)
                          (List.replicate (IntKind.i64.wrap ((↑l.length : Int) + (2 : Int))).toNat
                              [(0 : Int), (0 : Int), (0 : Int), (0 : Int), (0 : Int), (0 : Int), (0 : Int), (0 : Int),
                                (0 : Int), (0 : Int), (0 : Int), (0 : Int)]).length)
                        (↑l.length : Int).toNat (0 : Nat) (12 : Nat)
                        [(mk (0 : Int)).1, (mk (0 : Int)).2, (mk (0 : Int)).3, (mk (0 : Int)).4, (mk (0 : Int)).5,
                          (mk (0 : Int)).6, (mk (0 : Int)).7, (mk (0 : Int)).8, (mk (0 : Int)).9, (mk (0 : Int)).10,
                          (mk (0 : Int)).11, (mk (0 : Int)).12]).length :
                  Int)))
          (GT.br
            (decide
              ((0 : Int) ≤ (↑l.length : Int) ∧
                (↑l.length : Int) ≤
                  (↑(stR
                            (stR
                              (cpR
                                (List.replicate (IntKind.i64.wrap ((↑l.length : Int) + (2 : Int))).toNat
                                  [(0 : Int), (0 : Int), (0 : Int), (0 : Int), (0 : Int), (0 : Int), (0 : Int),
                                    (0 : Int), (0 : Int), (0 : Int), (0 : Int), (0 : Int)])
                                (List.take l.length (List.drop (0 : Nat) l)) (0 : Nat)
                                (List.replicate (IntKind.i64.wrap ((↑l.length : Int) + (2 : Int))).toNat
                                    [(0 : Int), (0 : Int), (0 : Int), (0 : Int), (0 : Int), (0 : Int), (0 : Int),
                                      (0 : Int), (0 : Int), (0 : Int), (0 : Int), (0 : Int)]).length)
                              (↑l.length : Int).toNat (0 : Nat) (12 : Nat)
                              [(mk (0 : Int)).1, (mk (0 : Int)).2, (mk (0 : Int)).3, (mk (0 : Int)).4, (mk (0 : Int)).5,
                                (mk (0 : Int)).6, (mk (0 : Int)).7, (mk (0 : Int)).8, (mk (0 : Int)).9,
                                (mk (0 : Int)).10, (mk (0 : Int)).11, (mk (0 : Int)).12])
                            (IntKind.i64.wrap ((↑l.length : Int) + (1 : Int))).toNat (0 : Nat) (12 : Nat)
                            [(mk (1 : Int)).1, (mk (1 : Int)).2, (mk (1 : Int)).3, (mk (1 : Int)).4, (mk (1 : Int)).5,
                              (mk (1 : Int)).6, (mk (1 : Int)).7, (mk (1 : Int)).8, (mk (1 : Int)).9, (mk (1 : Int)).10,
                              (mk (1 : Int)).11, (mk (1 : Int)).12]).length :
                      Int) -
                    (0 : Int)))
            (GT.br (ga (List.take l.length (List.drop (0 : Nat) l)))
              (GT.br
                (decide
                  ((0 : Int) ≤ IntKind.i64.wrap ((↑l.length : Int) + (2 : Int)) ∧
                    IntKind.i64.wrap ((↑l.length : Int) + (2 : Int)) ≤
                      (↑(stR
                                (stR
                                  (cpR
                                    (List.replicate (IntKind.i64.wrap ((↑l.length : Int) + (2 : Int))).toNat
                                      [(0 : Int), (0 : Int), (0 : Int), (0 : Int), (0 : Int), (0 : Int), (0 : Int),
                                        (0 : Int), (0 : Int), (0 : Int), (0 : Int), (0 : Int)])
                                    (List.take l.length (List.drop (0 : Nat) l)) (0 : Nat)
                                    (List.replicate (IntKind.i64.wrap ((↑l.length : Int) + (2 : Int))).toNat
                                        [(0 : Int), (0 : Int), (0 : Int), (0 : Int), (0 : Int), (0 : Int), (0 : Int),
                                          (0 : Int), (0 : Int), (0 : Int), (0 : Int), (0 : Int)]).length)
                                  (↑l.length : Int).toNat (0 : Nat) (12 : Nat)
                                  [(mk (0 : Int)).1, (mk (0 : Int)).2, (mk (0 : Int)).3, (mk (0 : Int)).4,
                                    (mk (0 : Int)).5, (mk (0 : Int)).6, (mk (0 : Int)).7, (mk (0 : Int)).8,
                                    (mk (0 : Int)).9, (mk (0 : Int)).10, (mk (0 : Int)).11, (mk (0 : Int)).12])
                                (IntKind.i64.wrap ((↑l.length : Int) + (1 : Int))).toNat (0 : Nat) (12 : Nat)
                                [(mk (1 : Int)).1, (mk (1 : Int)).2, (mk (1 : Int)).3, (mk (1 : Int)).4,
                                  (mk (1 : Int)).5, (mk (1 : Int)).6, (mk (1 : Int)).7, (mk (1 : Int)).8,
                                  (mk (1 : Int)).9, (mk (1 : Int)).10, (mk (1 : Int)).11, (mk (1 : Int)).12]).length :
                          Int) -
                        (0 : Int)))
                (GT.br
                  (decide
                    ((0 : Int) ≤ (↑l.length : Int) ∧
                      (↑l.length : Int) < (↑(IntKind.i64.wrap ((↑l.length : Int) + (2 : Int))).toNat : Int)))
                  (GT.br
                    (List.getD
                          ((stR
                                (stR
                                  (cpR
                                    (List.replicate (IntKind.i64.wrap ((↑l.length : Int) + (2 : Int))).toNat
                                      [(0 : Int), (0 : Int), (0 : Int), (0 : Int), (0 : Int), (0 : Int), (0 : Int),
                                        (0 : Int), (0 : Int), (0 : Int), (0 : Int), (0 : Int)])
                                    (List.take l.length (List.drop (0 : Nat) l)) (0 : Nat)
                                    (List.replicate (IntKind.i64.wrap ((↑l.length : Int) + (2 : Int))).toNat
                                        [(0 : Int), (0 : Int), (0 : Int), (0 : Int), (0 : Int), (0 : Int), (0 : Int),
                                          (0 : Int), (0 : Int), (0 : Int), (0 : Int), (0 : Int)]).length)
                                  (↑l.length : Int).toNat (0 : Nat) (12 : Nat)
                                  [(mk (0 : Int)).1, (mk (0 : Int)).2, (mk (0 : Int)).3, (mk (0 : Int)).4,
                                    (mk (0 : Int)).5, (mk (0 : Int)).6, (mk (0 : Int)).7, (mk (0 : Int)).8,
                                    (mk (0 : Int)).9, (mk (0 : Int)).10, (mk (0 : Int)).11, (mk (0 : Int)).12])
                                (IntKind.i64.wrap ((↑l.length : Int) + (1 : Int))).toNat (0 : Nat) (12 : Nat)
                                [(mk (1 : Int)).1, (mk (1 : Int)).2, (mk (1 : Int)).3, (mk (1 : Int)).4,
                                  (mk (1 : Int)).5, (mk (1 : Int)).6, (mk (1 : Int)).7, (mk (1 : Int)).8,
                                  (mk (1 : Int)).9, (mk (1 : Int)).10, (mk (1 : Int)).11, (mk (1 : Int)).12]).getD
                            ((0 : Nat) + (↑l.length : Int).toNat) [])
                          (0 : Nat) (0 : Int) ==
                        (mk (0 : Int)).1 &&
                      (List.getD
                              ((stR
                                    (stR
                                      (cpR
                                        (List.replicate (IntKind.i64.wrap ((↑l.length : Int) + (2 : Int))).toNat
                                          [(0 : Int), (0 : Int), (0 : Int), (0 : Int), (0 : Int), (0 : Int), (0 : Int),
                                            (0 : Int), (0 : Int), (0 : Int), (0 : Int), (0 : Int)])
                                        (List.take l.length (List.drop (0 : Nat) l)) (0 : Nat)
                                        (List.replicate (IntKind.i64.wrap ((↑l.length : Int) + (2 : Int))).toNat
                                            [(0 : Int), (0 : Int), (0 : Int), (0 : Int), (0 : Int), (0 : Int),
                                              (0 : Int), (0 : Int), (0 : Int), (0 : Int), (0 : Int), (0 : Int)]).length)
                                      (↑l.length : Int).toNat (0 : Nat) (12 : Nat)
                                      [(mk (0 : Int)).1, (mk (0 : Int)).2, (mk (0 : Int)).3, (mk (0 : Int)).4,
                                        (mk (0 : Int)).5, (mk (0 : Int)).6, (mk (0 : Int)).7, (mk (0 : Int)).8,
                                        (mk (0 : Int)).9, (mk (0 : Int)).10, (mk (0 : Int)).11, (mk (0 : Int)).12])
                                    (IntKind.i64.wrap ((↑l.length : Int) + (1 : Int))).toNat (0 : Nat) (12 : Nat)
                                    [(mk (1 : Int)).1, (mk (1 : Int)).2, (mk (1 : Int)).3, (mk (1 : Int)).4,
                                      (mk (1 : Int)).5, (mk (1 : Int)).6, (mk (1 : Int)).7, (mk (1 : Int)).8,
                                      (mk (1 : Int)).9, (mk (1 : Int)).10, (mk (1 : Int)).11, (mk (1 : Int)).12]).getD
                                ((0 : Nat) + (↑l.length : Int).toNat) [])
                              ((0 : Nat) + (1 : Nat)) (0 : Int) ==
                            (mk (0 : Int)).2 &&
                          (List.getD
                                ((stR
                                      (stR
                                        (cpR
                                          (List.replicate (IntKind.i64.wrap ((↑l.length : Int) + (2 : Int))).toNat
                                            [(0 : Int), (0 : Int), (0 : Int), (0 : Int), (0 : Int), (0 : Int),
                                              (0 : Int), (0 : Int), (0 : Int), (0 : Int), (0 : Int), (0 : Int)])
                                          (List.take l.length (List.drop (0 : Nat) l)) (0 : Nat)
                                          (List.replicate (IntKind.i64.wrap ((↑l.length : Int) + (2 : Int))).toNat
                                              [(0 : Int), (0 : Int), (0 : Int), (0 : Int), (0 : Int), (0 : Int),
                                                (0 : Int), (0 : Int), (0 : Int), (0 : Int), (0 : Int),
                                                (0 : Int)]).length)
                                        (↑l.length : Int).toNat (0 : Nat) (12 : Nat)
                                        [(mk (0 : Int)).1, (mk (0 : Int)).2, (mk (0 : Int)).3, (mk (0 : Int)).4,
                                          (mk (0 : Int)).5, (mk (0 : Int)).6, (mk (0 : Int)).7, (mk (0 : Int)).8,
                                          (mk (0 : Int)).9, (mk (0 : Int)).10, (mk (0 : Int)).11, (mk (0 : Int)).12])
                                      (IntKind.i64.wrap ((↑l.length : Int) + (1 : Int))).toNat (0 : Nat) (12 : Nat)
                                      [(mk (1 : Int)).1, (mk (1 : Int)).2, (mk (1 : Int)).3, (mk (1 : Int)).4,
                                        (mk (1 : Int)).5, (mk (1 : Int)).6, (mk (1 : Int)).7, (mk (1 : Int)).8,
                                        (mk (1 : Int)).9, (mk (1 : Int)).10, (mk (1 : Int)).11, (mk (1 : Int)).12]).getD
                                  ((0 : Nat) + (↑l.length : Int).toNat) [])
                                ((0 : Nat) + (1 : Nat) + (1 : Nat)) (0 : Int) ==
                              (mk (0 : Int)).3 &&
                            true) &&
                        (List.getD
                                ((stR
                                      (stR
                                        (cpR
                                          (List.replicate (IntKind.i64.wrap ((↑l.length : Int) + (2 : Int))).toNat
                                            [(0 : Int), (0 : Int), (0 : Int), (0 : Int), (0 : Int), (0 : Int),
                                              (0 : Int), (0 : Int), (0 : Int), (0 : Int), (0 : Int), (0 : Int)])
                                          (List.take l.length (List.drop (0 : Nat) l)) (0 : Nat)
                                          (List.replicate (IntKind.i64.wrap ((↑l.length : Int) + (2 : Int))).toNat
                                              [(0 : Int), (0 : Int), (0 : Int), (0 : Int), (0 : Int), (0 : Int),
                                                (0 : Int), (0 : Int), (0 : Int), (0 : Int), (0 : Int),
                                                (0 : Int)]).length)
                                        (↑l.length : Int).toNat (0 : Nat) (12 : Nat)
                                        [(mk (0 : Int)).1, (mk (0 : Int)).2, (mk (0 : Int)).3, (mk (0 : Int)).4,
                                          (mk (0 : Int)).5, (mk (0 : Int)).6, (mk (0 : Int)).7, (mk (0 : Int)).8,
                                          (mk (0 : Int)).9, (mk (0 : Int)).10, (mk (0 : Int)).11, (mk (0 : Int)).12])
                                      (IntKind.i64.wrap ((↑l.length : Int) + (1 : Int))).toNat (0 : Nat) (12 : Nat)
                                      [(mk (1 : Int)).1, (mk (1 : Int)).2, (mk (1 : Int)).3, (mk (1 : Int)).4,
                                        (mk (1 : Int)).5, (mk (1 : Int)).6, (mk (1 : Int)).7, (mk (1 : Int)).8,
                                        (mk (1 : Int)).9, (mk (1 : Int)).10, (mk (1 : Int)).11, (mk (1 : Int)).12]).getD
                                  ((0 : Nat) + (↑l.length : Int).toNat) [])
                                ((0 : Nat) + (1 : Nat) + (1 : Nat) + (1 : Nat)) (0 : Int) ==
                              (mk (0 : Int)).4 &&
                            (List.getD
                                  ((stR
                                        (stR
                                          (cpR
                                            (List.replicate (IntKind.i64.wrap ((↑l.length : Int) + (2 : Int))).toNat
                                              [(0 : Int), (0 : Int), (0 : Int), (0 : Int), (0 : Int), (0 : Int),
                                                (0 : Int), (0 : Int), (0 : Int), (0 : Int), (0 : Int), (0 : Int)])
                                            (List.take l.length (List.drop (0 : Nat) l)) (0 : Nat)
                                            (List.replicate (IntKind.i64.wrap ((↑l.length : Int) + (2 : Int))).toNat
                                                [(0 : Int), (0 : Int), (0 : Int), (0 : Int), (0 : Int), (0 : Int),
                                                  (0 : Int), (0 : Int), (0 : Int), (0 : Int), (0 : Int),
                                                  (0 : Int)]).length)
                                          (↑l.length : Int).toNat (0 : Nat) (12 : Nat)
                                          [(mk (0 : Int)).1, (mk (0 : Int)).2, (mk (0 : Int)).3, (mk (0 : Int)).4,
                                            (mk (0 : Int)).5, (mk (0 : Int)).6, (mk (0 : Int)).7, (mk (0 : Int)).8,
                                            (mk (0 : Int)).9, (mk (0 : Int)).10, (mk (0 : Int)).11, (mk (0 : Int)).12])
                                        (IntKind.i64.wrap ((↑l.length : Int) + (1 : Int))).toNat (0 : Nat) (12 : Nat)
                                        [(mk (1 : Int)).1, (mk (1 : Int)).2, (mk (1 : Int)).3, (mk (1 : Int)).4,
                                          (mk (1 : Int)).5, (mk (1 : Int)).6, (mk (1 : Int)).7, (mk (1 : Int)).8,
                                          (mk (1 : Int)).9, (mk (1 : Int)).10, (mk (1 : Int)).11,
                                          (mk (1 : Int)).12]).getD
                                    ((0 : Nat) + (↑l.length : Int).toNat) [])
                                  ((0 : Nat) + (1 : Nat) + (1 : Nat) + (1 : Nat) + (1 : Nat)) (0 : Int) ==
                                (mk (0 : Int)).5 &&
                              true) &&
                          (List.getD
                                  ((stR
                                        (stR
                                          (cpR
                                            (List.replicate (IntKind.i64.wrap ((↑l.length : Int) + (2 : Int))).toNat
                                              [(0 : Int), (0 : Int), (0 : Int), (0 : Int), (0 : Int), (0 : Int),
                                                (0 : Int), (0 : Int), (0 : Int), (0 : Int), (0 : Int), (0 : Int)])
                                            (List.take l.length (List.drop (0 : Nat) l)) (0 : Nat)
                                            (List.replicate (IntKind.i64.wrap ((↑l.length : Int) + (2 : Int))).toNat
                                                [(0 : Int), (0 : Int), (0 : Int), (0 : Int), (0 : Int), (0 : Int),
                                                  (0 : Int), (0 : Int), (0 : Int), (0 : Int), (0 : Int),
                                                  (0 : Int)]).length)
                                          (↑l.length : Int).toNat (0 : Nat) (12 : Nat)
                                          [(mk (0 : Int)).1, (mk (0 : Int)).2, (mk (0 : Int)).3, (mk (0 : Int)).4,
                                            (mk (0 : Int)).5, (mk (0 : Int)).6, (mk (0 : Int)).7, (mk (0 : Int)).8,
                                            (mk (0 : Int)).9, (mk (0 : Int)).10, (mk (0 : Int)).11, (mk (0 : Int)).12])
                                        (IntKind.i64.wrap ((↑l.length : Int) + (1 : Int))).toNat (0 : Nat) (12 : Nat)
                                        [(mk (1 : Int)).1, (mk (1 : Int)).2, (mk (1 : Int)).3, (mk (1 : Int)).4,
                                          (mk (1 : Int)).5, (mk (1 : Int)).6, (mk (1 : Int)).7, (mk (1 : Int)).8,
                                          (mk (1 : Int)).9, (mk (1 : Int)).10, (mk (1 : Int)).11,
                                          (mk (1 : Int)).12]).getD
                                    ((0 : Nat) + (↑l.length : Int).toNat) [])
                                  ((0 : Nat) + (1 : Nat) + (1 : Nat) + (1 : Nat) + (1 : Nat) + (1 : Nat)) (0 : Int) ==
                                (mk (0 : Int)).6 &&
                              (List.getD
                                    ((stR
                                          (stR
                                            (cpR
                                              (List.replicate (IntKind.i64.wrap ((↑l.length : Int) + (2 : Int))).toNat
                                                [(0 : Int), (0 : Int), (0 : Int), (0 : Int), (0 : Int), (0 : Int),
                                                  (0 : Int), (0 : Int), (0 : Int), (0 : Int), (0 : Int), (0 : Int)])
                                              (List.take l.length (List.drop (0 : Nat) l)) (0 : Nat)
                                              (List.replicate (IntKind.i64.wrap ((↑l.length : Int) + (2 : Int))).toNat
                                                  [(0 : Int), (0 : Int), (0 : Int), (0 : Int), (0 : Int), (0 : Int),
                                                    (0 : Int), (0 : Int), (0 : Int), (0 : Int), (0 : Int),
                                                    (0 : Int)]).length)
                                            (↑l.length : Int).toNat (0 : Nat) (12 : Nat)
                                            [(mk (0 : Int)).1, (mk (0 : Int)).2, (mk (0 : Int)).3, (mk (0 : Int)).4,
                                              (mk (0 : Int)).5, (mk (0 : Int)).6, (mk (0 : Int)).7, (mk (0 : Int)).8,
                                              (mk (0 : Int)).9, (mk (0 : Int)).10, (mk (0 : Int)).11,
                                              (mk (0 : Int)).12])
                                          (IntKind.i64.wrap ((↑l.length : Int) + (1 : Int))).toNat (0 : Nat) (12 : Nat)
                                          [(mk (1 : Int)).1, (mk (1 : Int)).2, (mk (1 : Int)).3, (mk (1 : Int)).4,
                                            (mk (1 : Int)).5, (mk (1 : Int)).6, (mk (1 : Int)).7, (mk (1 : Int)).8,
                                            (mk (1 : Int)).9, (mk (1 : Int)).10, (mk (1 : Int)).11,
                                            (mk (1 : Int)).12]).getD
                                      ((0 : Nat) + (↑l.length : Int).toNat) [])
                                    ((0 : Nat) + (1 : Nat) + (1 : Nat) + (1 : Nat) + (1 : Nat) + (1 : Nat) + (1 : Nat))
                                    (0 : Int) ==
                                  (mk (0 : Int)).7 &&
                                true) &&
                            (List.getD
                                    ((stR
                                          (stR
                                            (cpR
                                              (List.replicate (IntKind.i64.wrap ((↑l.length : Int) + (2 : Int))).toNat
                                                [(0 : Int), (0 : Int), (0 : Int), (0 : Int), (0 : Int), (0 : Int),
                                                  (0 : Int), (0 : Int), (0 : Int), (0 : Int), (0 : Int), (0 : Int)])
                                              (List.take l.length (List.drop (0 : Nat) l)) (0 : Nat)
                                              (List.replicate (IntKind.i64.wrap ((↑l.length : Int) + (2 : Int))).toNat
                                                  [(0 : Int), (0 : Int), (0 : Int), (0 : Int), (0 : Int), (0 : Int),
                                                    (0 : Int), (0 : Int), (0 : Int), (0 : Int), (0 : Int),
                                                    (0 : Int)]).length)
                                            (↑l.length : Int).toNat (0 : Nat) (12 : Nat)
                                            [(mk (0 : Int)).1, (mk (0 : Int)).2, (mk (0 : Int)).3, (mk (0 : Int)).4,
                                              (mk (0 : Int)).5, (mk (0 : Int)).6, (mk (0 : Int)).7, (mk (0 : Int)).8,
                                              (mk (0 : Int)).9, (mk (0 : Int)).10, (mk (0 : Int)).11,
                                              (mk (0 : Int)).12])
                                          (IntKind.i64.wrap ((↑l.length : Int) + (1 : Int))).toNat (0 : Nat) (12 : Nat)
                                          [(mk (1 : Int)).1, (mk (1 : Int)).2, (mk (1 : Int)).3, (mk (1 : Int)).4,
                                            (mk (1 : Int)).5, (mk (1 : Int)).6, (mk (1 : Int)).7, (mk (1 : Int)).8,
                                            (mk (1 : Int)).9, (mk (1 : Int)).10, (mk (1 : Int)).11,
                                            (mk (1 : Int)).12]).getD
                                      ((0 : Nat) + (↑l.length : Int).toNat) [])
                                    ((0 : Nat) + (1 : Nat) + (1 : Nat) + (1 : Nat) + (1 : Nat) + (1 : Nat) + (1 : Nat) +
                                      (1 : Nat))
                                    (0 : Int) ==
                                  (mk (0 : Int)).8 &&
                                (List.getD
                                      ((stR
                                            (stR
                                              (cpR
                                                (List.replicate (IntKind.i64.wrap ((↑l.length : Int) + (2 : Int))).toNat
                                                  [(0 : Int), (0 : Int), (0 : Int), (0 : Int), (0 : Int), (0 : Int),
                                                    (0 : Int), (0 : Int), (0 : Int), (0 : Int), (0 : Int), (0 : Int)])
                                                (List.take l.length (List.drop (0 : Nat) l)) (0 : Nat)
                                                (List.replicate (IntKind.i64.wrap ((↑l.length : Int) + (2 : Int))).toNat
                                                    [(0 : Int), (0 : Int), (0 : Int), (0 : Int), (0 : Int), (0 : Int),
                                                      (0 : Int), (0 : Int), (0 : Int), (0 : Int), (0 : Int),
                                                      (0 : Int)]).length)
                                              (↑l.length : Int).toNat (0 : Nat) (12 : Nat)
                                              [(mk (0 : Int)).1, (mk (0 : Int)).2, (mk (0 : Int)).3, (mk (0 : Int)).4,
                                                (mk (0 : Int)).5, (mk (0 : Int)).6, (mk (0 : Int)).7, (mk (0 : Int)).8,
                                                (mk (0 : Int)).9, (mk (0 : Int)).10, (mk (0 : Int)).11,
                                                (mk (0 : Int)).12])
                                            (IntKind.i64.wrap ((↑l.length : Int) + (1 : Int))).toNat (0 : Nat)
                                            (12 : Nat)
                                            [(mk (1 : Int)).1, (mk (1 : Int)).2, (mk (1 : Int)).3, (mk (1 : Int)).4,
                                              (mk (1 : Int)).5, (mk (1 : Int)).6, (mk (1 : Int)).7, (mk (1 : Int)).8,
                                              (mk (1 : Int)).9, (mk (1 : Int)).10, (mk (1 : Int)).11,
                                              (mk (1 : Int)).12]).getD
                                        ((0 : Nat) + (↑l.length : Int).toNat) [])
                                      ((0 : Nat) + (1 : Nat) + (1 : Nat) + (1 : Nat) + (1 : Nat) + (1 : Nat) +
                                            (1 : Nat) +
                                          (1 : Nat) +
                                        (1 : Nat))
                                      (0 : Int) ==
                                    (mk (0 : Int)).9 &&
                                  true) &&
                              (List.getD
                                      ((stR
                                            (stR
                                              (cpR
                                                (List.replicate (IntKind.i64.wrap ((↑l.length : Int) + (2 : Int))).toNat
                                                  [(0 : Int), (0 : Int), (0 : Int), (0 : Int), (0 : Int), (0 : Int),
                                                    (0 : Int), (0 : Int), (0 : Int), (0 : Int), (0 : Int), (0 : Int)])
                                                (List.take l.length (List.drop (0 : Nat) l)) (0 : Nat)
                                                (List.replicate (IntKind.i64.wrap ((↑l.length : Int) + (2 : Int))).toNat
                                                    [(0 : Int), (0 : Int), (0 : Int), (0 : Int), (0 : Int), (0 : Int),
                                                      (0 : Int), (0 : Int), (0 : Int), (0 : Int), (0 : Int),
                                                      (0 : Int)]).length)
                                              (↑l.length : Int).toNat (0 : Nat) (12 : Nat)
                                              [(mk (0 : Int)).1, (mk (0 : Int)).2, (mk (0 : Int)).3, (mk (0 : Int)).4,
                                                (mk (0 : Int)).5, (mk (0 : Int)).6, (mk (0 : Int)).7, (mk (0 : Int)).8,
                                                (mk (0 : Int)).9, (mk (0 : Int)).10, (mk (0 : Int)).11,
                                                (mk (0 : Int)).12])
                                            (IntKind.i64.wrap ((↑l.length : Int) + (1 : Int))).toNat (0 : Nat)
                                            (12 : Nat)
                                            [(mk (1 : Int)).1, (mk (1 : Int)).2, (mk (1 : Int)).3, (mk (1 : Int)).4,
                                              (mk (1 : Int)).5, (mk (1 : Int)).6, (mk (1 : Int)).7, (mk (1 : Int)).8,
                                              (mk (1 : Int)).9, (mk (1 : Int)).10, (mk (1 : Int)).11,
                                              (mk (1 : Int)).12]).getD
                                        ((0 : Nat) + (↑l.length : Int).toNat) [])
                                      ((0 : Nat) + (1 : Nat) + (1 : Nat) + (1 : Nat) + (1 : Nat) + (1 : Nat) +
                                              (1 : Nat) +
                                            (1 : Nat) +
                                          (1 : Nat) +
                                        (1 : Nat))
                                      (0 : Int) ==
                                    (mk (0 : Int)).10 &&
                                  (List.getD
                                        ((stR
                                              (stR
                                                (cpR
                                                  (List.replicate
                                                    (IntKind.i64.wrap ((↑l.length : Int) + (2 : Int))).toNat
                                                    [(0 : Int), (0 : Int), (0 : Int), (0 : Int), (0 : Int), (0 : Int),
                                                      (0 : Int), (0 : Int), (0 : Int), (0 : Int), (0 : Int), (0 : Int)])
                                                  (List.take l.length (List.drop (0 : Nat) l)) (0 : Nat)
                                                  (List.replicate
                                                      (IntKind.i64.wrap ((↑l.length : Int) + (2 : Int))).toNat
                                                      [(0 : Int), (0 : Int), (0 : Int), (0 : Int), (0 : Int), (0 : Int),
                                                        (0 : Int), (0 : Int), (0 : Int), (0 : Int), (0 : Int),
                                                        (0 : Int)]).length)
                                                (↑l.length : Int).toNat (0 : Nat) (12 : Nat)
                                                [(mk (0 : Int)).1, (mk (0 : Int)).2, (mk (0 : Int)).3, (mk (0 : Int)).4,
                                                  (mk (0 : Int)).5, (mk (0 : Int)).6, (mk (0 : Int)).7,
                                                  (mk (0 : Int)).8, (mk (0 : Int)).9, (mk (0 : Int)).10,
                                                  (mk (0 : Int)).11, (mk (0 : Int)).12])
                                              (IntKind.i64.wrap ((↑l.length : Int) + (1 : Int))).toNat (0 : Nat)
                                              (12 : Nat)
                                              [(mk (1 : Int)).1, (mk (1 : Int)).2, (mk (1 : Int)).3, (mk (1 : Int)).4,
                                                (mk (1 : Int)).5, (mk (1 : Int)).6, (mk (1 : Int)).7, (mk (1 : Int)).8,
                                                (mk (1 : Int)).9, (mk (1 : Int)).10, (mk (1 : Int)).11,
                                                (mk (1 : Int)).12]).getD
                                          ((0 : Nat) + (↑l.length : Int).toNat) [])
                                        ((0 : Nat) + (1 : Nat) + (1 : Nat) + (1 : Nat) + (1 : Nat) + (1 : Nat) +
                                                  (1 : Nat) +
                                                (1 : Nat) +
                                              (1 : Nat) +
                                            (1 : Nat) +
                                          (1 : Nat))
                                        (0 : Int) ==
                                      (mk (0 : Int)).11 &&
                                    true) &&
                                (List.getD
                                      ((stR
                                            (stR
                                              (cpR
                                                (List.replicate (IntKind.i64.wrap ((↑l.length : Int) + (2 : Int))).toNat
                                                  [(0 : Int), (0 : Int), (0 : Int), (0 : Int), (0 : Int), (0 : Int),
                                                    (0 : Int), (0 : Int), (0 : Int), (0 : Int), (0 : Int), (0 : Int)])
                                                (List.take l.length (List.drop (0 : Nat) l)) (0 : Nat)
                                                (List.replicate (IntKind.i64.wrap ((↑l.length : Int) + (2 : Int))).toNat
                                                    [(0 : Int), (0 : Int), (0 : Int), (0 : Int), (0 : Int), (0 : Int),
                                                      (0 : Int), (0 : Int), (0 : Int), (0 : Int), (0 : Int),
                                                      (0 : Int)]).length)
                                              (↑l.length : Int).toNat (0 : Nat) (12 : Nat)
                                              [(mk (0 : Int)).1, (mk (0 : Int)).2, (mk (0 : Int)).3, (mk (0 : Int)).4,
                                                (mk (0 : Int)).5, (mk (0 : Int)).6, (mk (0 : Int)).7, (mk (0 : Int)).8,
                                                (mk (0 : Int)).9, (mk (0 : Int)).10, (mk (0 : Int)).11,
                                                (mk (0 : Int)).12])
                                            (IntKind.i64.wrap ((↑l.length : Int) + (1 : Int))).toNat (0 : Nat)
                                            (12 : Nat)
                                            [(mk (1 : Int)).1, (mk (1 : Int)).2, (mk (1 : Int)).3, (mk (1 : Int)).4,
                                              (mk (1 : Int)).5, (mk (1 : Int)).6, (mk (1 : Int)).7, (mk (1 : Int)).8,
                                              (mk (1 : Int)).9, (mk (1 : Int)).10, (mk (1 : Int)).11,
                                              (mk (1 : Int)).12]).getD
                                        ((0 : Nat) + (↑l.length : Int).toNat) [])
                                      ((0 : Nat) + (1 : Nat) + (1 : Nat) + (1 : Nat) + (1 : Nat) + (1 : Nat) +
                                                  (1 : Nat) +
                                                (1 : Nat) +
                                              (1 : Nat) +
                                            (1 : Nat) +
                                          (1 : Nat) +
                                        (1 : Nat))
                                      (0 : Int) ==
                                    (mk (0 : Int)).12 &&
                                  true)))))))
                    (GT.br
                      (decide
                        ((0 : Int) ≤ IntKind.i64.wrap ((↑l.length : Int) + (1 : Int)) ∧
                          IntKind.i64.wrap ((↑l.length : Int) + (1 : Int)) <
                            (↑(IntKind.i64.wrap ((↑l.length : Int) + (2 : Int))).toNat : Int)))
                      (GT.br
                        (List.getD
                              ((stR
                                    (stR
                                      (cpR
                                        (List.replicate (IntKind.i64.wrap ((↑l.length : Int) + (2 : Int))).toNat
                                          [(0 : Int), (0 : Int), (0 : Int), (0 : Int), (0 : Int), (0 : Int), (0 : Int),
                                            (0 : Int), (0 : Int), (0 : Int), (0 : Int), (0 : Int)])
                                        (List.take l.length (List.drop (0 : Nat) l)) (0 : Nat)
                                        (List.replicate (IntKind.i64.wrap ((↑l.length : Int) + (2 : Int))).toNat
                                            [(0 : Int), (0 : Int), (0 : Int), (0 : Int), (0 : Int), (0 : Int),
                                              (0 : Int), (0 : Int), (0 : Int), (0 : Int), (0 : Int), (0 : Int)]).length)
                                      (↑l.length : Int).toNat (0 : Nat) (12 : Nat)
                                      [(mk (0 : Int)).1, (mk (0 : Int)).2, (mk (0 : Int)).3, (mk (0 : Int)).4,
                                        (mk (0 : Int)).5, (mk (0 : Int)).6, (mk (0 : Int)).7, (mk (0 : Int)).8,
                                        (mk (0 : Int)).9, (mk (0 : Int)).10, (mk (0 : Int)).11, (mk (0 : Int)).12])
                                    (IntKind.i64.wrap ((↑l.length : Int) + (1 : Int))).toNat (0 : Nat) (12 : Nat)
                                    [(mk (1 : Int)).1, (mk (1 : Int)).2, (mk (1 : Int)).3, (mk (1 : Int)).4,
                                      (mk (1 : Int)).5, (mk (1 : Int)).6, (mk (1 : Int)).7, (mk (1 : Int)).8,
                                      (mk (1 : Int)).9, (mk (1 : Int)).10, (mk (1 : Int)).11, (mk (1 : Int)).12]).getD
                                ((0 : Nat) + (IntKind.i64.wrap ((↑l.length : Int) + (1 : Int))).toNat) [])
                              (0 : Nat) (0 : Int) ==
                            (mk (1 : Int)).1 &&
                          (List.getD
                                  ((stR
                                        (stR
                                          (cpR
                                            (List.replicate (IntKind.i64.wrap ((↑l.length : Int) + (2 : Int))).toNat
                                              [(0 : Int), (0 : Int), (0 : Int), (0 : Int), (0 : Int), (0 : Int),
                                                (0 : Int), (0 : Int), (0 : Int), (0 : Int), (0 : Int), (0 : Int)])
                                            (List.take l.length (List.drop (0 : Nat) l)) (0 : Nat)
                                            (List.replicate (IntKind.i64.wrap ((↑l.length : Int) + (2 : Int))).toNat
                                                [(0 : Int), (0 : Int), (0 : Int), (0 : Int), (0 : Int), (0 : Int),
                                                  (0 : Int), (0 : Int), (0 : Int), (0 : Int), (0 : Int),
                                                  (0 : Int)]).length)
                                          (↑l.length : Int).toNat (0 : Nat) (12 : Nat)
                                          [(mk (0 : Int)).1, (mk (0 : Int)).2, (mk (0 : Int)).3, (mk (0 : Int)).4,
                                            (mk (0 : Int)).5, (mk (0 : Int)).6, (mk (0 : Int)).7, (mk (0 : Int)).8,
                                            (mk (0 : Int)).9, (mk (0 : Int)).10, (mk (0 : Int)).11, (mk (0 : Int)).12])
                                        (IntKind.i64.wrap ((↑l.length : Int) + (1 : Int))).toNat (0 : Nat) (12 : Nat)
                                        [(mk (1 : Int)).1, (mk (1 : Int)).2, (mk (1 : Int)).3, (mk (1 : Int)).4,
                                          (mk (1 : Int)).5, (mk (1 : Int)).6, (mk (1 : Int)).7, (mk (1 : Int)).8,
                                          (mk (1 : Int)).9, (mk (1 : Int)).10, (mk (1 : Int)).11,
                                          (mk (1 : Int)).12]).getD
                                    ((0 : Nat) + (IntKind.i64.wrap ((↑l.length : Int) + (1 : Int))).toNat) [])
                                  ((0 : Nat) + (1 : Nat)) (0 : Int) ==
                                (mk (1 : Int)).2 &&
                              (List.getD
                                    ((stR
                                          (stR
                                            (cpR
                                              (List.replicate (IntKind.i64.wrap ((↑l.length : Int) + (2 : Int))).toNat
                                                [(0 : Int), (0 : Int), (0 : Int), (0 : Int), (0 : Int), (0 : Int),
                                                  (0 : Int), (0 : Int), (0 : Int), (0 : Int), (0 : Int), (0 : Int)])
                                              (List.take l.length (List.drop (0 : Nat) l)) (0 : Nat)
                                              (List.replicate (IntKind.i64.wrap ((↑l.length : Int) + (2 : Int))).toNat
                                                  [(0 : Int), (0 : Int), (0 : Int), (0 : Int), (0 : Int), (0 : Int),
                                                    (0 : Int), (0 : Int), (0 : Int), (0 : Int), (0 : Int),
                                                    (0 : Int)]).length)
                                            (↑l.length : Int).toNat (0 : Nat) (12 : Nat)
                                            [(mk (0 : Int)).1, (mk (0 : Int)).2, (mk (0 : Int)).3, (mk (0 : Int)).4,
                                              (mk (0 : Int)).5, (mk (0 : Int)).6, (mk (0 : Int)).7, (mk (0 : Int)).8,
                                              (mk (0 : Int)).9, (mk (0 : Int)).10, (mk (0 : Int)).11,
                                              (mk (0 : Int)).12])
                                          (IntKind.i64.wrap ((↑l.length : Int) + (1 : Int))).toNat (0 : Nat) (12 : Nat)
                                          [(mk (1 : Int)).1, (mk (1 : Int)).2, (mk (1 : Int)).3, (mk (1 : Int)).4,
                                            (mk (1 : Int)).5, (mk (1 : Int)).6, (mk (1 : Int)).7, (mk (1 : Int)).8,
                                            (mk (1 : Int)).9, (mk (1 : Int)).10, (mk (1 : Int)).11,
                                            (mk (1 : Int)).12]).getD
                                      ((0 : Nat) + (IntKind.i64.wrap ((↑l.length : Int) + (1 : Int))).toNat) [])
                                    ((0 : Nat) + (1 : Nat) + (1 : Nat)) (0 : Int) ==
                                  (mk (1 : Int)).3 &&
                                true) &&
                            (List.getD
                                    ((stR
                                          (stR
                                            (cpR
                                              (List.replicate (IntKind.i64.wrap ((↑l.length : Int) + (2 : Int))).toNat
                                                [(0 : Int), (0 : Int), (0 : Int), (0 : Int), (0 : Int), (0 : Int),
                                                  (0 : Int), (0 : Int), (0 : Int), (0 : Int), (0 : Int), (0 : Int)])
                                              (List.take l.length (List.drop (0 : Nat) l)) (0 : Nat)
                                              (List.replicate (IntKind.i64.wrap ((↑l.length : Int) + (2 : Int))).toNat
                                                  [(0 : Int), (0 : Int), (0 : Int), (0 : Int), (0 : Int), (0 : Int),
                                                    (0 : Int), (0 : Int), (0 : Int), (0 : Int), (0 : Int),
                                                    (0 : Int)]).length)
                                            (↑l.length : Int).toNat (0 : Nat) (12 : Nat)
                                            [(mk (0 : Int)).1, (mk (0 : Int)).2, (mk (0 : Int)).3, (mk (0 : Int)).4,
                                              (mk (0 : Int)).5, (mk (0 : Int)).6, (mk (0 : Int)).7, (mk (0 : Int)).8,
                                              (mk (0 : Int)).9, (mk (0 : Int)).10, (mk (0 : Int)).11,
                                              (mk (0 : Int)).12])
                                          (IntKind.i64.wrap ((↑l.length : Int) + (1 : Int))).toNat (0 : Nat) (12 : Nat)
                                          [(mk (1 : Int)).1, (mk (1 : Int)).2, (mk (1 : Int)).3, (mk (1 : Int)).4,
                                            (mk (1 : Int)).5, (mk (1 : Int)).6, (mk (1 : Int)).7, (mk (1 : Int)).8,
                                            (mk (1 : Int)).9, (mk (1 : Int)).10, (mk (1 : Int)).11,
                                            (mk (1 : Int)).12]).getD
                                      ((0 : Nat) + (IntKind.i64.wrap ((↑l.length : Int) + (1 : Int))).toNat) [])
                                    ((0 : Nat) + (1 : Nat) + (1 : Nat) + (1 : Nat)) (0 : Int) ==
                                  (mk (1 : Int)).4 &&
                                (List.getD
                                      ((stR
                                            (stR
                                              (cpR
                                                (List.replicate (IntKind.i64.wrap ((↑l.length : Int) + (2 : Int))).toNat
                                                  [(0 : Int), (0 : Int), (0 : Int), (0 : Int), (0 : Int), (0 : Int),
                                                    (0 : Int), (0 : Int), (0 : Int), (0 : Int), (0 : Int), (0 : Int)])
                                                (List.take l.length (List.drop (0 : Nat) l)) (0 : Nat)
                                                (List.replicate (IntKind.i64.wrap ((↑l.length : Int) + (2 : Int))).toNat
                                                    [(0 : Int), (0 : Int), (0 : Int), (0 : Int), (0 : Int), (0 : Int),
                                                      (0 : Int), (0 : Int), (0 : Int), (0 : Int), (0 : Int),
                                                      (0 : Int)]).length)
                                              (↑l.length : Int).toNat (0 : Nat) (12 : Nat)
                                              [(mk (0 : Int)).1, (mk (0 : Int)).2, (mk (0 : Int)).3, (mk (0 : Int)).4,
                                                (mk (0 : Int)).5, (mk (0 : Int)).6, (mk (0 : Int)).7, (mk (0 : Int)).8,
                                                (mk (0 : Int)).9, (mk (0 : Int)).10, (mk (0 : Int)).11,
                                                (mk (0 : Int)).12])
                                            (IntKind.i64.wrap ((↑l.length : Int) + (1 : Int))).toNat (0 : Nat)
                                            (12 : Nat)
                                            [(mk (1 : Int)).1, (mk (1 : Int)).2, (mk (1 : Int)).3, (mk (1 : Int)).4,
                                              (mk (1 : Int)).5, (mk (1 : Int)).6, (mk (1 : Int)).7, (mk (1 : Int)).8,
                                              (mk (1 : Int)).9, (mk (1 : Int)).10, (mk (1 : Int)).11,
                                              (mk (1 : Int)).12]).getD
                                        ((0 : Nat) + (IntKind.i64.wrap ((↑l.length : Int) + (1 : Int))).toNat) [])
                                      ((0 : Nat) + (1 : Nat) + (1 : Nat) + (1 : Nat) + (1 : Nat)) (0 : Int) ==
                                    (mk (1 : Int)).5 &&
                                  true) &&
                              (List.getD
                                      ((stR
                                            (stR
                                              (cpR
                                                (List.replicate (IntKind.i64.wrap ((↑l.length : Int) + (2 : Int))).toNat
                                                  [(0 : Int), (0 : Int), (0 : Int), (0 : Int), (0 : Int), (0 : Int),
                                                    (0 : Int), (0 : Int), (0 : Int), (0 : Int), (0 : Int), (0 : Int)])
                                                (List.take l.length (List.drop (0 : Nat) l)) (0 : Nat)
                                                (List.replicate (IntKind.i64.wrap ((↑l.length : Int) + (2 : Int))).toNat
                                                    [(0 : Int), (0 : Int), (0 : Int), (0 : Int), (0 : Int), (0 : Int),
                                                      (0 : Int), (0 : Int), (0 : Int), (0 : Int), (0 : Int),
                                                      (0 : Int)]).length)
                                              (↑l.length : Int).toNat (0 : Nat) (12 : Nat)
                                              [(mk (0 : Int)).1, (mk (0 : Int)).2, (mk (0 : Int)).3, (mk (0 : Int)).4,
                                                (mk (0 : Int)).5, (mk (0 : Int)).6, (mk (0 : Int)).7, (mk (0 : Int)).8,
                                                (mk (0 : Int)).9, (mk (0 : Int)).10, (mk (0 : Int)).11,
                                                (mk (0 : Int)).12])
                                            (IntKind.i64.wrap ((↑l.length : Int) + (1 : Int))).toNat (0 : Nat)
                                            (12 : Nat)
                                            [(mk (1 : Int)).1, (mk (1 : Int)).2, (mk (1 : Int)).3, (mk (1 : Int)).4,
                                              (mk (1 : Int)).5, (mk (1 : Int)).6, (mk (1 : Int)).7, (mk (1 : Int)).8,
                                              (mk (1 : Int)).9, (mk (1 : Int)).10, (mk (1 : Int)).11,
                                              (mk (1 : Int)).12]).getD
                                        ((0 : Nat) + (IntKind.i64.wrap ((↑l.length : Int) + (1 : Int))).toNat) [])
                                      ((0 : Nat) + (1 : Nat) + (1 : Nat) + (1 : Nat) + (1 : Nat) + (1 : Nat))
                                      (0 : Int) ==
                                    (mk (1 : Int)).6 &&
                                  (List.getD
                                        ((stR
                                              (stR
                                                (cpR
                                                  (List.replicate
                                                    (IntKind.i64.wrap ((↑l.length : Int) + (2 : Int))).toNat
                                                    [(0 : Int), (0 : Int), (0 : Int), (0 : Int), (0 : Int), (0 : Int),
                                                      (0 : Int), (0 : Int), (0 : Int), (0 : Int), (0 : Int), (0 : Int)])
                                                  (List.take l.length (List.drop (0 : Nat) l)) (0 : Nat)
                                                  (List.replicate
                                                      (IntKind.i64.wrap ((↑l.length : Int) + (2 : Int))).toNat
                                                      [(0 : Int), (0 : Int), (0 : Int), (0 : Int), (0 : Int), (0 : Int),
                                                        (0 : Int), (0 : Int), (0 : Int), (0 : Int), (0 : Int),
                                                        (0 : Int)]).length)
                                                (↑l.length : Int).toNat (0 : Nat) (12 : Nat)
                                                [(mk (0 : Int)).1, (mk (0 : Int)).2, (mk (0 : Int)).3, (mk (0 : Int)).4,
                                                  (mk (0 : Int)).5, (mk (0 : Int)).6, (mk (0 : Int)).7,
                                                  (mk (0 : Int)).8, (mk (0 : Int)).9, (mk (0 : Int)).10,
                                                  (mk (0 : Int)).11, (mk (0 : Int)).12])
                                              (IntKind.i64.wrap ((↑l.length : Int) + (1 : Int))).toNat (0 : Nat)
                                              (12 : Nat)
                                              [(mk (1 : Int)).1, (mk (1 : Int)).2, (mk (1 : Int)).3, (mk (1 : Int)).4,
                                                (mk (1 : Int)).5, (mk (1 : Int)).6, (mk (1 : Int)).7, (mk (1 : Int)).8,
                                                (mk (1 : Int)).9, (mk (1 : Int)).10, (mk (1 : Int)).11,
                                                (mk (1 : Int)).12]).getD
                                          ((0 : Nat) + (IntKind.i64.wrap ((↑l.length : Int) + (1 : Int))).toNat) [])
                                        ((0 : Nat) + (1 : Nat) + (1 : Nat) + (1 : Nat) + (1 : Nat) + (1 : Nat) +
                                          (1 : Nat))
                                        (0 : Int) ==
                                      (mk (1 : Int)).7 &&
                                    true) &&
                                (List.getD
                                        ((stR
                                              (stR
                                                (cpR
                                                  (List.replicate
                                                    (IntKind.i64.wrap ((↑l.length : Int) + (2 : Int))).toNat
                                                    [(0 : Int), (0 : Int), (0 : Int), (0 : Int), (0 : Int), (0 : Int),
                                                      (0 : Int), (0 : Int), (0 : Int), (0 : Int), (0 : Int), (0 : Int)])
                                                  (List.take l.length (List.drop (0 : Nat) l)) (0 : Nat)
                                                  (List.replicate
                                                      (IntKind.i64.wrap ((↑l.length : Int) + (2 : Int))).toNat
                                                      [(0 : Int), (0 : Int), (0 : Int), (0 : Int), (0 : Int), (0 : Int),
                                                        (0 : Int), (0 : Int), (0 : Int), (0 : Int), (0 : Int),
                                                        (0 : Int)]).length)
                                                (↑l.length : Int).toNat (0 : Nat) (12 : Nat)
                                                [(mk (0 : Int)).1, (mk (0 : Int)).2, (mk (0 : Int)).3, (mk (0 : Int)).4,
                                                  (mk (0 : Int)).5, (mk (0 : Int)).6, (mk (0 : Int)).7,
                                                  (mk (0 : Int)).8, (mk (0 : Int)).9, (mk (0 : Int)).10,
                                                  (mk (0 : Int)).11, (mk (0 : Int)).12])
                                              (IntKind.i64.wrap ((↑l.length : Int) + (1 : Int))).toNat (0 : Nat)
                                              (12 : Nat)
                                              [(mk (1 : Int)).1, (mk (1 : Int)).2, (mk (1 : Int)).3, (mk (1 : Int)).4,
                                                (mk (1 : Int)).5, (mk (1 : Int)).6, (mk (1 : Int)).7, (mk (1 : Int)).8,
                                                (mk (1 : Int)).9, (mk (1 : Int)).10, (mk (1 : Int)).11,
                                                (mk (1 : Int)).12]).getD
                                          ((0 : Nat) + (IntKind.i64.wrap ((↑l.length : Int) + (1 : Int))).toNat) [])
                                        ((0 : Nat) + (1 : Nat) + (1 : Nat) + (1 : Nat) + (1 : Nat) + (1 : Nat) +
                                            (1 : Nat) +
                                          (1 : Nat))
                                        (0 : Int) ==
                                      (mk (1 : Int)).8 &&
                                    (List.getD
                                          ((stR
                                                (stR
                                                  (cpR
                                                    (List.replicate
                                                      (IntKind.i64.wrap ((↑l.length : Int) + (2 : Int))).toNat
                                                      [(0 : Int), (0 : Int), (0 : Int), (0 : Int), (0 : Int), (0 : Int),
                                                        (0 : Int), (0 : Int), (0 : Int), (0 : Int), (0 : Int),
                                                        (0 : Int)])
                                                    (List.take l.length (List.drop (0 : Nat) l)) (0 : Nat)
                                                    (List.replicate
                                                        (IntKind.i64.wrap ((↑l.length : Int) + (2 : Int))).toNat
                                                        [(0 : Int), (0 : Int), (0 : Int), (0 : Int), (0 : Int),
                                                          (0 : Int), (0 : Int), (0 : Int), (0 : Int), (0 : Int),
                                                          (0 : Int), (0 : Int)]).length)
                                                  (↑l.length : Int).toNat (0 : Nat) (12 : Nat)
                                                  [(mk (0 : Int)).1, (mk (0 : Int)).2, (mk (0 : Int)).3,
                                                    (mk (0 : Int)).4, (mk (0 : Int)).5, (mk (0 : Int)).6,
                                                    (mk (0 : Int)).7, (mk (0 : Int)).8, (mk (0 : Int)).9,
                                                    (mk (0 : Int)).10, (mk (0 : Int)).11, (mk (0 : Int)).12])
                                                (IntKind.i64.wrap ((↑l.length : Int) + (1 : Int))).toNat (0 : Nat)
                                                (12 : Nat)
                                                [(mk (1 : Int)).1, (mk (1 : Int)).2, (mk (1 : Int)).3, (mk (1 : Int)).4,
                                                  (mk (1 : Int)).5, (mk (1 : Int)).6, (mk (1 : Int)).7,
                                                  (mk (1 : Int)).8, (mk (1 : Int)).9, (mk (1 : Int)).10,
                                                  (mk (1 : Int)).11, (mk (1 : Int)).12]).getD
                                            ((0 : Nat) + (IntKind.i64.wrap ((↑l.length : Int) + (1 : Int))).toNat) [])
                                          ((0 : Nat) + (1 : Nat) + (1 : Nat) + (1 : Nat) + (1 : Nat) + (1 : Nat) +
                                                (1 : Nat) +
                                              (1 : Nat) +
                                            (1 : Nat))
                                          (0 : Int) ==
                                        (mk (1 : Int)).9 &&
                                      true) &&
                                  (List.getD
                                          ((stR
                                                (stR
                                                  (cpR
                                                    (List.replicate
                                                      (IntKind.i64.wrap ((↑l.length : Int) + (2 : Int))).toNat
                                                      [(0 : Int), (0 : Int), (0 : Int), (0 : Int), (0 : Int), (0 : Int),
                                                        (0 : Int), (0 : Int), (0 : Int), (0 : Int), (0 : Int),
                                                        (0 : Int)])
                                                    (List.take l.length (List.drop (0 : Nat) l)) (0 : Nat)
                                                    (List.replicate
                                                        (IntKind.i64.wrap ((↑l.length : Int) + (2 : Int))).toNat
                                                        [(0 : Int), (0 : Int), (0 : Int), (0 : Int), (0 : Int),
                                                          (0 : Int), (0 : Int), (0 : Int), (0 : Int), (0 : Int),
                                                          (0 : Int), (0 : Int)]).length)
                                                  (↑l.length : Int).toNat (0 : Nat) (12 : Nat)
                                                  [(mk (0 : Int)).1, (mk (0 : Int)).2, (mk (0 : Int)).3,
                                                    (mk (0 : Int)).4, (mk (0 : Int)).5, (mk (0 : Int)).6,
                                                    (mk (0 : Int)).7, (mk (0 : Int)).8, (mk (0 : Int)).9,
                                                    (mk (0 : Int)).10, (mk (0 : Int)).11, (mk (0 : Int)).12])
                                                (IntKind.i64.wrap ((↑l.length : Int) + (1 : Int))).toNat (0 : Nat)
                                                (12 : Nat)
                                                [(mk (1 : Int)).1, (mk (1 : Int)).2, (mk (1 : Int)).3, (mk (1 : Int)).4,
                                                  (mk (1 : Int)).5, (mk (1 : Int)).6, (mk (1 : Int)).7,
                                                  (mk (1 : Int)).8, (mk (1 : Int)).9, (mk (1 : Int)).10,
                                                  (mk (1 : Int)).11, (mk (1 : Int)).12]).getD
                                            ((0 : Nat) + (IntKind.i64.wrap ((↑l.length : Int) + (1 : Int))).toNat) [])
                                          ((0 : Nat) + (1 : Nat) + (1 : Nat) + (1 : Nat) + (1 : Nat) + (1 : Nat) +
                                                  (1 : Nat) +
                                                (1 : Nat) +
                                              (1 : Nat) +
                                            (1 : Nat))
                                          (0 : Int) ==
                                        (mk (1 : Int)).10 &&
                                      (List.getD
                                            ((stR
                                                  (stR
                                                    (cpR
                                                      (List.replicate
                                                        (IntKind.i64.wrap ((↑l.length : Int) + (2 : Int))).toNat
                                                        [(0 : Int), (0 : Int), (0 : Int), (0 : Int), (0 : Int),
                                                          (0 : Int), (0 : Int), (0 : Int), (0 : Int), (0 : Int),
                                                          (0 : Int), (0 : Int)])
                                                      (List.take l.length (List.drop (0 : Nat) l)) (0 : Nat)
                                                      (List.replicate
                                                          (IntKind.i64.wrap ((↑l.length : Int) + (2 : Int))).toNat
                                                          [(0 : Int), (0 : Int), (0 : Int), (0 : Int), (0 : Int),
                                                            (0 : Int), (0 : Int), (0 : Int), (0 : Int), (0 : Int),
                                                            (0 : Int), (0 : Int)]).length)
                                                    (↑l.length : Int).toNat (0 : Nat) (12 : Nat)
                                                    [(mk (0 : Int)).1, (mk (0 : Int)).2, (mk (0 : Int)).3,
                                                      (mk (0 : Int)).4, (mk (0 : Int)).5, (mk (0 : Int)).6,
                                                      (mk (0 : Int)).7, (mk (0 : Int)).8, (mk (0 : Int)).9,
                                                      (mk (0 : Int)).10, (mk (0 : Int)).11, (mk (0 : Int)).12])
                                                  (IntKind.i64.wrap ((↑l.length : Int) + (1 : Int))).toNat (0 : Nat)
                                                  (12 : Nat)
                                                  [(mk (1 : Int)).1, (mk (1 : Int)).2, (mk (1 : Int)).3,
                                                    (mk (1 : Int)).4, (mk (1 : Int)).5, (mk (1 : Int)).6,
                                                    (mk (1 : Int)).7, (mk (1 : Int)).8, (mk (1 : Int)).9,
                                                    (mk (1 : Int)).10, (mk (1 : Int)).11, (mk (1 : Int)).12]).getD
                                              ((0 : Nat) + (IntKind.i64.wrap ((↑l.length : Int) + (1 : Int))).toNat) [])
                                            ((0 : Nat) + (1 : Nat) + (1 : Nat) + (1 : Nat) + (1 : Nat) + (1 : Nat) +
                                                      (1 : Nat) +
                                                    (1 : Nat) +
                                                  (1 : Nat) +
                                                (1 : Nat) +
                                              (1 : Nat))
                                            (0 : Int) ==
                                          (mk (1 : Int)).11 &&
                                        true) &&
                                    (List.getD
                                          ((stR
                                                (stR
                                                  (cpR
                                                    (List.replicate
                                                      (IntKind.i64.wrap ((↑l.length : Int) + (2 : Int))).toNat
                                                      [(0 : Int), (0 : Int), (0 : Int), (0 : Int), (0 : Int), (0 : Int),
                                                        (0 : Int), (0 : Int), (0 : Int), (0 : Int), (0 : Int),
                                                        (0 : Int)])
                                                    (List.take l.length (List.drop (0 : Nat) l)) (0 : Nat)
                                                    (List.replicate
                                                        (IntKind.i64.wrap ((↑l.length : Int) + (2 : Int))).toNat
                                                        [(0 : Int), (0 : Int), (0 : Int), (0 : Int), (0 : Int),
                                                          (0 : Int), (0 : Int), (0 : Int), (0 : Int), (0 : Int),
                                                          (0 : Int), (0 : Int)]).length)
                                                  (↑l.length : Int).toNat (0 : Nat) (12 : Nat)
                                                  [(mk (0 : Int)).1, (mk (0 : Int)).2, (mk (0 : Int)).3,
                                                    (mk (0 : Int)).4, (mk (0 : Int)).5, (mk (0 : Int)).6,
                                                    (mk (0 : Int)).7, (mk (0 : Int)).8, (mk (0 : Int)).9,
                                                    (mk (0 : Int)).10, (mk (0 : Int)).11, (mk (0 : Int)).12])
                                                (IntKind.i64.wrap ((↑l.length : Int) + (1 : Int))).toNat (0 : Nat)
                                                (12 : Nat)
                                                [(mk (1 : Int)).1, (mk (1 : Int)).2, (mk (1 : Int)).3, (mk (1 : Int)).4,
                                                  (mk (1 : Int)).5, (mk (1 : Int)).6, (mk (1 : Int)).7,
                                                  (mk (1 : Int)).8, (mk (1 : Int)).9, (mk (1 : Int)).10,
                                                  (mk (1 : Int)).11, (mk (1 : Int)).12]).getD
                                            ((0 : Nat) + (IntKind.i64.wrap ((↑l.length : Int) + (1 : Int))).toNat) [])
                                          ((0 : Nat) + (1 : Nat) + (1 : Nat) + (1 : Nat) + (1 : Nat) + (1 : Nat) +
                                                      (1 : Nat) +
                                                    (1 : Nat) +
                                                  (1 : Nat) +
                                                (1 : Nat) +
                                              (1 : Nat) +
                                            (1 : Nat))
                                          (0 : Int) ==
                                        (mk (1 : Int)).12 &&
                                      true)))))))
                        (GT.br
                          (ok
                            (stR
                              (stR
                                (cpR
                                  (List.replicate (IntKind.i64.wrap ((↑l.length : Int) + (2 : Int))).toNat
                                    [(0 : Int), (0 : Int), (0 : Int), (0 : Int), (0 : Int), (0 : Int), (0 : Int),
                                      (0 : Int), (0 : Int), (0 : Int), (0 : Int), (0 : Int)])
                                  (List.take l.length (List.drop (0 : Nat) l)) (0 : Nat)
                                  (List.replicate (IntKind.i64.wrap ((↑l.length : Int) + (2 : Int))).toNat
                                      [(0 : Int), (0 : Int), (0 : Int), (0 : Int), (0 : Int), (0 : Int), (0 : Int),
                                        (0 : Int), (0 : Int), (0 : Int), (0 : Int), (0 : Int)]).length)
                                (↑l.length : Int).toNat (0 : Nat) (12 : Nat)
                                [(mk (0 : Int)).1, (mk (0 : Int)).2, (mk (0 : Int)).3, (mk (0 : Int)).4,
                                  (mk (0 : Int)).5, (mk (0 : Int)).6, (mk (0 : Int)).7, (mk (0 : Int)).8,
                                  (mk (0 : Int)).9, (mk (0 : Int)).10, (mk (0 : Int)).11, (mk (0 : Int)).12])
                              (IntKind.i64.wrap ((↑l.length : Int) + (1 : Int))).toNat (0 : Nat) (12 : Nat)
                              [(mk (1 : Int)).1, (mk (1 : Int)).2, (mk (1 : Int)).3, (mk (1 : Int)).4, (mk (1 : Int)).5,
                                (mk (1 : Int)).6, (mk (1 : Int)).7, (mk (1 : Int)).8, (mk (1 : Int)).9,
                                (mk (1 : Int)).10, (mk (1 : Int)).11, (mk (1 : Int)).12])
                            (IntKind.i64.wrap ((↑l.length : Int) + (2 : Int))).toNat (0 : Int))
                          (GT.leaf
                            (SV.bool
                              (s1
                                        (pv
                                          (List.take (↑l.length : Int).toNat
                                            (List.drop (0 : Nat)
                                              (stR
                                                (stR
                                                  (cpR
                                                    (List.replicate
                                                      (IntKind.i64.wrap ((↑l.length : Int) + (2 : Int))).toNat
                                                      [(0 : Int), (0 : Int), (0 : Int), (0 : Int), (0 : Int), (0 : Int),
                                                        (0 : Int), (0 : Int), (0 : Int), (0 : Int), (0 : Int),
                                                        (0 : Int)])
                                                    (List.take l.length (List.drop (0 : Nat) l)) (0 : Nat)
                                                    (List.replicate
                                                        (IntKind.i64.wrap ((↑l.length : Int) + (2 : Int))).toNat
                                                        [(0 : Int), (0 : Int), (0 : Int), (0 : Int), (0 : Int),
                                                          (0 : Int), (0 : Int), (0 : Int), (0 : Int), (0 : Int),
                                                          (0 : Int), (0 : Int)]).length)
                                                  (↑l.length : Int).toNat (0 : Nat) (12 : Nat)
                                                  [(mk (0 : Int)).1, (mk (0 : Int)).2, (mk (0 : Int)).3,
                                                    (mk (0 : Int)).4, (mk (0 : Int)).5, (mk (0 : Int)).6,
                                                    (mk (0 : Int)).7, (mk (0 : Int)).8, (mk (0 : Int)).9,
                                                    (mk (0 : Int)).10, (mk (0 : Int)).11, (mk (0 : Int)).12])
                                                (IntKind.i64.wrap ((↑l.length : Int) + (1 : Int))).toNat (0 : Nat)
                                                (12 : Nat)
                                                [(mk (1 : Int)).1, (mk (1 : Int)).2, (mk (1 : Int)).3, (mk (1 : Int)).4,
                                                  (mk (1 : Int)).5, (mk (1 : Int)).6, (mk (1 : Int)).7,
                                                  (mk (1 : Int)).8, (mk (1 : Int)).9, (mk (1 : Int)).10,
                                                  (mk (1 : Int)).11, (mk (1 : Int)).12]))))
                                        (pv (List.take l.length (List.drop (0 : Nat) l))) &&
                                      s1
                                        (pv
                                          (List.take (↑l.length : Int).toNat
                                            (List.drop (0 : Nat)
                                              (stR
                                                (stR
                                                  (cpR
                                                    (List.replicate
                                                      (IntKind.i64.wrap ((↑l.length : Int) + (2 : Int))).toNat
                                                      [(0 : Int), (0 : Int), (0 : Int), (0 : Int), (0 : Int), (0 : Int),
                                                        (0 : Int), (0 : Int), (0 : Int), (0 : Int), (0 : Int),
                                                        (0 : Int)])
                                                    (List.take l.length (List.drop (0 : Nat) l)) (0 : Nat)
                                                    (List.replicate
                                                        (IntKind.i64.wrap ((↑l.length : Int) + (2 : Int))).toNat
                                                        [(0 : Int), (0 : Int), (0 : Int), (0 : Int), (0 : Int),
                                                          (0 : Int), (0 : Int), (0 : Int), (0 : Int), (0 : Int),
                                                          (0 : Int), (0 : Int)]).length)
                                                  (↑l.length : Int).toNat (0 : Nat) (12 : Nat)
                                                  [(mk (0 : Int)).1, (mk (0 : Int)).2, (mk (0 : Int)).3,
                                                    (mk (0 : Int)).4, (mk (0 : Int)).5, (mk (0 : Int)).6,
                                                    (mk (0 : Int)).7, (mk (0 : Int)).8, (mk (0 : Int)).9,
                                                    (mk (0 : Int)).10, (mk (0 : Int)).11, (mk (0 : Int)).12])
                                                (IntKind.i64.wrap ((↑l.length : Int) + (1 : Int))).toNat (0 : Nat)
                                                (12 : Nat)
                                                [(mk (1 : Int)).1, (mk (1 : Int)).2, (mk (1 : Int)).3, (mk (1 : Int)).4,
                                                  (mk (1 : Int)).5, (mk (1 : Int)).6, (mk (1 : Int)).7,
                                                  (mk (1 : Int)).8, (mk (1 : Int)).9, (mk (1 : Int)).10,
                                                  (mk (1 : Int)).11, (mk (1 : Int)).12]))))
                                        (pv (List.take l.length (List.drop (0 : Nat) l))) &&
                                    ch
                                        (List.take (↑l.length : Int).toNat
                                          (List.drop (0 : Nat)
                                            (stR
                                              (stR
                                                (cpR
                                                  (List.replicate
                                                    (IntKind.i64.wrap ((↑l.length : Int) + (2 : Int))).toNat
                                                    [(0 : Int), (0 : Int), (0 : Int), (0 : Int), (0 : Int), (0 : Int),
                                                      (0 : Int), (0 : Int), (0 : Int), (0 : Int), (0 : Int), (0 : Int)])
                                                  (List.take l.length (List.drop (0 : Nat) l)) (0 : Nat)
                                                  (List.replicate
                                                      (IntKind.i64.wrap ((↑l.length : Int) + (2 : Int))).toNat
                                                      [(0 : Int), (0 : Int), (0 : Int), (0 : Int), (0 : Int), (0 : Int),
                                                        (0 : Int), (0 : Int), (0 : Int), (0 : Int), (0 : Int),
                                                        (0 : Int)]).length)
                                                (↑l.length : Int).toNat (0 : Nat) (12 : Nat)
                                                [(mk (0 : Int)).1, (mk (0 : Int)).2, (mk (0 : Int)).3, (mk (0 : Int)).4,
                                                  (mk (0 : Int)).5, (mk (0 : Int)).6, (mk (0 : Int)).7,
                                                  (mk (0 : Int)).8, (mk (0 : Int)).9, (mk (0 : Int)).10,
                                                  (mk (0 : Int)).11, (mk (0 : Int)).12])
                                              (IntKind.i64.wrap ((↑l.length : Int) + (1 : Int))).toNat (0 : Nat)
                                              (12 : Nat)
                                              [(mk (1 : Int)).1, (mk (1 : Int)).2, (mk (1 : Int)).3, (mk (1 : Int)).4,
                                                (mk (1 : Int)).5, (mk (1 : Int)).6, (mk (1 : Int)).7, (mk (1 : Int)).8,
                                                (mk (1 : Int)).9, (mk (1 : Int)).10, (mk (1 : Int)).11,
                                                (mk (1 : Int)).12]))) ==
                                      ch (List.take l.length (List.drop (0 : Nat) l)) &&
                                  ch
                                      (List.take (↑l.length : Int).toNat
                                        (List.drop (0 : Nat)
                                          (stR
                                            (stR
                                              (cpR
                                                (List.replicate (IntKind.i64.wrap ((↑l.length : Int) + (2 : Int))).toNat
                                                  [(0 : Int), (0 : Int), (0 : Int), (0 : Int), (0 : Int), (0 : Int),
                                                    (0 : Int), (0 : Int), (0 : Int), (0 : Int), (0 : Int), (0 : Int)])
                                                (List.take l.length (List.drop (0 : Nat) l)) (0 : Nat)
                                                (List.replicate (IntKind.i64.wrap ((↑l.length : Int) + (2 : Int))).toNat
                                                    [(0 : Int), (0 : Int), (0 : Int), (0 : Int), (0 : Int), (0 : Int),
                                                      (0 : Int), (0 : Int), (0 : Int), (0 : Int), (0 : Int),
                                                      (0 : Int)]).length)
                                              (↑l.length : Int).toNat (0 : Nat) (12 : Nat)
                                              [(mk (0 : Int)).1, (mk (0 : Int)).2, (mk (0 : Int)).3, (mk (0 : Int)).4,
                                                (mk (0 : Int)).5, (mk (0 : Int)).6, (mk (0 : Int)).7, (mk (0 : Int)).8,
                                                (mk (0 : Int)).9, (mk (0 : Int)).10, (mk (0 : Int)).11,
                                                (mk (0 : Int)).12])
                                            (IntKind.i64.wrap ((↑l.length : Int) + (1 : Int))).toNat (0 : Nat)
                                            (12 : Nat)
                                            [(mk (1 : Int)).1, (mk (1 : Int)).2, (mk (1 : Int)).3, (mk (1 : Int)).4,
                                              (mk (1 : Int)).5, (mk (1 : Int)).6, (mk (1 : Int)).7, (mk (1 : Int)).8,
                                              (mk (1 : Int)).9, (mk (1 : Int)).10, (mk (1 : Int)).11,
                                              (mk (1 : Int)).12]))) ==
                                    ch (List.take l.length (List.drop (0 : Nat) l)) &&
                                s2
                                  (List.take (↑l.length : Int).toNat
                                    (List.drop (0 : Nat)
                                      (stR
                                        (stR
                                          (cpR
                                            (List.replicate (IntKind.i64.wrap ((↑l.length : Int) + (2 : Int))).toNat
                                              [(0 : Int), (0 : Int), (0 : Int), (0 : Int), (0 : Int), (0 : Int),
                                                (0 : Int), (0 : Int), (0 : Int), (0 : Int), (0 : Int), (0 : Int)])
                                            (List.take l.length (List.drop (0 : Nat) l)) (0 : Nat)
                                            (List.replicate (IntKind.i64.wrap ((↑l.length : Int) + (2 : Int))).toNat
                                                [(0 : Int), (0 : Int), (0 : Int), (0 : Int), (0 : Int), (0 : Int),
                                                  (0 : Int), (0 : Int), (0 : Int), (0 : Int), (0 : Int),
                                                  (0 : Int)]).length)
                                          (↑l.length : Int).toNat (0 : Nat) (12 : Nat)
                                          [(mk (0 : Int)).1, (mk (0 : Int)).2, (mk (0 : Int)).3, (mk (0 : Int)).4,
                                            (mk (0 : Int)).5, (mk (0 : Int)).6, (mk (0 : Int)).7, (mk (0 : Int)).8,
                                            (mk (0 : Int)).9, (mk (0 : Int)).10, (mk (0 : Int)).11, (mk (0 : Int)).12])
                                        (IntKind.i64.wrap ((↑l.length : Int) + (1 : Int))).toNat (0 : Nat) (12 : Nat)
                                        [(mk (1 : Int)).1, (mk (1 : Int)).2, (mk (1 : Int)).3, (mk (1 : Int)).4,
                                          (mk (1 : Int)).5, (mk (1 : Int)).6, (mk (1 : Int)).7, (mk (1 : Int)).8,
                                          (mk (1 : Int)).9, (mk (1 : Int)).10, (mk (1 : Int)).11, (mk (1 : Int)).12])))
                                  (List.take l.length (List.drop (0 : Nat) l)))))
                          GT.stop)
                        (GT.br
                          (ok
                            (stR
                              (stR
                                (cpR
                                  (List.replicate (IntKind.i64.wrap ((↑l.length : Int) + (2 : Int))).toNat
                                    [(0 : Int), (0 : Int), (0 : Int), (0 : Int), (0 : Int), (0 : Int), (0 : Int),
                                      (0 : Int), (0 : Int), (0 : Int), (0 : Int), (0 : Int)])
                                  (List.take l.length (List.drop (0 : Nat) l)) (0 : Nat)
                                  (List.replicate (IntKind.i64.wrap ((↑l.length : Int) + (2 : Int))).toNat
                                      [(0 : Int), (0 : Int), (0 : Int), (0 : Int), (0 : Int), (0 : Int), (0 : Int),
                                        (0 : Int), (0 : Int), (0 : Int), (0 : Int), (0 : Int)]).length)
                                (↑l.length : Int).toNat (0 : Nat) (12 : Nat)
                                [(mk (0 : Int)).1, (mk (0 : Int)).2, (mk (0 : Int)).3, (mk (0 : Int)).4,
                                  (mk (0 : Int)).5, (mk (0 : Int)).6, (mk (0 : Int)).7, (mk (0 : Int)).8,
                                  (mk (0 : Int)).9, (mk (0 : Int)).10, (mk (0 : Int)).11, (mk (0 : Int)).12])
                              (IntKind.i64.wrap ((↑l.length : Int) + (1 : Int))).toNat (0 : Nat) (12 : Nat)
                              [(mk (1 : Int)).1, (mk (1 : Int)).2, (mk (1 : Int)).3, (mk (1 : Int)).4, (mk (1 : Int)).5,
                                (mk (1 : Int)).6, (mk (1 : Int)).7, (mk (1 : Int)).8, (mk (1 : Int)).9,
                                (mk (1 : Int)).10, (mk (1 : Int)).11, (mk (1 : Int)).12])
                            (IntKind.i64.wrap ((↑l.length : Int) + (2 : Int))).toNat (0 : Int))
                          (GT.leaf
                            (SV.bool
                              (s1
                                        (pv
                                          (List.take (↑l.length : Int).toNat
                                            (List.drop (0 : Nat)
                                              (stR
                                                (stR
                                                  (cpR
                                                    (List.replicate
                                                      (IntKind.i64.wrap ((↑l.length : Int) + (2 : Int))).toNat
                                                      [(0 : Int), (0 : Int), (0 : Int), (0 : Int), (0 : Int), (0 : Int),
                                                        (0 : Int), (0 : Int), (0 : Int), (0 : Int), (0 : Int),
                                                        (0 : Int)])
                                                    (List.take l.length (List.drop (0 : Nat) l)) (0 : Nat)
                                                    (List.replicate
                                                        (IntKind.i64.wrap ((↑l.length : Int) + (2 : Int))).toNat
                                                        [(0 : Int), (0 : Int), (0 : Int), (0 : Int), (0 : Int),
                                                          (0 : Int), (0 : Int), (0 : Int), (0 : Int), (0 : Int),
                                                          (0 : Int), (0 : Int)]).length)
                                                  (↑l.length : Int).toNat (0 : Nat) (12 : Nat)
                                                  [(mk (0 : Int)).1, (mk (0 : Int)).2, (mk (0 : Int)).3,
                                                    (mk (0 : Int)).4, (mk (0 : Int)).5, (mk (0 : Int)).6,
                                                    (mk (0 : Int)).7, (mk (0 : Int)).8, (mk (0 : Int)).9,
                                                    (mk (0 : Int)).10, (mk (0 : Int)).11, (mk (0 : Int)).12])
                                                (IntKind.i64.wrap ((↑l.length : Int) + (1 : Int))).toNat (0 : Nat)
                                                (12 : Nat)
                                                [(mk (1 : Int)).1, (mk (1 : Int)).2, (mk (1 : Int)).3, (mk (1 : Int)).4,
                                                  (mk (1 : Int)).5, (mk (1 : Int)).6, (mk (1 : Int)).7,
                                                  (mk (1 : Int)).8, (mk (1 : Int)).9, (mk (1 : Int)).10,
                                                  (mk (1 : Int)).11, (mk (1 : Int)).12]))))
                                        (pv (List.take l.length (List.drop (0 : Nat) l))) &&
                                      s1
                                        (pv
                                          (List.take (↑l.length : Int).toNat
                                            (List.drop (0 : Nat)
                                              (stR
                                                (stR
                                                  (cpR
                                                    (List.replicate
                                                      (IntKind.i64.wrap ((↑l.length : Int) + (2 : Int))).toNat
                                                      [(0 : Int), (0 : Int), (0 : Int), (0 : Int), (0 : Int), (0 : Int),
                                                        (0 : Int), (0 : Int), (0 : Int), (0 : Int), (0 : Int),
                                                        (0 : Int)])
                                                    (List.take l.length (List.drop (0 : Nat) l)) (0 : Nat)
                                                    (List.replicate
                                                        (IntKind.i64.wrap ((↑l.length : Int) + (2 : Int))).toNat
                                                        [(0 : Int), (0 : Int), (0 : Int), (0 : Int), (0 : Int),
                                                          (0 : Int), (0 : Int), (0 : Int), (0 : Int), (0 : Int),
                                                          (0 : Int), (0 : Int)]).length)
                                                  (↑l.length : Int).toNat (0 : Nat) (12 : Nat)
                                                  [(mk (0 : Int)).1, (mk (0 : Int)).2, (mk (0 : Int)).3,
                                                    (mk (0 : Int)).4, (mk (0 : Int)).5, (mk (0 : Int)).6,
                                                    (mk (0 : Int)).7, (mk (0 : Int)).8, (mk (0 : Int)).9,
                                                    (mk (0 : Int)).10, (mk (0 : Int)).11, (mk (0 : Int)).12])
                                                (IntKind.i64.wrap ((↑l.length : Int) + (1 : Int))).toNat (0 : Nat)
                                                (12 : Nat)
                                                [(mk (1 : Int)).1, (mk (1 : Int)).2, (mk (1 : Int)).3, (mk (1 : Int)).4,
                                                  (mk (1 : Int)).5, (mk (1 : Int)).6, (mk (1 : Int)).7,
                                                  (mk (1 : Int)).8, (mk (1 : Int)).9, (mk (1 : Int)).10,
                                                  (mk (1 : Int)).11, (mk (1 : Int)).12]))))
                                        (pv (List.take l.length (List.drop (0 : Nat) l))) &&
                                    ch
                                        (List.take (↑l.length : Int).toNat
                                          (List.drop (0 : Nat)
                                            (stR
                                              (stR
                                                (cpR
                                                  (List.replicate
                                                    (IntKind.i64.wrap ((↑l.length : Int) + (2 : Int))).toNat
                                                    [(0 : Int), (0 : Int), (0 : Int), (0 : Int), (0 : Int), (0 : Int),
                                                      (0 : Int), (0 : Int), (0 : Int), (0 : Int), (0 : Int), (0 : Int)])
                                                  (List.take l.length (List.drop (0 : Nat) l)) (0 : Nat)
                                                  (List.replicate
                                                      (IntKind.i64.wrap ((↑l.length : Int) + (2 : Int))).toNat
                                                      [(0 : Int), (0 : Int), (0 : Int), (0 : Int), (0 : Int), (0 : Int),
                                                        (0 : Int), (0 : Int), (0 : Int), (0 : Int), (0 : Int),
                                                        (0 : Int)]).length)
                                                (↑l.length : Int).toNat (0 : Nat) (12 : Nat)
                                                [(mk (0 : Int)).1, (mk (0 : Int)).2, (mk (0 : Int)).3, (mk (0 : Int)).4,
                                                  (mk (0 : Int)).5, (mk (0 : Int)).6, (mk (0 : Int)).7,
                                                  (mk (0 : Int)).8, (mk (0 : Int)).9, (mk (0 : Int)).10,
                                                  (mk (0 : Int)).11, (mk (0 : Int)).12])
                                              (IntKind.i64.wrap ((↑l.length : Int) + (1 : Int))).toNat (0 : Nat)
                                              (12 : Nat)
                                              [(mk (1 : Int)).1, (mk (1 : Int)).2, (mk (1 : Int)).3, (mk (1 : Int)).4,
                                                (mk (1 : Int)).5, (mk (1 : Int)).6, (mk (1 : Int)).7, (mk (1 : Int)).8,
                                                (mk (1 : Int)).9, (mk (1 : Int)).10, (mk (1 : Int)).11,
                                                (mk (1 : Int)).12]))) ==
                                      ch (List.take l.length (List.drop (0 : Nat) l)) &&
                                  ch
                                      (List.take (↑l.length : Int).toNat
                                        (List.drop (0 : Nat)
                                          (stR
                                            (stR
                                              (cpR
                                                (List.replicate (IntKind.i64.wrap ((↑l.length : Int) + (2 : Int))).toNat
                                                  [(0 : Int), (0 : Int), (0 : Int), (0 : Int), (0 : Int), (0 : Int),
                                                    (0 : Int), (0 : Int), (0 : Int), (0 : Int), (0 : Int), (0 : Int)])
                                                (List.take l.length (List.drop (0 : Nat) l)) (0 : Nat)
                                                (List.replicate (IntKind.i64.wrap ((↑l.length : Int) + (2 : Int))).toNat
                                                    [(0 : Int), (0 : Int), (0 : Int), (0 : Int), (0 : Int), (0 : Int),
                                                      (0 : Int), (0 : Int), (0 : Int), (0 : Int), (0 : Int),
                                                      (0 : Int)]).length)
                                              (↑l.length : Int).toNat (0 : Nat) (12 : Nat)
                                              [(mk (0 : Int)).1, (mk (0 : Int)).2, (mk (0 : Int)).3, (mk (0 : Int)).4,
                                                (mk (0 : Int)).5, (mk (0 : Int)).6, (mk (0 : Int)).7, (mk (0 : Int)).8,
                                                (mk (0 : Int)).9, (mk (0 : Int)).10, (mk (0 : Int)).11,
                                                (mk (0 : Int)).12])
                                            (IntKind.i64.wrap ((↑l.length : Int) + (1 : Int))).toNat (0 : Nat)
                                            (12 : Nat)
                                            [(mk (1 : Int)).1, (mk (1 : Int)).2, (mk (1 : Int)).3, (mk (1 : Int)).4,
                                              (mk (1 : Int)).5, (mk (1 : Int)).6, (mk (1 : Int)).7, (mk (1 : Int)).8,
                                              (mk (1 : Int)).9, (mk (1 : Int)).10, (mk (1 : Int)).11,
                                              (mk (1 : Int)).12]))) ==
                                    ch (List.take l.length (List.drop (0 : Nat) l)) &&
                                false)))
                          GT.stop))
                      GT.stop)
                    (GT.br
                      (ok
                        (stR
                          (stR
                            (cpR
                              (List.replicate (IntKind.i64.wrap ((↑l.length : Int) + (2 : Int))).toNat
                                [(0 : Int), (0 : Int), (0 : Int), (0 : Int), (0 : Int), (0 : Int), (0 : Int), (0 : Int),
                                  (0 : Int), (0 : Int), (0 : Int), (0 : Int)])
                              (List.take l.length (List.drop (0 : Nat) l)) (0 : Nat)
                              (List.replicate (IntKind.i64.wrap ((↑l.length : Int) + (2 : Int))).toNat
                                  [(0 : Int), (0 : Int), (0 : Int), (0 : Int), (0 : Int), (0 : Int), (0 : Int),
                                    (0 : Int), (0 : Int), (0 : Int), (0 : Int), (0 : Int)]).length)
                            (↑l.length : Int).toNat (0 : Nat) (12 : Nat)
                            [(mk (0 : Int)).1, (mk (0 : Int)).2, (mk (0 : Int)).3, (mk (0 : Int)).4, (mk (0 : Int)).5,
                              (mk (0 : Int)).6, (mk (0 : Int)).7, (mk (0 : Int)).8, (mk (0 : Int)).9, (mk (0 : Int)).10,
                              (mk (0 : Int)).11, (mk (0 : Int)).12])
                          (IntKind.i64.wrap ((↑l.length : Int) + (1 : Int))).toNat (0 : Nat) (12 : Nat)
                          [(mk (1 : Int)).1, (mk (1 : Int)).2, (mk (1 : Int)).3, (mk (1 : Int)).4, (mk (1 : Int)).5,
                            (mk (1 : Int)).6, (mk (1 : Int)).7, (mk (1 : Int)).8, (mk (1 : Int)).9, (mk (1 : Int)).10,
                            (mk (1 : Int)).11, (mk (1 : Int)).12])
                        (IntKind.i64.wrap ((↑l.length : Int) + (2 : Int))).toNat (0 : Int))
                      (GT.leaf
                        (SV.bool
                          (s1
                                    (pv
                                      (List.take (↑l.length : Int).toNat
                                        (List.drop (0 : Nat)
                                          (stR
                                            (stR
                                              (cpR
                                                (List.replicate (IntKind.i64.wrap ((↑l.length : Int) + (2 : Int))).toNat
                                                  [(0 : Int), (0 : Int), (0 : Int), (0 : Int), (0 : Int), (0 : Int),
                                                    (0 : Int), (0 : Int), (0 : Int), (0 : Int), (0 : Int), (0 : Int)])
                                                (List.take l.length (List.drop (0 : Nat) l)) (0 : Nat)
                                                (List.replicate (IntKind.i64.wrap ((↑l.length : Int) + (2 : Int))).toNat
                                                    [(0 : Int), (0 : Int), (0 : Int), (0 : Int), (0 : Int), (0 : Int),
                                                      (0 : Int), (0 : Int), (0 : Int), (0 : Int), (0 : Int),
                                                      (0 : Int)]).length)
                                              (↑l.length : Int).toNat (0 : Nat) (12 : Nat)
                                              [(mk (0 : Int)).1, (mk (0 : Int)).2, (mk (0 : Int)).3, (mk (0 : Int)).4,
                                                (mk (0 : Int)).5, (mk (0 : Int)).6, (mk (0 : Int)).7, (mk (0 : Int)).8,
                                                (mk (0 : Int)).9, (mk (0 : Int)).10, (mk (0 : Int)).11,
                                                (mk (0 : Int)).12])
                                            (IntKind.i64.wrap ((↑l.length : Int) + (1 : Int))).toNat (0 : Nat)
                                            (12 : Nat)
                                            [(mk (1 : Int)).1, (mk (1 : Int)).2, (mk (1 : Int)).3, (mk (1 : Int)).4,
                                              (mk (1 : Int)).5, (mk (1 : Int)).6, (mk (1 : Int)).7, (mk (1 : Int)).8,
                                              (mk (1 : Int)).9, (mk (1 : Int)).10, (mk (1 : Int)).11,
                                              (mk (1 : Int)).12]))))
                                    (pv (List.take l.length (List.drop (0 : Nat) l))) &&
                                  s1
                                    (pv
                                      (List.take (↑l.length : Int).toNat
                                        (List.drop (0 : Nat)
                                          (stR
                                            (stR
                                              (cpR
                                                (List.replicate (IntKind.i64.wrap ((↑l.length : Int) + (2 : Int))).toNat
                                                  [(0 : Int), (0 : Int), (0 : Int), (0 : Int), (0 : Int), (0 : Int),
                                                    (0 : Int), (0 : Int), (0 : Int), (0 : Int), (0 : Int), (0 : Int)])
                                                (List.take l.length (List.drop (0 : Nat) l)) (0 : Nat)
                                                (List.replicate (IntKind.i64.wrap ((↑l.length : Int) + (2 : Int))).toNat
                                                    [(0 : Int), (0 : Int), (0 : Int), (0 : Int), (0 : Int), (0 : Int),
                                                      (0 : Int), (0 : Int), (0 : Int), (0 : Int), (0 : Int),
                                                      (0 : Int)]).length)
                                              (↑l.length : Int).toNat (0 : Nat) (12 : Nat)
                                              [(mk (0 : Int)).1, (mk (0 : Int)).2, (mk (0 : Int)).3, (mk (0 : Int)).4,
                                                (mk (0 : Int)).5, (mk (0 : Int)).6, (mk (0 : Int)).7, (mk (0 : Int)).8,
                                                (mk (0 : Int)).9, (mk (0 : Int)).10, (mk (0 : Int)).11,
                                                (mk (0 : Int)).12])
                                            (IntKind.i64.wrap ((↑l.length : Int) + (1 : Int))).toNat (0 : Nat)
                                            (12 : Nat)
                                            [(mk (1 : Int)).1, (mk (1 : Int)).2, (mk (1 : Int)).3, (mk (1 : Int)).4,
                                              (mk (1 : Int)).5, (mk (1 : Int)).6, (mk (1 : Int)).7, (mk (1 : Int)).8,
                                              (mk (1 : Int)).9, (mk (1 : Int)).10, (mk (1 : Int)).11,
                                              (mk (1 : Int)).12]))))
                                    (pv (List.take l.length (List.drop (0 : Nat) l))) &&
                                ch
                                    (List.take (↑l.length : Int).toNat
                                      (List.drop (0 : Nat)
                                        (stR
                                          (stR
                                            (cpR
                                              (List.replicate (IntKind.i64.wrap ((↑l.length : Int) + (2 : Int))).toNat
                                                [(0 : Int), (0 : Int), (0 : Int), (0 : Int), (0 : Int), (0 : Int),
                                                  (0 : Int), (0 : Int), (0 : Int), (0 : Int), (0 : Int), (0 : Int)])
                                              (List.take l.length (List.drop (0 : Nat) l)) (0 : Nat)
                                              (List.replicate (IntKind.i64.wrap ((↑l.length : Int) + (2 : Int))).toNat
                                                  [(0 : Int), (0 : Int), (0 : Int), (0 : Int), (0 : Int), (0 : Int),
                                                    (0 : Int), (0 : Int), (0 : Int), (0 : Int), (0 : Int),
                                                    (0 : Int)]).length)
                                            (↑l.length : Int).toNat (0 : Nat) (12 : Nat)
                                            [(mk (0 : Int)).1, (mk (0 : Int)).2, (mk (0 : Int)).3, (mk (0 : Int)).4,
                                              (mk (0 : Int)).5, (mk (0 : Int)).6, (mk (0 : Int)).7, (mk (0 : Int)).8,
                                              (mk (0 : Int)).9, (mk (0 : Int)).10, (mk (0 : Int)).11,
                                              (mk (0 : Int)).12])
                                          (IntKind.i64.wrap ((↑l.length : Int) + (1 : Int))).toNat (0 : Nat) (12 : Nat)
                                          [(mk (1 : Int)).1, (mk (1 : Int)).2, (mk (1 : Int)).3, (mk (1 : Int)).4,
                                            (mk (1 : Int)).5, (mk (1 : Int)).6, (mk (1 : Int)).7, (mk (1 : Int)).8,
                                            (mk (1 : Int)).9, (mk (1 : Int)).10, (mk (1 : Int)).11,
                                            (mk (1 : Int)).12]))) ==
                                  ch (List.take l.length (List.drop (0 : Nat) l)) &&
                              ch
                                  (List.take (↑l.length : Int).toNat
                                    (List.drop (0 : Nat)
                                      (stR
                                        (stR
                                          (cpR
                                            (List.replicate (IntKind.i64.wrap ((↑l.length : Int) + (2 : Int))).toNat
                                              [(0 : Int), (0 : Int), (0 : Int), (0 : Int), (0 : Int), (0 : Int),
                                                (0 : Int), (0 : Int), (0 : Int), (0 : Int), (0 : Int), (0 : Int)])
                                            (List.take l.length (List.drop (0 : Nat) l)) (0 : Nat)
                                            (List.replicate (IntKind.i64.wrap ((↑l.length : Int) + (2 : Int))).toNat
                                                [(0 : Int), (0 : Int), (0 : Int), (0 : Int), (0 : Int), (0 : Int),
                                                  (0 : Int), (0 : Int), (0 : Int), (0 : Int), (0 : Int),
                                                  (0 : Int)]).length)
                                          (↑l.length : Int).toNat (0 : Nat) (12 : Nat)
                                          [(mk (0 : Int)).1, (mk (0 : Int)).2, (mk (0 : Int)).3, (mk (0 : Int)).4,
                                            (mk (0 : Int)).5, (mk (0 : Int)).6, (mk (0 : Int)).7, (mk (0 : Int)).8,
                                            (mk (0 : Int)).9, (mk (0 : Int)).10, (mk (0 : Int)).11, (mk (0 : Int)).12])
                                        (IntKind.i64.wrap ((↑l.length : Int) + (1 : Int))).toNat (0 : Nat) (12 : Nat)
                                        [(mk (1 : Int)).1, (mk (1 : Int)).2, (mk (1 : Int)).3, (mk (1 : Int)).4,
                                          (mk (1 : Int)).5, (mk (1 : Int)).6, (mk (1 : Int)).7, (mk (1 : Int)).8,
                                          (mk (1 : Int)).9, (mk (1 : Int)).10, (mk (1 : Int)).11,
                                          (mk (1 : Int)).12]))) ==
                                ch (List.take l.length (List.drop (0 : Nat) l)) &&
                            false)))
                      GT.stop))
                  GT.stop)
                GT.stop)
              GT.stop)
            GT.stop)
          GT.stop)
        GT.stop)
      GT.stop)
theorem e_lpr (ga : List Row → Bool) (pv : List Row → List Row) (ch : List Row → Int) (s1 s2 : SM2) (mk : Int → Rl) (ok : KBk) (sp : List Row → Nat → List Row) (l : List Row) : evFn Try.prog (Glp ga pv ch s1 s2 mk) ents [12, 13] (lpL [(4, [0, 1, 0, 1, 1, 1, 1, 1, 1], annlw), (15, [0, 1, 0, 1, 1, 1], annbk ok sp)]) 2 4 [.rows RK l] = (T_lpr ga pv ch s1 s2 mk ok sp l).opt := by kernel_rfl
end Go.Sx.Mk
