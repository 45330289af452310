/- What the functions of the layer answer, by value, and the plain laws behind the statement. Conditions: none beyond those that each theorem names. -/
import Derived.Test.YthndjcmfomjfeaaSxC
import Derived.Test.YthndjcmfomjfeaaChecked
import Derived.RangeFuncNested
import Derived.RangeFuncBound
import Derived.RangeFuncCalls
import Derived.RangeFuncLeaves
import Derived.Shelf.Abstract
import Derived.Shelf.RegionOpen
import Derived.WalkKit
import Derived.OwnWalkIn
import Derived.TacticsInMore
import Derived.LoopNIn
import Derived.LoopIn
import Derived.BigRegionIn
import Derived.Lib.Hide
set_option linter.unusedVariables false
set_option linter.unusedSimpArgs false
/- The program of this seat, by value: what is known of it at the start. -/
namespace Go.Sx.Mk
open Go.Proofs Go.RowKit
def nolp : FuncId → List Nat → Option Ann := fun _ _ => none
def okAnn (ann : Ann) : Bool := Nat.ble ann.fuel 999999
def isLp (ann : Ann) : Option Ann := match okAnn ann with
  | true => some ann
  | false => none
def isCd (ann : Ann) : Option Ann := match okAnn ann with
  | true => none
  | false => some ann
theorem isLp_some {a b : Ann} (h : isLp a = some b) : a = b ∧ b.fuel ≤ 999999 := by
  unfold isLp at h
  split at h
  · rename_i ho
    cases h
    exact ⟨rfl, Nat.le_of_ble_eq_true ho⟩
  · cases h
theorem isCd_some {a b : Ann} (h : isCd a = some b) : a = b ∧ ¬ b.fuel ≤ 999999 := by
  unfold isCd at h
  split at h
  · cases h
  · rename_i ho
    cases h
    refine ⟨rfl, fun hc => ?_⟩
    unfold okAnn at ho
    rw [Nat.ble_eq_true_of_le hc] at ho
    cases ho
def lpOf (f0 : Nat) (p0 : List Nat) (ann : Ann) : FuncId → List Nat → Option Ann := fun f p => if f = f0 ∧ p = p0 then isLp ann else none
noncomputable def bodyOf (f : Nat) (p : List Nat) : Code := match Try.prog.funcs[f]? with
  | some fn => match fn.body with
    | some c => match codeAt c p with
      | some (.loop b) => b
      | _ => .skip
    | none => .skip
  | none => .skip
def ents : List Nat := [3, 4, 5, 6, 7, 8, 9, 10, 11, 12, 13, 14, 15, 16, 17, 18, 19, 20, 21, 22, 23, 24, 25, 26, 27, 28, 29, 30, 31, 32, 33, 34, 35, 36, 37, 38, 39, 40, 41, 42, 43]
theorem ents_ok : ∀ g, ents.contains g = true → Entered Try.prog g := by
  have key : ents.all (fun g => match Try.prog.funcs[g]? with | some fn => (fn.name != "runtime.NumGoroutine") && fn.body.isSome | none => false) = true := by kernel_rfl
  intro g hg
  have := List.all_eq_true.1 key g (by simpa using hg)
  split at this
  · rename_i fn hfn
    rw [Bool.and_eq_true] at this
    exact entered_of hfn this.1 this.2
  · cases this
theorem facts {Γ : FuncId → Option (List SV → GT SV)} (hΓ : ∀ g s, Γ g = some s → SummT Try.prog g s) : Facts Try.prog Γ ents nolp :=
  ⟨Checked.mixed Try.checked, hΓ, ents_ok, fun f fn c _ _ => ⟨fun p ann s h => (by cases h), fun p ann s pin h => (by cases h)⟩⟩
/-- what is known of a loop of a function -/
def LpAt (f0 : Nat) (p0 : List Nat) (ann : Ann) : Prop := ∀ s, ann.sum = some s → LoopOKP Try.prog ann.fuel (bodyOf f0 p0) (fun st => (s st).opt)
/-- the loops that are known -/
def lpL (l : List (Nat × List Nat × Ann)) : FuncId → List Nat → Option Ann := fun f p => match l with
  | [] => none
  | (f0, p0, ann) :: l => match decide (f = f0 ∧ p = p0) with
    | true => isLp ann
    | false => lpL l f p
theorem lpL_ok {l : List (Nat × List Nat × Ann)} (h : ∀ x ∈ l, LpAt x.1 x.2.1 x.2.2) {f : Nat} {p : List Nat} {a : Ann} (ha : lpL l f p = some a) : a.fuel ≤ 999999 ∧ LpAt f p a := by
  induction l with
  | nil => cases ha
  | cons x l ih =>
    unfold lpL at ha
    split at ha
    · rename_i hd
      obtain ⟨e1, e2⟩ := isLp_some ha
      obtain ⟨rfl, rfl⟩ := of_decide_eq_true hd
      have := h x (by simp)
      rw [e1] at this
      exact ⟨e2, this⟩
    · exact ih (fun y hy => h y (by simp [hy])) ha
theorem bodyOf_eq {f : Nat} {fn : Func} {c c' : Code} {p : List Nat} (hf : Try.prog.funcs[f]? = some fn) (hc : fn.body = some c) (hc' : codeAt c p = some (.loop c')) : bodyOf f p = c' := by
  unfold bodyOf; rw [hf]; simp only; rw [hc]; simp only; rw [hc']
theorem factsL {Γ : FuncId → Option (List SV → GT SV)} (hΓ : ∀ g s, Γ g = some s → SummT Try.prog g s) (l : List (Nat × List Nat × Ann)) (h : ∀ x ∈ l, LpAt x.1 x.2.1 x.2.2) : Facts Try.prog Γ ents (lpL l) :=
  ⟨Checked.mixed Try.checked, hΓ, ents_ok, fun f fn c hf hc => ⟨fun p a s ha hs _ c' hc' => (by
    obtain ⟨_, h1⟩ := lpL_ok h ha
    rw [← bodyOf_eq hf hc hc']
    exact h1 s hs), fun p a s pin ha hs hp => (by
    obtain ⟨h1, _⟩ := lpL_ok h ha
    omega)⟩⟩
/-- a piece of a function's code -/
noncomputable def nodeOf (f : Nat) (p : List Nat) : Code := match Try.prog.funcs[f]? with
  | some fn => match fn.body with
    | some c => match codeAt c p with
      | some b => b
      | _ => .skip
    | none => .skip
  | none => .skip
/-- what is known of a condition, or of a range over a function -/
def CdAt (f0 : Nat) (p0 : List Nat) (ann : Ann) : Prop := ∀ s pin, ann.sum = some s → ann.fuel = 1000000 + pin → CodeOKP Try.prog pin (nodeOf f0 p0) (fun st => (s st).opt)
def lpX (l : List (Nat × List Nat × Ann)) : FuncId → List Nat → Option Ann := fun f p => match l with
  | [] => none
  | (f0, p0, ann) :: l => match decide (f = f0 ∧ p = p0) with
    | true => isCd ann
    | false => lpX l f p
def lpN (l m : List (Nat × List Nat × Ann)) : FuncId → List Nat → Option Ann := fun f p => match lpL l f p with
  | some a => some a
  | none => lpX m f p
theorem lpX_ok {l : List (Nat × List Nat × Ann)} (h : ∀ x ∈ l, CdAt x.1 x.2.1 x.2.2) {f : Nat} {p : List Nat} {a : Ann} (ha : lpX l f p = some a) : ¬ a.fuel ≤ 999999 ∧ CdAt f p a := by
  induction l with
  | nil => cases ha
  | cons x l ih =>
    unfold lpX at ha
    split at ha
    · rename_i hd
      obtain ⟨e1, e2⟩ := isCd_some ha
      obtain ⟨rfl, rfl⟩ := of_decide_eq_true hd
      have := h x (by simp)
      rw [e1] at this
      exact ⟨e2, this⟩
    · exact ih (fun y hy => h y (by simp [hy])) ha
theorem factsN {Γ : FuncId → Option (List SV → GT SV)} (hΓ : ∀ g s, Γ g = some s → SummT Try.prog g s) (l m : List (Nat × List Nat × Ann)) (h : ∀ x ∈ l, LpAt x.1 x.2.1 x.2.2) (h' : ∀ x ∈ m, CdAt x.1 x.2.1 x.2.2) : Facts Try.prog Γ ents (lpN l m) :=
  ⟨Checked.mixed Try.checked, hΓ, ents_ok, fun f fn c hf hc => ⟨fun p a s ha hs hlo c' hc' => (by
    unfold lpN at ha
    split at ha
    · rename_i a' ha'
      cases ha
      obtain ⟨_, h1⟩ := lpL_ok h ha'
      rw [← bodyOf_eq hf hc hc']
      exact h1 s hs
    · exact absurd hlo (lpX_ok h' ha).1), fun p a s pin ha hs hp c' hc' => (by
    unfold lpN at ha
    split at ha
    · rename_i a' ha'
      cases ha
      obtain ⟨h1, _⟩ := lpL_ok h ha'
      omega
    · obtain ⟨_, h1⟩ := lpX_ok h' ha
      have e : nodeOf f p = c' := by unfold nodeOf; rw [hf]; simp only; rw [hc]; simp only; rw [hc']
      rw [← e]
      exact h1 s pin hs hp)⟩⟩
def lpC (l : List (List Nat × Ann)) : List Nat → Option Ann := fun p => match l with
  | [] => none
  | (p0, ann) :: l => match decide (p = p0) with
    | true => isLp ann
    | false => lpC l p
theorem lpC_ok {root : Code} (l : List (List Nat × Ann)) (h : ∀ x ∈ l, ∀ s, x.2.sum = some s → ∀ c, codeAt root x.1 = some (.loop c) → LoopOKP Try.prog x.2.fuel c (fun st => (s st).opt)) : LpOK Try.prog root (lpC l) := by
  have key : ∀ p a, lpC l p = some a → a.fuel ≤ 999999 ∧ ∃ x ∈ l, x.1 = p ∧ x.2 = a := by
    intro p a ha
    induction l with
    | nil => cases ha
    | cons x l ih =>
      unfold lpC at ha
      split at ha
      · rename_i hd
        obtain ⟨e1, e2⟩ := isLp_some ha
        exact ⟨e2, x, by simp, (of_decide_eq_true hd).symm, e1⟩
      · obtain ⟨e1, y, hy, e2⟩ := ih (fun y hy => h y (by simp [hy])) ha
        exact ⟨e1, y, by simp [hy], e2⟩
  refine ⟨fun p a s ha hs _ c hc => ?_, fun p a s pin ha hs hp => ?_⟩
  · obtain ⟨_, x, hx, rfl, rfl⟩ := key p a ha
    exact h x hx s hs c hc
  · obtain ⟨h1, _⟩ := key p a ha
    omega
def G0 : FuncId → Option (List SV → GT SV) := fun _ => none
theorem G0_ok : ∀ g s, G0 g = some s → SummT Try.prog g s := fun g s h => by cases h
noncomputable def ev (G : FuncId → Option (List SV → GT SV)) (d f : Nat) (l : List SV) := evFn Try.prog G ents [] nolp d f l
/-- the first table of bytes that a code indexes -/
def tabIn : Code → Option ByteArray
  | .region _ ops _ => ops.toList.findSome? fun o => match o.op with
    | .index _ (.const (.string s)) _ => some s
    | _ => none
  | .seq a b => match tabIn a with
    | some s => some s
    | none => tabIn b
  | .cond _ a b => match tabIn a with
    | some s => some s
    | none => tabIn b
  | .block _ a => tabIn a
  | .scope a => tabIn a
  | .loop a => tabIn a
  | _ => none
noncomputable def tabOf (f : Nat) : ByteArray := match Try.prog.funcs[f]? with
  | some fn => match fn.body with
    | some c => match tabIn c with
      | some s => s
      | none => .empty
    | none => .empty
  | none => .empty
theorem GT.opt_leaf {α : Type} (a : α) : (GT.leaf a).opt = some a := rfl
theorem GT.opt_br {α : Type} (c : Bool) (t f : GT α) : (GT.br c t f).opt = sure c t.opt f.opt := by cases c <;> rfl
end Go.Sx.Mk


/- Layer 2, by value: the program's functions on prefixes. -/
namespace Go.Sx.Mk
open Go.Proofs Go.RowKit
def px (a n : Int) : SV := .agg [.int .u32 a, .int .i64 n]
noncomputable def T_care (n : Int) : GT SV := GT.br (decide (IntKind.i64.wrap ((32 : Int) - n) < (0 : Int))) GT.stop
    (GT.leaf
      (SV.int IntKind.u32
        (IntKind.u32.wrap ((4294967295 : Int) * (2 : Int) ^ min (IntKind.i64.wrap ((32 : Int) - n)).toNat (32 : Nat)))))
theorem e_care (n : Int) : ev G0 1 33 [.int .i64 n] = (T_care n).opt := by kernel_rfl
noncomputable def lenTab : ByteArray := tabOf 43
noncomputable def T_len32 (a : Int) : GT SV := GT.br (decide ((65536 : Int) ≤ a))
    (GT.br (decide ((256 : Int) ≤ a.fdiv (65536 : Int)))
      (GT.br
        (decide
          ((0 : Int) ≤ IntKind.u8.wrap ((a.fdiv (65536 : Int)).fdiv (256 : Int)) ∧
            IntKind.u8.wrap ((a.fdiv (65536 : Int)).fdiv (256 : Int)) < (256 : Int)))
        (GT.leaf
          (SV.int IntKind.i64
            (IntKind.i64.wrap
              ((32 : Int) -
                IntKind.i64.wrap
                  ((24 : Int) +
                    IntKind.i64.wrap
                      (strAt lenTab (IntKind.u8.wrap ((a.fdiv (65536 : Int)).fdiv (256 : Int))).toNat))))))
        GT.stop)
      (GT.br
        (decide
          ((0 : Int) ≤ IntKind.u8.wrap (a.fdiv (65536 : Int)) ∧ IntKind.u8.wrap (a.fdiv (65536 : Int)) < (256 : Int)))
        (GT.leaf
          (SV.int IntKind.i64
            (IntKind.i64.wrap
              ((32 : Int) -
                IntKind.i64.wrap
                  ((16 : Int) + IntKind.i64.wrap (strAt lenTab (IntKind.u8.wrap (a.fdiv (65536 : Int))).toNat))))))
        GT.stop))
    (GT.br (decide ((256 : Int) ≤ a))
      (GT.br
        (decide ((0 : Int) ≤ IntKind.u8.wrap (a.fdiv (256 : Int)) ∧ IntKind.u8.wrap (a.fdiv (256 : Int)) < (256 : Int)))
        (GT.leaf
          (SV.int IntKind.i64
            (IntKind.i64.wrap
              ((32 : Int) -
                IntKind.i64.wrap
                  ((8 : Int) + IntKind.i64.wrap (strAt lenTab (IntKind.u8.wrap (a.fdiv (256 : Int))).toNat))))))
        GT.stop)
      (GT.br (decide ((0 : Int) ≤ IntKind.u8.wrap a ∧ IntKind.u8.wrap a < (256 : Int)))
        (GT.leaf
          (SV.int IntKind.i64
            (IntKind.i64.wrap
              ((32 : Int) - IntKind.i64.wrap ((0 : Int) + IntKind.i64.wrap (strAt lenTab (IntKind.u8.wrap a).toNat))))))
        GT.stop))
theorem e_len32 (a : Int) : ev G0 2 40 [.int .u32 a] = (T_len32 a).opt := by kernel_rfl
def careV (n : Int) : Int := IntKind.wrap .u32 (4294967295 * 2 ^ (min (IntKind.wrap .i64 (32 - n)).toNat 32))
theorem S_care : SummT Try.prog 33 (sgI fun n => .when (decide (0 ≤ n ∧ n ≤ 32)) (.leaf (.int .u32 (careV n)))) := sgI.summ (evFn_summ (facts G0_ok) 1 33) (fun n sv h => by
  obtain ⟨h1, h2⟩ := GT.opt_when h
  have h1' := of_decide_eq_true h1
  have hw : IntKind.wrap .i64 (32 - n) = 32 - n := wrap_i64 (by omega) (by omega)
  refine (e_care n).trans (Eq.trans ?_ h2)
  unfold T_care careV
  have : decide (IntKind.wrap .i64 (32 - n) < 0) = false := decide_eq_false (by omega)
  rw [this]; rfl)
noncomputable def Gcare (cr : Int → Int) : FuncId → Option (List SV → GT SV)
  | 33 => some (sgI fun n => .when (decide (0 ≤ n ∧ n ≤ 32)) (.leaf (.int .u32 (cr n))))
  | _ => none
theorem Gcare_ok : ∀ g s, Gcare careV g = some s → SummT Try.prog g s := fun g s h => by
  unfold Gcare at h
  split at h
  · cases h; exact S_care
  · cases h
theorem wrap_u8_in (n : Int) : 0 ≤ IntKind.wrap .u8 n ∧ IntKind.wrap .u8 n < 256 := by
  simp [IntKind.wrap, IntKind.signed, IntKind.bits]
  omega
noncomputable def T_check (cr : Int → Int) (a n : Int) : GT SV := GT.br (decide (n < (0 : Int))) (GT.leaf (SV.int IntKind.i64 (20 : Int)))
    (GT.br (decide ((32 : Int) < n)) (GT.leaf (SV.int IntKind.i64 (20 : Int)))
      (GT.br (decide ((0 : Int) ≤ n ∧ n ≤ (32 : Int)))
        (GT.br (bits BinOp.andNot IntKind.u32 a (cr n) != (0 : Int)) (GT.leaf (SV.int IntKind.i64 (21 : Int)))
          (GT.leaf (SV.int IntKind.i64 (0 : Int))))
        GT.stop))
theorem e_check (cr : Int → Int) (a n : Int) : ev (Gcare cr) 1 26 [px a n] = (T_check cr a n).opt := by kernel_rfl
noncomputable def T_of (cr : Int → Int) (a n : Int) : GT SV := GT.br (decide (n < (0 : Int)))
    (GT.leaf
      (SV.tup [SV.agg [SV.int IntKind.u32 (0 : Int), SV.int IntKind.i64 (0 : Int)], SV.int IntKind.i64 (20 : Int)]))
    (GT.br (decide ((32 : Int) < n))
      (GT.leaf
        (SV.tup [SV.agg [SV.int IntKind.u32 (0 : Int), SV.int IntKind.i64 (0 : Int)], SV.int IntKind.i64 (20 : Int)]))
      (GT.br (decide ((0 : Int) ≤ n ∧ n ≤ (32 : Int)))
        (GT.leaf
          (SV.tup
            [SV.agg [SV.int IntKind.u32 (bits BinOp.and IntKind.u32 a (cr n)), SV.int IntKind.i64 n],
              SV.int IntKind.i64 (0 : Int)]))
        GT.stop))
theorem e_of (cr : Int → Int) (a n : Int) : ev (Gcare cr) 1 19 [.int .u32 a, .int .i64 n] = (T_of cr a n).opt := by kernel_rfl
def chkP (a n : Int) : Int := sure (decide (n < 0)) 20 (sure (decide (32 < n)) 20 (sure (Go.bits .andNot .u32 a (careV n) != 0) 21 0))
theorem S_check : SummT Try.prog 26 (sgP fun a n => .leaf (.int .i64 (chkP a n))) := sgP.summ (evFn_summ (facts Gcare_ok) 1 26) (fun a n sv h => by
  refine (e_check careV a n).trans (Eq.trans ?_ h)
  unfold T_check chkP
  by_cases h1 : n < 0
  · rw [decide_eq_true h1]; rfl
  · by_cases h2 : 32 < n
    · rw [decide_eq_false h1, decide_eq_true h2]; rfl
    · rw [decide_eq_false h1, decide_eq_false h2, decide_eq_true (show 0 ≤ n ∧ n ≤ 32 by omega)]
      cases (Go.bits .andNot .u32 a (careV n) != 0) <;> rfl)
theorem chkP_ok {a n : Int} (h : chkP a n = 0) : 0 ≤ n ∧ n ≤ 32 := by
  unfold chkP at h
  by_cases h1 : n < 0
  · rw [decide_eq_true h1] at h; cases h
  · by_cases h2 : 32 < n
    · rw [decide_eq_false h1, decide_eq_true h2] at h; cases h
    · omega
noncomputable def Gck (cr : Int → Int) (ck : I2 Int) : FuncId → Option (List SV → GT SV)
  | 33 => some (sgI fun n => .when (decide (0 ≤ n ∧ n ≤ 32)) (.leaf (.int .u32 (cr n))))
  | 26 => some (sgP fun a n => .leaf (.int .i64 (ck a n)))
  | _ => none
theorem Gck_ok : ∀ g s, Gck careV chkP g = some s → SummT Try.prog g s := fun g s h => by
  unfold Gck at h
  split at h
  · cases h; exact S_care
  · cases h; exact S_check
  · cases h
noncomputable def T_run (cr : Int → Int) (ck : I2 Int) (a n : Int) : GT SV := GT.br (ck a n != (0 : Int))
    (GT.leaf
      (SV.tup [SV.agg [SV.int IntKind.u32 (0 : Int), SV.int IntKind.u32 (0 : Int)], SV.int IntKind.i64 (ck a n)]))
    (GT.br (decide ((0 : Int) ≤ n ∧ n ≤ (32 : Int)))
      (GT.leaf
        (SV.tup
          [SV.agg
              [SV.int IntKind.u32 a,
                SV.int IntKind.u32
                  (bits BinOp.or IntKind.u32 a (bits BinOp.xor IntKind.u32 (4294967295 : Int) (cr n)))],
            SV.int IntKind.i64 (0 : Int)]))
      GT.stop)
theorem e_run (cr : Int → Int) (ck : I2 Int) (a n : Int) : ev (Gck cr ck) 1 21 [px a n] = (T_run cr ck a n).opt := by kernel_rfl
noncomputable def T_has (cr : Int → Int) (ck : I2 Int) (a n x : Int) : GT SV := GT.br (ck a n == (0 : Int))
    (GT.br (decide ((0 : Int) ≤ n ∧ n ≤ (32 : Int)))
      (GT.br (bits BinOp.and IntKind.u32 x (cr n) == a) (GT.leaf (SV.bool true)) (GT.leaf (SV.bool false))) GT.stop)
    (GT.leaf (SV.bool false))
theorem e_has (cr : Int → Int) (ck : I2 Int) (a n x : Int) : ev (Gck cr ck) 1 18 [px a n, .int .u32 x] = (T_has cr ck a n x).opt := by kernel_rfl
noncomputable def T_halves (cr : Int → Int) (ck : I2 Int) (a n : Int) : GT SV := GT.br (ck a n != (0 : Int))
    (GT.leaf
      (SV.tup
        [SV.agg [SV.int IntKind.u32 (0 : Int), SV.int IntKind.i64 (0 : Int)],
          SV.agg [SV.int IntKind.u32 (0 : Int), SV.int IntKind.i64 (0 : Int)], SV.int IntKind.i64 (ck a n)]))
    (GT.br (n == (32 : Int))
      (GT.leaf
        (SV.tup
          [SV.agg [SV.int IntKind.u32 (0 : Int), SV.int IntKind.i64 (0 : Int)],
            SV.agg [SV.int IntKind.u32 (0 : Int), SV.int IntKind.i64 (0 : Int)], SV.int IntKind.i64 (22 : Int)]))
      (GT.br (decide (IntKind.i64.wrap ((31 : Int) - n) < (0 : Int))) GT.stop
        (GT.leaf
          (SV.tup
            [SV.agg [SV.int IntKind.u32 a, SV.int IntKind.i64 (IntKind.i64.wrap (n + (1 : Int)))],
              SV.agg
                [SV.int IntKind.u32
                    (bits BinOp.or IntKind.u32 a
                      (IntKind.u32.wrap
                        ((1 : Int) * (2 : Int) ^ min (IntKind.i64.wrap ((31 : Int) - n)).toNat (32 : Nat)))),
                  SV.int IntKind.i64 (IntKind.i64.wrap (n + (1 : Int)))],
              SV.int IntKind.i64 (0 : Int)]))))
theorem e_halves (cr : Int → Int) (ck : I2 Int) (a n : Int) : ev (Gck cr ck) 1 23 [px a n] = (T_halves cr ck a n).opt := by kernel_rfl
noncomputable def T_cu (a b : Int) : GT SV := GT.br (a != a) (GT.br (b != b) (GT.leaf (SV.int IntKind.i64 (0 : Int))) (GT.leaf (SV.int IntKind.i64 (-1 : Int))))
    (GT.br (b != b) (GT.leaf (SV.int IntKind.i64 (1 : Int)))
      (GT.br (decide (a < b)) (GT.leaf (SV.int IntKind.i64 (-1 : Int)))
        (GT.br (decide (b < a)) (GT.leaf (SV.int IntKind.i64 (1 : Int))) (GT.leaf (SV.int IntKind.i64 (0 : Int))))))
theorem e_cu (a b : Int) : ev G0 2 36 [.int .u32 a, .int .u32 b] = (T_cu a b).opt := by kernel_rfl
noncomputable def T_ci (a b : Int) : GT SV := GT.br (a != a) (GT.br (b != b) (GT.leaf (SV.int IntKind.i64 (0 : Int))) (GT.leaf (SV.int IntKind.i64 (-1 : Int))))
    (GT.br (b != b) (GT.leaf (SV.int IntKind.i64 (1 : Int)))
      (GT.br (decide (a < b)) (GT.leaf (SV.int IntKind.i64 (-1 : Int)))
        (GT.br (decide (b < a)) (GT.leaf (SV.int IntKind.i64 (1 : Int))) (GT.leaf (SV.int IntKind.i64 (0 : Int))))))
theorem e_ci (a b : Int) : ev G0 2 37 [.int .i64 a, .int .i64 b] = (T_ci a b).opt := by kernel_rfl
noncomputable def T_or2 (a b : Int) : GT SV := GT.br (a != (0 : Int)) (GT.leaf (SV.int IntKind.i64 a))
    (GT.br (b != (0 : Int)) (GT.leaf (SV.int IntKind.i64 b)) (GT.leaf (SV.int IntKind.i64 (0 : Int))))
theorem e_or2 (a b : Int) : ev G0 2 35 [.rows [.i .i64] [[a], [b]]] = (T_or2 a b).opt := by kernel_rfl
def cmpV (a b : Int) : Int := sure (decide (a < b)) (-1) (sure (decide (b < a)) 1 0)
def sgUU2 (f : Int → Int → GT SV) : List SV → GT SV
  | [.int .u32 a, .int .u32 b] => f a b
  | _ => .stop
theorem sgUU2.summ {P : Program} {g : FuncId} {s0 : List SV → Option SV} (h : Summ P g s0) {f : Int → Int → GT SV} (hf : ∀ (a : Int) (b : Int) sv, (f a b).opt = some sv → s0 [.int .u32 a, .int .u32 b] = some sv) : SummT P g (sgUU2 f) := h.weaken (by
  intro svs sv h'
  unfold sgUU2 at h'
  split at h'
  · exact hf _ _ sv h'
  · cases h')
def sgOr (f : Int → Int → GT SV) : List SV → GT SV
  | [.rows [.i .i64] [[a], [b]]] => f a b
  | _ => .stop
theorem sgOr.summ {P : Program} {g : FuncId} {s0 : List SV → Option SV} (h : Summ P g s0) {f : Int → Int → GT SV} (hf : ∀ (a : Int) (b : Int) sv, (f a b).opt = some sv → s0 [.rows [.i .i64] [[a], [b]]] = some sv) : SummT P g (sgOr f) := h.weaken (by
  intro svs sv h'
  unfold sgOr at h'
  split at h'
  · exact hf _ _ sv h'
  · cases h')
theorem S_cu : SummT Try.prog 36 (sgUU fun a b => .leaf (.int .i64 (cmpV a b))) := sgUU.summ (evFn_summ (facts G0_ok) 2 36) (fun a b sv h => by
  refine (e_cu a b).trans (Eq.trans ?_ h)
  unfold T_cu cmpV
  have ha : (a != a) = false := by simp
  have hb : (b != b) = false := by simp
  rw [ha, hb]
  cases decide (a < b) <;> cases decide (b < a) <;> rfl)
theorem S_ci : SummT Try.prog 37 (sgII fun a b => .leaf (.int .i64 (cmpV a b))) := sgII.summ (evFn_summ (facts G0_ok) 2 37) (fun a b sv h => by
  refine (e_ci a b).trans (Eq.trans ?_ h)
  unfold T_ci cmpV
  have ha : (a != a) = false := by simp
  have hb : (b != b) = false := by simp
  rw [ha, hb]
  cases decide (a < b) <;> cases decide (b < a) <;> rfl)
def orV (a b : Int) : Int := sure (a != 0) a (sure (b != 0) b 0)
theorem S_or : SummT Try.prog 35 (sgOr fun a b => .leaf (.int .i64 (orV a b))) := sgOr.summ (evFn_summ (facts G0_ok) 2 35) (fun a b sv h => by
  refine (e_or2 a b).trans (Eq.trans ?_ h)
  unfold T_or2 orV
  cases (a != 0) <;> cases (b != 0) <;> rfl)
noncomputable def Gcmp (cu ci ov : I2 Int) : FuncId → Option (List SV → GT SV)
  | 36 => some (sgUU fun a b => .leaf (.int .i64 (cu a b)))
  | 37 => some (sgII fun a b => .leaf (.int .i64 (ci a b)))
  | 35 => some (sgOr fun a b => .leaf (.int .i64 (ov a b)))
  | _ => none
theorem Gcmp_ok : ∀ g s, Gcmp cmpV cmpV orV g = some s → SummT Try.prog g s := fun g s h => by
  unfold Gcmp at h
  split at h
  · cases h; exact S_cu
  · cases h; exact S_ci
  · cases h; exact S_or
  · cases h
noncomputable def T_cmp (cu ci ov : I2 Int) (a n b m : Int) : GT SV := GT.leaf (SV.int IntKind.i64 (ov (cu a b) (ci n m)))
theorem e_cmp (cu ci ov : I2 Int) (a n b m : Int) : ev (Gcmp cu ci ov) 1 16 [px a n, px b m] = (T_cmp cu ci ov a n b m).opt := by kernel_rfl
end Go.Sx.Mk


/- Layer 2, by value: the program's functions on prefixes, what they answer. -/
namespace Go.Sx.Mk
open Go.Proofs Go.RowKit
def badN (n : Int) : Bool := decide (n < 0) || decide (32 < n)
theorem badN_no {n : Int} (h : badN n = false) : 0 ≤ n ∧ n ≤ 32 := by
  simp only [badN, Bool.or_eq_false_iff, decide_eq_false_iff_not] at h
  omega
def ofA (a n : Int) : Int := sure (badN n) 0 (Go.bits .and .u32 a (careV n))
def ofN (n : Int) : Int := sure (badN n) 0 n
def ofE (n : Int) : Int := sure (badN n) 20 0
theorem S_of : SummT Try.prog 19 (sgUI fun a n => .leaf (.tup [px (ofA a n) (ofN n), .int .i64 (ofE n)])) := sgUI.summ (evFn_summ (facts Gcare_ok) 1 19) (fun a n sv h => by
  refine (e_of careV a n).trans (Eq.trans ?_ h)
  unfold T_of ofA ofN ofE badN
  by_cases h1 : n < 0
  · rw [decide_eq_true h1]; rfl
  · by_cases h2 : 32 < n
    · rw [decide_eq_false h1, decide_eq_true h2]; rfl
    · rw [decide_eq_false h1, decide_eq_false h2, decide_eq_true (show 0 ≤ n ∧ n ≤ 32 by omega)]; rfl)
theorem ne_of {c : Int} {b : Bool} (h : (c != 0) = b) : b = false → c = 0 := by
  rintro rfl; simpa using h
def runLo (a n : Int) : Int := sure (chkP a n != 0) 0 a
def runHi (a n : Int) : Int := sure (chkP a n != 0) 0 (Go.bits .or .u32 a (Go.bits .xor .u32 4294967295 (careV n)))
theorem S_run : SummT Try.prog 21 (sgP fun a n => .leaf (.tup [.agg [.int .u32 (runLo a n), .int .u32 (runHi a n)], .int .i64 (chkP a n)])) := sgP.summ (evFn_summ (facts Gck_ok) 1 21) (fun a n sv h => by
  refine (e_run careV chkP a n).trans (Eq.trans ?_ h)
  unfold T_run runLo runHi
  cases hc : (chkP a n != 0) with
  | true => rfl
  | false =>
    have h0 := ne_of hc rfl
    rw [decide_eq_true (chkP_ok h0), h0]; rfl)
def hasP (a n x : Int) : Bool := chkP a n == 0 && Go.bits .and .u32 x (careV n) == a
theorem S_has : SummT Try.prog 18 (sgPU fun a n x => .leaf (.bool (hasP a n x))) := sgPU.summ (evFn_summ (facts Gck_ok) 1 18) (fun a n x sv h => by
  refine (e_has careV chkP a n x).trans (Eq.trans ?_ h)
  unfold T_has hasP
  cases hc : (chkP a n == 0) with
  | false => rfl
  | true =>
    rw [decide_eq_true (chkP_ok (eq_of_beq hc))]
    cases (Go.bits .and .u32 x (careV n) == a) <;> rfl)
def hlA (a n : Int) : Int := sure (chkP a n != 0) 0 (sure (n == 32) 0 a)
def hlN (a n : Int) : Int := sure (chkP a n != 0) 0 (sure (n == 32) 0 (IntKind.wrap .i64 (n + 1)))
def hhA (a n : Int) : Int := sure (chkP a n != 0) 0 (sure (n == 32) 0 (Go.bits .or .u32 a (IntKind.wrap .u32 (1 * 2 ^ (min (IntKind.wrap .i64 (31 - n)).toNat 32)))))
def hE (a n : Int) : Int := sure (chkP a n != 0) (chkP a n) (sure (n == 32) 22 0)
theorem S_halves : SummT Try.prog 23 (sgP fun a n => .leaf (.tup [px (hlA a n) (hlN a n), px (hhA a n) (hlN a n), .int .i64 (hE a n)])) := sgP.summ (evFn_summ (facts Gck_ok) 1 23) (fun a n sv h => by
  refine (e_halves careV chkP a n).trans (Eq.trans ?_ h)
  unfold T_halves hlA hlN hhA hE
  cases hc : (chkP a n != 0) with
  | true => rfl
  | false =>
    have h0 := chkP_ok (ne_of hc rfl)
    cases h3 : (n == 32) with
    | true => rfl
    | false =>
      have hn : n ≠ 32 := by simpa using h3
      have hw : IntKind.wrap .i64 (31 - n) = 31 - n := wrap_i64 (by omega) (by omega)
      rw [hw, decide_eq_false (show ¬ (31 - n < 0) by omega)]; rfl)
def cmpPV (a n b m : Int) : Int := orV (cmpV a b) (cmpV n m)
theorem S_cmp : SummT Try.prog 16 (sgPP fun a n b m => .leaf (.int .i64 (cmpPV a n b m))) := sgPP.summ (evFn_summ (facts Gcmp_ok) 1 16) (fun a n b m sv h => (e_cmp cmpV cmpV orV a n b m).trans h)
/-- how many bits a byte has -/
def strAt8 (n : Int) : Int := sure (decide (n < 1)) 0 (sure (decide (n < 2)) 1 (sure (decide (n < 4)) 2 (sure (decide (n < 8)) 3 (sure (decide (n < 16)) 4 (sure (decide (n < 32)) 5 (sure (decide (n < 64)) 6 (sure (decide (n < 128)) 7 8)))))))
def tabV (n : Int) : Int := IntKind.wrap .i64 (strAt8 (IntKind.wrap .u8 n))
def lzV (a : Int) : Int := IntKind.wrap .i64 (32 - IntKind.wrap .i64 (sure (decide (65536 ≤ a)) (sure (decide (256 ≤ a.fdiv 65536)) (24 + tabV ((a.fdiv 65536).fdiv 256)) (16 + tabV (a.fdiv 65536))) (sure (decide (256 ≤ a)) (8 + tabV (a.fdiv 256)) (0 + tabV a))))
theorem strAt8_eq (n : Int) : strAt lenTab (IntKind.wrap .u8 n).toNat = strAt8 (IntKind.wrap .u8 n) := by
  have h := wrap_u8_in n
  have key : (List.range 256).all (fun k => strAt lenTab k == strAt8 (Int.ofNat k)) = true := by kernel_rfl
  obtain ⟨k, hk, hlt⟩ := nat_of (b := 256) h
  rw [hk]
  exact eq_of_beq (List.all_eq_true.1 key k (by simpa using hlt))
theorem S_lz : SummT Try.prog 40 (sgU fun a => .leaf (.int .i64 (lzV a))) := sgU.summ (evFn_summ (facts G0_ok) 2 40) (fun a sv h => by
  refine (e_len32 a).trans (Eq.trans ?_ h)
  unfold T_len32 lzV tabV
  simp only [strAt8_eq, wrap_u8_in, and_self, decide_true]
  cases decide (65536 ≤ a) <;> cases decide (256 ≤ a.fdiv 65536) <;> cases decide (256 ≤ a) <;> rfl)
noncomputable def Gtop (cr : Int → Int) (ck : I2 Int) (hs : I3 Bool) (lz : Int → Int) (oa : I2 Int) (on oe : Int → Int) : FuncId → Option (List SV → GT SV)
  | 33 => some (sgI fun n => .when (decide (0 ≤ n ∧ n ≤ 32)) (.leaf (.int .u32 (cr n))))
  | 26 => some (sgP fun a n => .leaf (.int .i64 (ck a n)))
  | 18 => some (sgPU fun a n x => .leaf (.bool (hs a n x)))
  | 40 => some (sgU fun a => .leaf (.int .i64 (lz a)))
  | 19 => some (sgUI fun a n => .leaf (.tup [px (oa a n) (on n), .int .i64 (oe n)]))
  | _ => none
theorem Gtop_ok : ∀ g s, Gtop careV chkP hasP lzV ofA ofN ofE g = some s → SummT Try.prog g s := fun g s h => by
  unfold Gtop at h
  split at h
  · cases h; exact S_care
  · cases h; exact S_check
  · cases h; exact S_has
  · cases h; exact S_lz
  · cases h; exact S_of
  · cases h
noncomputable def T_within (cr : Int → Int) (ck : I2 Int) (hs : I3 Bool) (lz : Int → Int) (oa : I2 Int) (on oe : Int → Int) (a n b m : Int) : GT SV := GT.br (ck a n == (0 : Int)) (GT.br (decide (m ≤ n)) (GT.leaf (SV.bool (hs b m a))) (GT.leaf (SV.bool false)))
    (GT.leaf (SV.bool false))
theorem e_within (cr : Int → Int) (ck : I2 Int) (hs : I3 Bool) (lz : Int → Int) (oa : I2 Int) (on oe : Int → Int) (a n b m : Int) : ev (Gtop cr ck hs lz oa on oe) 1 17 [px a n, px b m] = (T_within cr ck hs lz oa on oe a n b m).opt := by kernel_rfl
noncomputable def T_common (cr : Int → Int) (ck : I2 Int) (hs : I3 Bool) (lz : Int → Int) (oa : I2 Int) (on oe : Int → Int) (a n b m : Int) : GT SV := GT.br (ck a n != (0 : Int))
    (GT.leaf
      (SV.tup [SV.agg [SV.int IntKind.u32 (0 : Int), SV.int IntKind.i64 (0 : Int)], SV.int IntKind.i64 (ck a n)]))
    (GT.br (ck b m != (0 : Int))
      (GT.leaf
        (SV.tup [SV.agg [SV.int IntKind.u32 (0 : Int), SV.int IntKind.i64 (0 : Int)], SV.int IntKind.i64 (ck b m)]))
      (GT.leaf
        (SV.tup
          [SV.agg
              [SV.int IntKind.u32 (oa a (imin (imin n m) (lz (bits BinOp.xor IntKind.u32 a b)))),
                SV.int IntKind.i64 (on (imin (imin n m) (lz (bits BinOp.xor IntKind.u32 a b))))],
            SV.int IntKind.i64 (oe (imin (imin n m) (lz (bits BinOp.xor IntKind.u32 a b))))])))
theorem e_common (cr : Int → Int) (ck : I2 Int) (hs : I3 Bool) (lz : Int → Int) (oa : I2 Int) (on oe : Int → Int) (a n b m : Int) : ev (Gtop cr ck hs lz oa on oe) 1 29 [px a n, px b m] = (T_common cr ck hs lz oa on oe a n b m).opt := by kernel_rfl
end Go.Sx.Mk


/- Layer 2, by value: the reference's functions on prefixes. -/
namespace Go.Sx.Mk
open Go.Proofs Go.RowKit
noncomputable def T_bit (a i : Int) : GT SV := GT.br (decide (IntKind.u64.wrap (IntKind.i64.wrap ((31 : Int) - i)) < (0 : Int))) GT.stop
    (GT.leaf
      (SV.int IntKind.i64
        ((IntKind.i64.wrap
              (a.fdiv ((2 : Int) ^ min (IntKind.u64.wrap (IntKind.i64.wrap ((31 : Int) - i))).toNat (32 : Nat)))).tmod
          (2 : Int))))
theorem e_bit (a i : Int) : ev G0 1 34 [.int .u32 a, .int .i64 i] = (T_bit a i).opt := by kernel_rfl
noncomputable def T_one (i : Int) : GT SV := GT.br (decide (IntKind.u64.wrap (IntKind.i64.wrap ((31 : Int) - i)) < (0 : Int))) GT.stop
    (GT.leaf
      (SV.int IntKind.u32
        (IntKind.u32.wrap
          ((1 : Int) * (2 : Int) ^ min (IntKind.u64.wrap (IntKind.i64.wrap ((31 : Int) - i))).toNat (32 : Nat)))))
theorem e_one (i : Int) : ev G0 1 38 [.int .i64 i] = (T_one i).opt := by kernel_rfl
def bitV (a i : Int) : Int := (IntKind.wrap .i64 (a.fdiv (2 ^ min (IntKind.wrap .u64 (IntKind.wrap .i64 (31 - i))).toNat 32))).tmod 2
def oneV (i : Int) : Int := IntKind.wrap .u32 (1 * 2 ^ min (IntKind.wrap .u64 (IntKind.wrap .i64 (31 - i))).toNat 32)
theorem wrap_u64_pos (n : Int) : ¬ (IntKind.wrap .u64 n < 0) := by
  simp [IntKind.wrap, IntKind.signed, IntKind.bits]
  omega
theorem S_bit : SummT Try.prog 34 (sgUI fun a i => .leaf (.int .i64 (bitV a i))) := sgUI.summ (evFn_summ (facts G0_ok) 1 34) (fun a i sv h => by
  refine (e_bit a i).trans (Eq.trans ?_ h)
  unfold T_bit bitV
  rw [decide_eq_false (wrap_u64_pos _)]; rfl)
theorem S_one : SummT Try.prog 38 (sgI fun i => .leaf (.int .u32 (oneV i))) := sgI.summ (evFn_summ (facts G0_ok) 1 38) (fun i sv h => by
  refine (e_one i).trans (Eq.trans ?_ h)
  unfold T_one oneV
  rw [decide_eq_false (wrap_u64_pos _)]; rfl)
noncomputable def Gbit (bt : I2 Int) (on : Int → Int) : FuncId → Option (List SV → GT SV)
  | 34 => some (sgUI fun a i => .leaf (.int .i64 (bt a i)))
  | 38 => some (sgI fun i => .leaf (.int .u32 (on i)))
  | _ => none
theorem Gbit_ok : ∀ g s, Gbit bitV oneV g = some s → SummT Try.prog g s := fun g s h => by
  unfold Gbit at h
  split at h
  · cases h; exact S_bit
  · cases h; exact S_one
  · cases h
noncomputable def bodyrc : Code := bodyOf 15 [0,1,0,1,1]
def liverc : List (Nat × Option (List CK)) := [(1, none), (3, none)]
def outrc : List (Nat × Option (List CK)) := [(2, none)]
def mkrc (a : Int) (n : Int) (i : Int) : St := ⟨sel 23 [1, 3] [.ptr 0 0, .int .i64 i], [.cells [.int .u32 a, .int .i64 n]]⟩
def finrc (s : SV) : St := ⟨sel 23 [2] [s], []⟩
structure Xrc where
  a : Int
  n : Int
  i : Int
def Xrc.st (x : Xrc) : St := mkrc x.a x.n x.i
def pickrc : List SV → List Blk → Option Xrc
  | [.ptr 0 0, .int .i64 i], [.cells [.int .u32 a, .int .i64 n]] => some ⟨a, n, i⟩
  | _, _ => none
theorem pickrc_ok : ∀ vals mem x, pickrc vals mem = some x → x.st = ⟨sel 23 [1, 3] vals, mem⟩ := by
  intro vals mem x h
  unfold pickrc at h
  split at h
  · cases h; rfl
  · cases h
theorem step_rc (bt : I2 Int) (on : Int → Int) (again : St → Option (E × St)) (a n i : Int) : step Try.prog (Gbit bt on) ents [] 1 bodyrc liverc outrc again (mkrc a n i) = sure (decide (i < (32 : Int)))
    (sure (bt a i == (1 : Int)) (some (E.ret, finrc (SV.int IntKind.i64 (21 : Int))))
      (again (mkrc a n (IntKind.i64.wrap (i + (1 : Int))))))
    (some (E.brk (0 : Nat), finrc SV.poison)) := by kernel_rfl
noncomputable def bodyro : Code := bodyOf 20 [0,1,0,1,1,1]
def livero : List (Nat × Option (List CK)) := [(0, none), (1, none), (4, none), (6, none), (7, none)]
def outro : List (Nat × Option (List CK)) := [(4, none), (6, none)]
def mkro (a : Int) (n : Int) (z0 : Int) (z1 : Int) (pa : Int) (pn : Int) (i : Int) : St := ⟨sel 33 [0, 1, 4, 6, 7] [.int .u32 a, .int .i64 n, .ptr 0 0, .ptr 1 0, .int .i64 i], [.cells [.int .u32 z0, .int .i64 z1], .cells [.int .u32 pa, .int .i64 pn]]⟩
def finro (z0 : Int) (z1 : Int) (pa : Int) (pn : Int) : St := ⟨sel 33 [4, 6] [.ptr 0 0, .ptr 1 0], [.cells [.int .u32 z0, .int .i64 z1], .cells [.int .u32 pa, .int .i64 pn]]⟩
structure Xro where
  a : Int
  n : Int
  z0 : Int
  z1 : Int
  pa : Int
  pn : Int
  i : Int
def Xro.st (x : Xro) : St := mkro x.a x.n x.z0 x.z1 x.pa x.pn x.i
def pickro : List SV → List Blk → Option Xro
  | [.int .u32 a, .int .i64 n, .ptr 0 0, .ptr 1 0, .int .i64 i], [.cells [.int .u32 z0, .int .i64 z1], .cells [.int .u32 pa, .int .i64 pn]] => some ⟨a, n, z0, z1, pa, pn, i⟩
  | _, _ => none
theorem pickro_ok : ∀ vals mem x, pickro vals mem = some x → x.st = ⟨sel 33 [0, 1, 4, 6, 7] vals, mem⟩ := by
  intro vals mem x h
  unfold pickro at h
  split at h
  · cases h; rfl
  · cases h
theorem step_ro (bt : I2 Int) (on : Int → Int) (again : St → Option (E × St)) (a n z0 z1 pa pn i : Int) : step Try.prog (Gbit bt on) ents [] 1 bodyro livero outro again (mkro a n z0 z1 pa pn i) = sure (decide (i < n))
    (sure (bt a i == (1 : Int))
      (again (mkro a n z0 z1 (IntKind.u32.wrap (pa + on i)) pn (IntKind.i64.wrap (i + (1 : Int)))))
      (again (mkro a n z0 z1 pa pn (IntKind.i64.wrap (i + (1 : Int))))))
    (some (E.brk (0 : Nat), finro z0 z1 pa pn)) := by kernel_rfl
noncomputable def bodyrr : Code := bodyOf 22 [0,1,0,1,1,1,1]
def liverr : List (Nat × Option (List CK)) := [(2, none), (5, none), (6, none)]
def outrr : List (Nat × Option (List CK)) := [(2, none), (5, none)]
def mkrr (z0 : Int) (z1 : Int) (lo : Int) (hi : Int) (i : Int) : St := ⟨sel 31 [2, 5, 6] [.ptr 0 0, .ptr 1 0, .int .i64 i], [.cells [.int .u32 z0, .int .u32 z1], .cells [.int .u32 lo, .int .u32 hi]]⟩
def finrr (z0 : Int) (z1 : Int) (lo : Int) (hi : Int) : St := ⟨sel 31 [2, 5] [.ptr 0 0, .ptr 1 0], [.cells [.int .u32 z0, .int .u32 z1], .cells [.int .u32 lo, .int .u32 hi]]⟩
structure Xrr where
  z0 : Int
  z1 : Int
  lo : Int
  hi : Int
  i : Int
def Xrr.st (x : Xrr) : St := mkrr x.z0 x.z1 x.lo x.hi x.i
def pickrr : List SV → List Blk → Option Xrr
  | [.ptr 0 0, .ptr 1 0, .int .i64 i], [.cells [.int .u32 z0, .int .u32 z1], .cells [.int .u32 lo, .int .u32 hi]] => some ⟨z0, z1, lo, hi, i⟩
  | _, _ => none
theorem pickrr_ok : ∀ vals mem x, pickrr vals mem = some x → x.st = ⟨sel 31 [2, 5, 6] vals, mem⟩ := by
  intro vals mem x h
  unfold pickrr at h
  split at h
  · cases h; rfl
  · cases h
theorem step_rr (bt : I2 Int) (on : Int → Int) (again : St → Option (E × St)) (z0 z1 lo hi i : Int) : step Try.prog (Gbit bt on) ents [] 1 bodyrr liverr outrr again (mkrr z0 z1 lo hi i) = sure (decide (i < (32 : Int)))
    (again (mkrr z0 z1 lo (IntKind.u32.wrap (hi + on i)) (IntKind.i64.wrap (i + (1 : Int)))))
    (some (E.brk (0 : Nat), finrr z0 z1 lo hi)) := by kernel_rfl
noncomputable def bodyrh : Code := bodyOf 25 [0,1,0,1,1]
def liverh : List (Nat × Option (List CK)) := [(1, none), (2, none), (5, none)]
def outrh : List (Nat × Option (List CK)) := [(4, none)]
def mkrh (a : Int) (n : Int) (x : Int) (i : Int) : St := ⟨sel 23 [1, 2, 5] [.int .u32 x, .ptr 0 0, .int .i64 i], [.cells [.int .u32 a, .int .i64 n]]⟩
def finrh (s : SV) : St := ⟨sel 23 [4] [s], []⟩
structure Xrh where
  a : Int
  n : Int
  x : Int
  i : Int
def Xrh.st (x : Xrh) : St := mkrh x.a x.n x.x x.i
def pickrh : List SV → List Blk → Option Xrh
  | [.int .u32 x, .ptr 0 0, .int .i64 i], [.cells [.int .u32 a, .int .i64 n]] => some ⟨a, n, x, i⟩
  | _, _ => none
theorem pickrh_ok : ∀ vals mem x, pickrh vals mem = some x → x.st = ⟨sel 23 [1, 2, 5] vals, mem⟩ := by
  intro vals mem x h
  unfold pickrh at h
  split at h
  · cases h; rfl
  · cases h
theorem step_rh (bt : I2 Int) (on : Int → Int) (again : St → Option (E × St)) (a n x i : Int) : step Try.prog (Gbit bt on) ents [] 1 bodyrh liverh outrh again (mkrh a n x i) = sure (decide (i < n))
    (sure (bt a i != bt x i) (some (E.ret, finrh (SV.bool false)))
      (again (mkrh a n x (IntKind.i64.wrap (i + (1 : Int))))))
    (some (E.brk (0 : Nat), finrh SV.poison)) := by kernel_rfl
end Go.Sx.Mk


/- Layer 2, by value: the reference's functions on prefixes, what they answer. -/
namespace Go.Sx.Mk
open Go.Proofs Go.RowKit
def anyB (bt : I2 Int) (a : Int) : Nat → Bool
  | 0 => false
  | k + 1 => (bt a (32 - (k + 1 : Nat)) == 1) || anyB bt a k
theorem next_i {t : Int} {k : Nat} (h : -1000 ≤ t ∧ t ≤ 1000) (hk : k ≤ 1000) : IntKind.wrap .i64 (t - ((k + 1 : Nat) : Int) + 1) = t - (k : Int) := by rw [wrap_i64 (by omega) (by omega)]; omega
theorem run_rc (bt : I2 Int) (on : Int → Int) (a n : Int) : ∀ (k : Nat), k ≤ 32 →
    loopN (step Try.prog (Gbit bt on) ents [] 1 bodyrc liverc outrc) (k + 1) (mkrc a n (32 - (k : Nat))) = some (if anyB bt a k then (.ret, finrc (.int .i64 21)) else (.brk 0, finrc .poison))
  | 0, _ => by
    show step _ _ _ _ _ _ _ _ _ _ = _
    rw [step_rc]
    simp [anyB, sure]
  | k + 1, hk => by
    show step _ _ _ _ _ _ _ _ (loopN _ (k + 1)) _ = _
    rw [step_rc, next_i (by omega) (by omega), run_rc bt on a n k (by omega)]
    have hl : decide (32 - ((k + 1 : Nat) : Int) < 32) = true := decide_eq_true (by omega)
    rw [hl]
    simp only [anyB]
    rcases Bool.eq_false_or_eq_true (bt a (32 - ((k + 1 : Nat) : Int)) == 1) with hb | hb
    · simp only [hb, sure, Bool.true_or, if_true]
    · simp only [hb, sure, Bool.false_or]
def okN (n : Int) : Bool := decide (0 ≤ n ∧ n ≤ 32)
theorem okN_k {n : Int} (h : okN n = true) : ∃ k : Nat, n = (k : Int) ∧ k ≤ 32 := by
  have := of_decide_eq_true h
  obtain ⟨k, rfl, hk⟩ := nat_of (n := n) (b := 33) (by omega)
  exact ⟨k, rfl, by omega⟩
def anyV (a n : Int) : Bool := anyB bitV a (32 - n).toNat
theorem looprc : LoopOK Try.prog bodyrc (fun st => (sumT 23 [1, 3] pickrc (fun x => .when (x.i == x.n && okN x.n) (.br (anyV x.a x.n) (.leaf (.ret, finrc (.int .i64 21))) (.leaf (.brk 0, finrc .poison)))) st).opt) := by
  refine loop_two (imp := []) (facts Gbit_ok) 0 1 bodyrc (lpOK_none _) liverc outrc 23 [1, 3] pickrc Xrc.st (fun x => x.i == x.n && okN x.n) (fun x => anyV x.a x.n) _ _ pickrc_ok ?_
  intro x h1 _
  rw [Bool.and_eq_true] at h1
  obtain ⟨k, hk, hk2⟩ := okN_k h1.2
  have h5 := run_rc bitV oneV x.a x.n (32 - k) (by omega)
  refine ⟨32 - k + 1, ?_⟩
  unfold Xrc.st anyV
  rw [eq_of_beq h1.1]
  have e1 : (32 : Int) - ((32 - k : Nat) : Int) = x.n := by omega
  have e2 : (32 - x.n).toNat = 32 - k := by omega
  rw [e1] at h5
  rw [e2]
  exact h5
def annrc (av : I2 Bool) : Ann := ⟨liverc, 0, some (sumT 23 [1, 3] pickrc (fun x => .when (x.i == x.n && okN x.n) (.br (av x.a x.n) (.leaf (.ret, finrc (.int .i64 21))) (.leaf (.brk 0, finrc .poison)))))⟩
noncomputable def T_rchk (bt : I2 Int) (on : Int → Int) (av : I2 Bool) (a n : Int) : GT SV := GT.br (decide (n < (0 : Int))) (GT.leaf (SV.int IntKind.i64 (20 : Int)))
    (GT.br (decide ((32 : Int) < n)) (GT.leaf (SV.int IntKind.i64 (20 : Int)))
      (GT.br (n == n && decide ((0 : Int) ≤ n ∧ n ≤ (32 : Int)))
        (GT.br (av a n) (GT.leaf (SV.int IntKind.i64 (21 : Int))) (GT.leaf (SV.int IntKind.i64 (0 : Int)))) GT.stop))
theorem e_rchk (bt : I2 Int) (on : Int → Int) (av : I2 Bool) (a n : Int) : evFn Try.prog (Gbit bt on) ents [] (lpL [(15, [0, 1, 0, 1, 1], annrc av)]) 1 15 [px a n] = (T_rchk bt on av a n).opt := by kernel_rfl
def sumB (bt : I2 Int) (on : Int → Int) (a n : Int) : Nat → Int → Int
  | 0, p => p
  | k + 1, p => sumB bt on a n k (sure (bt a (n - (k + 1 : Nat)) == 1) (IntKind.wrap .u32 (p + on (n - (k + 1 : Nat)))) p)
theorem run_ro (bt : I2 Int) (on : Int → Int) (a n z0 z1 pn : Int) (hn : 0 ≤ n ∧ n ≤ 32) : ∀ (k : Nat) (pa : Int), k ≤ 32 →
    loopN (step Try.prog (Gbit bt on) ents [] 1 bodyro livero outro) (k + 1) (mkro a n z0 z1 pa pn (n - (k : Nat))) = some (.brk 0, finro z0 z1 (sumB bt on a n k pa) pn)
  | 0, pa, _ => by
    show step _ _ _ _ _ _ _ _ _ _ = _
    rw [step_ro]
    simp [sumB, sure]
  | k + 1, pa, hk => by
    show step _ _ _ _ _ _ _ _ (loopN _ (k + 1)) _ = _
    rw [step_ro, next_i (by omega) (by omega)]
    have hl : decide (n - ((k + 1 : Nat) : Int) < n) = true := decide_eq_true (by omega)
    have ih := fun pa => run_ro bt on a n z0 z1 pn hn k pa (by omega)
    rw [hl]
    simp only [sure, sumB]
    cases (bt a (n - ((k + 1 : Nat) : Int)) == 1) <;> exact ih _
def sumV (a n p : Int) : Int := sumB bitV oneV a n n.toNat p
theorem loopro : LoopOK Try.prog bodyro (fun st => (sumT 33 [0, 1, 4, 6, 7] pickro (fun x => .when (x.i == 0 && okN x.n) (.leaf (.brk 0, finro x.z0 x.z1 (sumV x.a x.n x.pa) x.pn))) st).opt) := by
  refine loop_one (imp := []) (facts Gbit_ok) 0 1 bodyro (lpOK_none _) livero outro 33 [0, 1, 4, 6, 7] pickro Xro.st (fun x => x.i == 0 && okN x.n) _ pickro_ok ?_
  intro x h1 _
  rw [Bool.and_eq_true] at h1
  obtain ⟨k, hk, hk2⟩ := okN_k h1.2
  have h5 := run_ro bitV oneV x.a x.n x.z0 x.z1 x.pn (by omega) k x.pa (by omega)
  refine ⟨k + 1, ?_⟩
  unfold Xro.st sumV
  rw [eq_of_beq h1.1]
  have e1 : x.n - (k : Int) = 0 := by omega
  have e2 : x.n.toNat = k := by omega
  rw [e1] at h5
  rw [e2]
  exact h5
def annro (sv : I3 Int) : Ann := ⟨livero, 0, some (sumT 33 [0, 1, 4, 6, 7] pickro (fun x => .when (x.i == 0 && okN x.n) (.leaf (.brk 0, finro x.z0 x.z1 (sv x.a x.n x.pa) x.pn))))⟩
noncomputable def T_rof (bt : I2 Int) (on : Int → Int) (sv : I3 Int) (a n : Int) : GT SV := GT.br (decide (n < (0 : Int)))
    (GT.leaf
      (SV.tup [SV.agg [SV.int IntKind.u32 (0 : Int), SV.int IntKind.i64 (0 : Int)], SV.int IntKind.i64 (20 : Int)]))
    (GT.br (decide ((32 : Int) < n))
      (GT.leaf
        (SV.tup [SV.agg [SV.int IntKind.u32 (0 : Int), SV.int IntKind.i64 (0 : Int)], SV.int IntKind.i64 (20 : Int)]))
      (GT.br ((0 : Int) == (0 : Int) && decide ((0 : Int) ≤ n ∧ n ≤ (32 : Int)))
        (GT.leaf
          (SV.tup [SV.agg [SV.int IntKind.u32 (sv a n (0 : Int)), SV.int IntKind.i64 n], SV.int IntKind.i64 (0 : Int)]))
        GT.stop))
theorem e_rof (bt : I2 Int) (on : Int → Int) (sv : I3 Int) (a n : Int) : evFn Try.prog (Gbit bt on) ents [] (lpL [(20, [0, 1, 0, 1, 1, 1], annro sv)]) 1 20 [.int .u32 a, .int .i64 n] = (T_rof bt on sv a n).opt := by kernel_rfl
def onesB (on : Int → Int) : Nat → Int → Int
  | 0, h => h
  | k + 1, h => onesB on k (IntKind.wrap .u32 (h + on (32 - (k + 1 : Nat))))
theorem run_rr (bt : I2 Int) (on : Int → Int) (z0 z1 lo : Int) : ∀ (k : Nat) (hi : Int), k ≤ 32 →
    loopN (step Try.prog (Gbit bt on) ents [] 1 bodyrr liverr outrr) (k + 1) (mkrr z0 z1 lo hi (32 - (k : Nat))) = some (.brk 0, finrr z0 z1 lo (onesB on k hi))
  | 0, hi, _ => by
    show step _ _ _ _ _ _ _ _ _ _ = _
    rw [step_rr]
    simp [onesB, sure]
  | k + 1, hi, hk => by
    show step _ _ _ _ _ _ _ _ (loopN _ (k + 1)) _ = _
    rw [step_rr, next_i (by omega) (by omega)]
    have hl : decide (32 - ((k + 1 : Nat) : Int) < 32) = true := decide_eq_true (by omega)
    rw [hl]
    exact run_rr bt on z0 z1 lo k _ (by omega)
def onesV (n hi : Int) : Int := onesB oneV (32 - n).toNat hi
theorem looprr_r : LoopOK Try.prog bodyrr (fun st => (sumT 31 [2, 5, 6] pickrr (fun x => .when (okN x.i) (.leaf (.brk 0, finrr x.z0 x.z1 x.lo (onesV x.i x.hi)))) st).opt) := by
  refine loop_one (imp := []) (facts Gbit_ok) 0 1 bodyrr (lpOK_none _) liverr outrr 31 [2, 5, 6] pickrr Xrr.st (fun x => okN x.i) _ pickrr_ok ?_
  intro x h1 _
  obtain ⟨k, hk, hk2⟩ := okN_k h1
  have h5 := run_rr bitV oneV x.z0 x.z1 x.lo (32 - k) x.hi (by omega)
  refine ⟨32 - k + 1, ?_⟩
  unfold Xrr.st onesV
  have e1 : (32 : Int) - ((32 - k : Nat) : Int) = x.i := by omega
  have e2 : (32 - x.i).toNat = 32 - k := by omega
  rw [e1] at h5
  rw [e2]
  exact h5
def annrr (ov : I2 Int) : Ann := ⟨liverr, 0, some (sumT 31 [2, 5, 6] pickrr (fun x => .when (okN x.i) (.leaf (.brk 0, finrr x.z0 x.z1 x.lo (ov x.i x.hi)))))⟩
theorem Gx : True := trivial
def likeB (bt : I2 Int) (a x n : Int) : Nat → Bool
  | 0 => true
  | k + 1 => !(bt a (n - (k + 1 : Nat)) != bt x (n - (k + 1 : Nat))) && likeB bt a x n k
theorem run_rh (bt : I2 Int) (on : Int → Int) (a n x : Int) (hn : 0 ≤ n ∧ n ≤ 32) : ∀ (k : Nat), k ≤ 32 →
    loopN (step Try.prog (Gbit bt on) ents [] 1 bodyrh liverh outrh) (k + 1) (mkrh a n x (n - (k : Nat))) = some (if likeB bt a x n k then (.brk 0, finrh .poison) else (.ret, finrh (.bool false)))
  | 0, _ => by
    rw [loopN_succ]
    rw [step_rh]
    simp [likeB, sure]
  | k + 1, hk => by
    rw [loopN_succ]
    rw [step_rh, next_i (by omega) (by omega), run_rh bt on a n x hn k (by omega)]
    have hl : decide (n - ((k + 1 : Nat) : Int) < n) = true := decide_eq_true (by omega)
    rw [hl]
    simp only [likeB]
    rcases Bool.eq_false_or_eq_true (bt a (n - ((k + 1 : Nat) : Int)) != bt x (n - ((k + 1 : Nat) : Int))) with hb | hb
    · simp only [hb, sure, Bool.not_true, Bool.false_and, if_neg, Bool.false_eq_true, not_false_eq_true]
    · simp only [hb, sure, Bool.not_false, Bool.true_and]
def likeV (a x n : Int) : Bool := likeB bitV a x n n.toNat
theorem looprh_r : LoopOK Try.prog bodyrh (fun st => (sumT 23 [1, 2, 5] pickrh (fun x => .when (x.i == 0 && okN x.n) (.br (likeV x.a x.x x.n) (.leaf (.brk 0, finrh .poison)) (.leaf (.ret, finrh (.bool false))))) st).opt) := by
  refine loop_two (imp := []) (facts Gbit_ok) 0 1 bodyrh (lpOK_none _) liverh outrh 23 [1, 2, 5] pickrh Xrh.st (fun x => x.i == 0 && okN x.n) (fun x => likeV x.a x.x x.n) _ _ pickrh_ok ?_
  intro x h1 _
  rw [Bool.and_eq_true] at h1
  obtain ⟨k, hk, hk2⟩ := okN_k h1.2
  have h5 := run_rh bitV oneV x.a x.n x.x (by omega) k (by omega)
  refine ⟨k + 1, ?_⟩
  unfold Xrh.st likeV
  rw [eq_of_beq h1.1]
  have e1 : x.n - (k : Int) = 0 := by omega
  have e2 : x.n.toNat = k := by omega
  rw [e1] at h5
  rw [e2]
  exact h5
def annrh (lv : I3 Bool) : Ann := ⟨liverh, 0, some (sumT 23 [1, 2, 5] pickrh (fun x => .when (x.i == 0 && okN x.n) (.br (lv x.a x.x x.n) (.leaf (.brk 0, finrh .poison)) (.leaf (.ret, finrh (.bool false))))))⟩
theorem at_one {f0 : Nat} {p0 : List Nat} {ann : Ann} (h : LpAt f0 p0 ann) : ∀ x ∈ [(f0, p0, ann)], LpAt x.1 x.2.1 x.2.2 := by
  intro x hx
  rw [List.mem_singleton] at hx
  subst hx
  exact h
def chkR (a n : Int) : Int := sure (badN n) 20 (sure (anyV a n) 21 0)
theorem S_rchk : SummT Try.prog 15 (sgP fun a n => .leaf (.int .i64 (chkR a n))) := sgP.summ (evFn_summ (factsL Gbit_ok [(15, [0, 1, 0, 1, 1], annrc anyV)] (at_one (fun s h => by cases h; exact looprc))) 1 15) (fun a n sv h => by
  refine (e_rchk bitV oneV anyV a n).trans (Eq.trans ?_ h)
  unfold T_rchk chkR badN
  by_cases h1 : n < 0
  · rw [decide_eq_true h1]; rfl
  · by_cases h2 : 32 < n
    · rw [decide_eq_false h1, decide_eq_true h2]; rfl
    · have hok : decide (0 ≤ n ∧ n ≤ 32) = true := decide_eq_true (by omega)
      rw [decide_eq_false h1, decide_eq_false h2, hok, BEq.rfl]
      cases anyV a n <;> rfl)
theorem chkR_ok {a n : Int} (h : chkR a n = 0) : okN n = true := by
  unfold chkR at h
  cases hb : badN n with
  | true => rw [hb] at h; cases h
  | false => exact decide_eq_true (badN_no hb)
def rofA (a n : Int) : Int := sure (badN n) 0 (sumV a n 0)
theorem S_rof : SummT Try.prog 20 (sgUI fun a n => .leaf (.tup [px (rofA a n) (ofN n), .int .i64 (ofE n)])) := sgUI.summ (evFn_summ (factsL Gbit_ok [(20, [0, 1, 0, 1, 1, 1], annro sumV)] (at_one (fun s h => by cases h; exact loopro))) 1 20) (fun a n sv h => by
  refine (e_rof bitV oneV sumV a n).trans (Eq.trans ?_ h)
  unfold T_rof rofA ofN ofE badN
  by_cases h1 : n < 0
  · rw [decide_eq_true h1]; rfl
  · by_cases h2 : 32 < n
    · rw [decide_eq_false h1, decide_eq_true h2]; rfl
    · have hok : decide (0 ≤ n ∧ n ≤ 32) = true := decide_eq_true (by omega)
      rw [decide_eq_false h1, decide_eq_false h2, hok]; rfl)
noncomputable def Gr (bt : I2 Int) (on : Int → Int) (ck : I2 Int) : FuncId → Option (List SV → GT SV)
  | 34 => some (sgUI fun a i => .leaf (.int .i64 (bt a i)))
  | 38 => some (sgI fun i => .leaf (.int .u32 (on i)))
  | 15 => some (sgP fun a n => .leaf (.int .i64 (ck a n)))
  | _ => none
theorem Gr_ok : ∀ g s, Gr bitV oneV chkR g = some s → SummT Try.prog g s := fun g s h => by
  unfold Gr at h
  split at h
  · cases h; exact S_bit
  · cases h; exact S_one
  · cases h; exact S_rchk
  · cases h
noncomputable def T_rrun (bt : I2 Int) (on : Int → Int) (ck : I2 Int) (ov : I2 Int) (a n : Int) : GT SV := GT.br (ck a n != (0 : Int))
    (GT.leaf
      (SV.tup [SV.agg [SV.int IntKind.u32 (0 : Int), SV.int IntKind.u32 (0 : Int)], SV.int IntKind.i64 (ck a n)]))
    (GT.br (decide ((0 : Int) ≤ n ∧ n ≤ (32 : Int)))
      (GT.leaf (SV.tup [SV.agg [SV.int IntKind.u32 a, SV.int IntKind.u32 (ov n a)], SV.int IntKind.i64 (0 : Int)]))
      GT.stop)
theorem e_rrun (bt : I2 Int) (on : Int → Int) (ck : I2 Int) (ov : I2 Int) (a n : Int) : evFn Try.prog (Gr bt on ck) ents [] (lpL [(22, [0, 1, 0, 1, 1, 1, 1], annrr ov)]) 1 22 [px a n] = (T_rrun bt on ck ov a n).opt := by kernel_rfl
noncomputable def T_rhas (bt : I2 Int) (on : Int → Int) (ck : I2 Int) (lv : I3 Bool) (a n x : Int) : GT SV := GT.br (ck a n != (0 : Int)) (GT.leaf (SV.bool false))
    (GT.br ((0 : Int) == (0 : Int) && decide ((0 : Int) ≤ n ∧ n ≤ (32 : Int)))
      (GT.br (lv a x n) (GT.leaf (SV.bool true)) (GT.leaf (SV.bool false))) GT.stop)
theorem e_rhas (bt : I2 Int) (on : Int → Int) (ck : I2 Int) (lv : I3 Bool) (a n x : Int) : evFn Try.prog (Gr bt on ck) ents [] (lpL [(25, [0, 1, 0, 1, 1], annrh lv)]) 1 25 [px a n, .int .u32 x] = (T_rhas bt on ck lv a n x).opt := by kernel_rfl
noncomputable def T_rhalves (bt : I2 Int) (on : Int → Int) (ck : I2 Int) (a n : Int) : GT SV := GT.br (ck a n != (0 : Int))
    (GT.leaf
      (SV.tup
        [SV.agg [SV.int IntKind.u32 (0 : Int), SV.int IntKind.i64 (0 : Int)],
          SV.agg [SV.int IntKind.u32 (0 : Int), SV.int IntKind.i64 (0 : Int)], SV.int IntKind.i64 (ck a n)]))
    (GT.br (n == (32 : Int))
      (GT.leaf
        (SV.tup
          [SV.agg [SV.int IntKind.u32 (0 : Int), SV.int IntKind.i64 (0 : Int)],
            SV.agg [SV.int IntKind.u32 (0 : Int), SV.int IntKind.i64 (0 : Int)], SV.int IntKind.i64 (22 : Int)]))
      (GT.leaf
        (SV.tup
          [SV.agg [SV.int IntKind.u32 a, SV.int IntKind.i64 (IntKind.i64.wrap (n + (1 : Int)))],
            SV.agg
              [SV.int IntKind.u32 (IntKind.u32.wrap (a + on n)), SV.int IntKind.i64 (IntKind.i64.wrap (n + (1 : Int)))],
            SV.int IntKind.i64 (0 : Int)])))
theorem e_rhalves (bt : I2 Int) (on : Int → Int) (ck : I2 Int) (a n : Int) : ev (Gr bt on ck) 1 24 [px a n] = (T_rhalves bt on ck a n).opt := by kernel_rfl
noncomputable def T_rcmp (bt : I2 Int) (on : Int → Int) (ck : I2 Int) (a n b m : Int) : GT SV := GT.br (decide (a < b)) (GT.leaf (SV.int IntKind.i64 (-1 : Int)))
    (GT.br (a == b)
      (GT.br (decide (n < m)) (GT.leaf (SV.int IntKind.i64 (-1 : Int)))
        (GT.br (a == b && (n == m && true)) (GT.leaf (SV.int IntKind.i64 (0 : Int)))
          (GT.leaf (SV.int IntKind.i64 (1 : Int)))))
      (GT.br (a == b && (n == m && true)) (GT.leaf (SV.int IntKind.i64 (0 : Int)))
        (GT.leaf (SV.int IntKind.i64 (1 : Int)))))
theorem e_rcmp (bt : I2 Int) (on : Int → Int) (ck : I2 Int) (a n b m : Int) : ev (Gr bt on ck) 1 32 [px a n, px b m] = (T_rcmp bt on ck a n b m).opt := by kernel_rfl
def rrunHi (a n : Int) : Int := sure (chkR a n != 0) 0 (onesV n a)
def rrunLo (a n : Int) : Int := sure (chkR a n != 0) 0 a
theorem Gr_loop {f0 : Nat} {p0 : List Nat} {ann : Ann} (h : LpAt f0 p0 ann) : Facts Try.prog (Gr bitV oneV chkR) ents (lpL [(f0, p0, ann)]) := factsL Gr_ok _ (at_one h)
theorem S_rrun : SummT Try.prog 22 (sgP fun a n => .leaf (.tup [.agg [.int .u32 (rrunLo a n), .int .u32 (rrunHi a n)], .int .i64 (chkR a n)])) := sgP.summ (evFn_summ (Gr_loop (ann := annrr onesV) (fun s h => by cases h; exact looprr_r)) 1 22) (fun a n sv h => by
  refine (e_rrun bitV oneV chkR onesV a n).trans (Eq.trans ?_ h)
  unfold T_rrun rrunLo rrunHi
  cases hc : (chkR a n != 0) with
  | true => rfl
  | false =>
    have h0 := ne_of hc rfl
    rw [decide_eq_true (of_decide_eq_true (chkR_ok h0)), h0]; rfl)
def hasR (a n x : Int) : Bool := sure (chkR a n != 0) false (likeV a x n)
theorem S_rhas : SummT Try.prog 25 (sgPU fun a n x => .leaf (.bool (hasR a n x))) := sgPU.summ (evFn_summ (Gr_loop (ann := annrh likeV) (fun s h => by cases h; exact looprh_r)) 1 25) (fun a n x sv h => by
  refine (e_rhas bitV oneV chkR likeV a n x).trans (Eq.trans ?_ h)
  unfold T_rhas hasR
  cases hc : (chkR a n != 0) with
  | true => rfl
  | false =>
    have h0 := ne_of hc rfl
    have hk : decide (0 ≤ n ∧ n ≤ 32) = true := chkR_ok h0
    rw [hk]
    cases likeV a x n <;> rfl)
def rhhA (a n : Int) : Int := sure (chkR a n != 0) 0 (sure (n == 32) 0 (IntKind.wrap .u32 (a + oneV n)))
def rhlA (a n : Int) : Int := sure (chkR a n != 0) 0 (sure (n == 32) 0 a)
def rhN (a n : Int) : Int := sure (chkR a n != 0) 0 (sure (n == 32) 0 (IntKind.wrap .i64 (n + 1)))
def rhE (a n : Int) : Int := sure (chkR a n != 0) (chkR a n) (sure (n == 32) 22 0)
theorem S_rhalves : SummT Try.prog 24 (sgP fun a n => .leaf (.tup [px (rhlA a n) (rhN a n), px (rhhA a n) (rhN a n), .int .i64 (rhE a n)])) := sgP.summ (evFn_summ (facts Gr_ok) 1 24) (fun a n sv h => by
  refine (e_rhalves bitV oneV chkR a n).trans (Eq.trans ?_ h)
  unfold T_rhalves rhlA rhN rhhA rhE
  cases (chkR a n != 0) with
  | true => rfl
  | false => cases (n == 32) <;> rfl)
def rcmpV (a n b m : Int) : Int := sure (decide (a < b)) (-1) (sure (a == b) (sure (decide (n < m)) (-1) (sure (n == m) 0 1)) 1)
theorem S_rcmp : SummT Try.prog 32 (sgPP fun a n b m => .leaf (.int .i64 (rcmpV a n b m))) := sgPP.summ (evFn_summ (facts Gr_ok) 1 32) (fun a n b m sv h => by
  refine (e_rcmp bitV oneV chkR a n b m).trans (Eq.trans ?_ h)
  unfold T_rcmp rcmpV
  cases decide (a < b) <;> cases (a == b) <;> cases decide (n < m) <;> cases (n == m) <;> rfl)
end Go.Sx.Mk


/- Layer 2, by value: Within, Common; the laws PrefixChecks, PrefixPairs, PrefixNests. -/
namespace Go.Sx.Mk
open Go.Proofs Go.RowKit
def wiP (a n b m : Int) : Bool := chkP a n == 0 && (decide (m ≤ n) && hasP b m a)
theorem S_within : SummT Try.prog 17 (sgPP fun a n b m => .leaf (.bool (wiP a n b m))) := sgPP.summ (evFn_summ (facts Gtop_ok) 1 17) (fun a n b m sv h => by
  refine (e_within careV chkP hasP lzV ofA ofN ofE a n b m).trans (Eq.trans ?_ h)
  unfold T_within wiP
  cases (chkP a n == 0) <;> cases decide (m ≤ n) <;> rfl)
def cmN (a n b m : Int) : Int := imin (imin n m) (lzV (Go.bits .xor .u32 a b))
def cmA (a n b m : Int) : Int := sure (chkP a n != 0) 0 (sure (chkP b m != 0) 0 (ofA a (cmN a n b m)))
def cmL (a n b m : Int) : Int := sure (chkP a n != 0) 0 (sure (chkP b m != 0) 0 (ofN (cmN a n b m)))
def cmE (a n b m : Int) : Int := sure (chkP a n != 0) (chkP a n) (sure (chkP b m != 0) (chkP b m) (ofE (cmN a n b m)))
theorem S_common : SummT Try.prog 29 (sgPP fun a n b m => .leaf (.tup [px (cmA a n b m) (cmL a n b m), .int .i64 (cmE a n b m)])) := sgPP.summ (evFn_summ (facts Gtop_ok) 1 29) (fun a n b m sv h => by
  refine (e_common careV chkP hasP lzV ofA ofN ofE a n b m).trans (Eq.trans ?_ h)
  unfold T_common cmA cmL cmE cmN
  cases (chkP a n != 0) <;> cases (chkP b m != 0) <;> rfl)
noncomputable def Grw (ck : I2 Int) (hs : I3 Bool) : FuncId → Option (List SV → GT SV)
  | 15 => some (sgP fun a n => .leaf (.int .i64 (ck a n)))
  | 25 => some (sgPU fun a n x => .leaf (.bool (hs a n x)))
  | _ => none
theorem Grw_ok : ∀ g s, Grw chkR hasR g = some s → SummT Try.prog g s := fun g s h => by
  unfold Grw at h
  split at h
  · cases h; exact S_rchk
  · cases h; exact S_rhas
  · cases h
noncomputable def T_rwithin (ck : I2 Int) (hs : I3 Bool) (a n b m : Int) : GT SV := GT.br (ck a n == (0 : Int))
    (GT.br (ck b m == (0 : Int)) (GT.br (decide (m ≤ n)) (GT.leaf (SV.bool (hs b m a))) (GT.leaf (SV.bool false)))
      (GT.leaf (SV.bool false)))
    (GT.leaf (SV.bool false))
theorem e_rwithin (ck : I2 Int) (hs : I3 Bool) (a n b m : Int) : ev (Grw ck hs) 1 31 [px a n, px b m] = (T_rwithin ck hs a n b m).opt := by kernel_rfl
def wiR (a n b m : Int) : Bool := chkR a n == 0 && (chkR b m == 0 && (decide (m ≤ n) && hasR b m a))
theorem S_rwithin : SummT Try.prog 31 (sgPP fun a n b m => .leaf (.bool (wiR a n b m))) := sgPP.summ (evFn_summ (facts Grw_ok) 1 31) (fun a n b m sv h => by
  refine (e_rwithin chkR hasR a n b m).trans (Eq.trans ?_ h)
  unfold T_rwithin wiR
  cases (chkR a n == 0) <;> cases (chkR b m == 0) <;> cases decide (m ≤ n) <;> rfl)
noncomputable def Grc (ck : I2 Int) (oa : I2 Int) (on oe : Int → Int) (wi : I4 Bool) : FuncId → Option (List SV → GT SV)
  | 15 => some (sgP fun a n => .leaf (.int .i64 (ck a n)))
  | 20 => some (sgUI fun a n => .leaf (.tup [px (oa a n) (on n), .int .i64 (oe n)]))
  | 31 => some (sgPP fun a n b m => .leaf (.bool (wi a n b m)))
  | _ => none
theorem Grc_ok : ∀ g s, Grc chkR rofA ofN ofE wiR g = some s → SummT Try.prog g s := fun g s h => by
  unfold Grc at h
  split at h
  · cases h; exact S_rchk
  · cases h; exact S_rof
  · cases h; exact S_rwithin
  · cases h
noncomputable def bodyrm : Code := bodyOf 30 [0,1,0,1,1,1,1,1]
def liverm : List (Nat × Option (List CK)) := [(2, none), (3, none), (4, none), (8, none)]
def outrm : List (Nat × Option (List CK)) := [(4, none), (5, none)]
def mkrm (a : Int) (n : Int) (b : Int) (m : Int) (z0 : Int) (z1 : Int) (k : Int) : St := ⟨sel 44 [2, 3, 4, 8] [.ptr 0 0, .ptr 1 0, .ptr 2 0, .int .i64 k], [.cells [.int .u32 a, .int .i64 n], .cells [.int .u32 b, .int .i64 m], .cells [.int .u32 z0, .int .i64 z1]]⟩
def finrm (z0 : Int) (z1 : Int) (s : SV) : St := ⟨sel 44 [4, 5] [.ptr 0 0, s], [.cells [.int .u32 z0, .int .i64 z1]]⟩
structure Xrm where
  a : Int
  n : Int
  b : Int
  m : Int
  z0 : Int
  z1 : Int
  k : Int
def Xrm.st (x : Xrm) : St := mkrm x.a x.n x.b x.m x.z0 x.z1 x.k
def pickrm : List SV → List Blk → Option Xrm
  | [.ptr 0 0, .ptr 1 0, .ptr 2 0, .int .i64 k], [.cells [.int .u32 a, .int .i64 n], .cells [.int .u32 b, .int .i64 m], .cells [.int .u32 z0, .int .i64 z1]] => some ⟨a, n, b, m, z0, z1, k⟩
  | _, _ => none
theorem pickrm_ok : ∀ vals mem x, pickrm vals mem = some x → x.st = ⟨sel 44 [2, 3, 4, 8] vals, mem⟩ := by
  intro vals mem x h
  unfold pickrm at h
  split at h
  · cases h; rfl
  · cases h
theorem step_rm (ck : I2 Int) (oa : I2 Int) (on oe : Int → Int) (wi : I4 Bool) (again : St → Option (E × St)) (a n b m z0 z1 k : Int) : step Try.prog (Grc ck oa on oe wi) ents [] 1 bodyrm liverm outrm again (mkrm a n b m z0 z1 k) = sure (decide ((0 : Int) < k))
    (sure (wi a n (oa a k) (on k))
      (sure (wi b m (oa a k) (on k)) (some (E.ret, finrm (oa a k) (on k) (SV.int IntKind.i64 (0 : Int))))
        (again (mkrm a n b m z0 z1 (IntKind.i64.wrap (k - (1 : Int))))))
      (again (mkrm a n b m z0 z1 (IntKind.i64.wrap (k - (1 : Int))))))
    (some (E.brk (0 : Nat), finrm z0 z1 SV.poison)) := by kernel_rfl
noncomputable def Gaw : FuncId → Option (List SV → GT SV)
  | 33 => some (sgI fun n => .when (decide (0 ≤ n ∧ n ≤ 32)) (.leaf (.int .u32 (careV n))))
  | 26 => some (sgP fun a n => .leaf (.int .i64 (chkP a n)))
  | 19 => some (sgUI fun a n => .leaf (.tup [px (ofA a n) (ofN n), .int .i64 (ofE n)]))
  | 18 => some (sgPU fun a n x => .leaf (.bool (hasP a n x)))
  | 17 => some (sgPP fun a n b m => .leaf (.bool (wiP a n b m)))
  | 23 => some (sgP fun a n => .leaf (.tup [px (hlA a n) (hlN a n), px (hhA a n) (hlN a n), .int .i64 (hE a n)]))
  | 16 => some (sgPP fun a n b m => .leaf (.int .i64 (cmpPV a n b m)))
  | _ => none
theorem Gaw_ok : ∀ g s, Gaw g = some s → SummT Try.prog g s := fun g s h => by
  unfold Gaw at h
  split at h
  · cases h; exact S_care
  · cases h; exact S_check
  · cases h; exact S_of
  · cases h; exact S_has
  · cases h; exact S_within
  · cases h; exact S_halves
  · cases h; exact S_cmp
  · cases h
theorem e_awake : ev Gaw 3 14 [] = some (.bool true) := by kernel_rfl
theorem S_awake : SummT Try.prog 14 (sg0 (.leaf (.bool true))) := sg0.summ (evFn_summ (facts Gaw_ok) 3 14) (fun sv h => e_awake.trans h)
def cmF (oa : I2 Int) (on : Int → Int) (wi : I4 Bool) (a n b m : Int) : Nat → Option Nat
  | 0 => none
  | k + 1 => match wi a n (oa a (k + 1 : Nat)) (on (k + 1 : Nat)) && wi b m (oa a (k + 1 : Nat)) (on (k + 1 : Nat)) with
    | true => some (k + 1)
    | false => cmF oa on wi a n b m k
def endrm (oa : I2 Int) (on : Int → Int) (a z0 z1 : Int) : Option Nat → E × St
  | some k => (.ret, finrm (oa a k) (on k) (.int .i64 0))
  | none => (.brk 0, finrm z0 z1 .poison)
theorem run_rm (ck : I2 Int) (oa : I2 Int) (on oe : Int → Int) (wi : I4 Bool) (a n b m z0 z1 : Int) : ∀ (k : Nat), k ≤ 32 →
    loopN (step Try.prog (Grc ck oa on oe wi) ents [] 1 bodyrm liverm outrm) (k + 1) (mkrm a n b m z0 z1 (k : Nat)) = some (endrm oa on a z0 z1 (cmF oa on wi a n b m k))
  | 0, _ => by
    show step _ _ _ _ _ _ _ _ _ _ = _
    rw [step_rm]
    simp [cmF, sure, endrm]
  | k + 1, hk => by
    show step _ _ _ _ _ _ _ _ (loopN _ (k + 1)) _ = _
    have hw : IntKind.wrap .i64 (((k + 1 : Nat) : Int) - 1) = (k : Int) := by rw [wrap_i64 (by omega) (by omega)]; omega
    rw [step_rm, hw, run_rm ck oa on oe wi a n b m z0 z1 k (by omega)]
    have hl : decide ((0 : Int) < ((k + 1 : Nat) : Int)) = true := decide_eq_true (by omega)
    simp only [cmF]
    rcases Bool.eq_false_or_eq_true (wi a n (oa a ((k + 1 : Nat) : Int)) (on ((k + 1 : Nat) : Int))) with h1 | h1
    · rcases Bool.eq_false_or_eq_true (wi b m (oa a ((k + 1 : Nat) : Int)) (on ((k + 1 : Nat) : Int))) with h2 | h2
      · simp only [hl, h1, h2, sure, Bool.and_self]; rfl
      · simp only [hl, h1, h2, sure, Bool.and_false]
    · simp only [hl, h1, sure, Bool.false_and]
def cmO (a n b m : Int) : Option Nat := cmF rofA ofN wiR a n b m 32
def cmS (a n b m : Int) : Bool := (cmO a n b m).isSome
def cmRA (a n b m : Int) : Int := rofA a ((cmO a n b m).getD 0)
def cmRN (a n b m : Int) : Int := ofN ((cmO a n b m).getD 0)
theorem looprm : LoopOK Try.prog bodyrm (fun st => (sumT 44 [2, 3, 4, 8] pickrm (fun x => .when (x.k == 32) (.br (cmS x.a x.n x.b x.m) (.leaf (.ret, finrm (cmRA x.a x.n x.b x.m) (cmRN x.a x.n x.b x.m) (.int .i64 0))) (.leaf (.brk 0, finrm x.z0 x.z1 .poison)))) st).opt) := by
  refine loop_two (imp := []) (facts Grc_ok) 0 1 bodyrm (lpOK_none _) liverm outrm 44 [2, 3, 4, 8] pickrm Xrm.st (fun x => x.k == 32) (fun x => cmS x.a x.n x.b x.m) _ _ pickrm_ok ?_
  intro x h1 _
  have h5 := run_rm chkR rofA ofN ofE wiR x.a x.n x.b x.m x.z0 x.z1 32 (by omega)
  refine ⟨33, ?_⟩
  unfold Xrm.st
  rw [eq_of_beq h1]
  refine h5.trans ?_
  unfold cmS cmRA cmRN cmO
  cases cmF rofA ofN wiR x.a x.n x.b x.m 32 <;> rfl
def annrm (cs : I4 Bool) (ca cn : I4 Int) : Ann := ⟨liverm, 0, some (sumT 44 [2, 3, 4, 8] pickrm (fun x => .when (x.k == 32) (.br (cs x.a x.n x.b x.m) (.leaf (.ret, finrm (ca x.a x.n x.b x.m) (cn x.a x.n x.b x.m) (.int .i64 0))) (.leaf (.brk 0, finrm x.z0 x.z1 .poison)))))⟩
noncomputable def T_rcm (ck : I2 Int) (oa : I2 Int) (on oe : Int → Int) (wi : I4 Bool) (cs : I4 Bool) (ca cn : I4 Int) (a n b m : Int) : GT SV := GT.br (ck a n != (0 : Int))
    (GT.leaf
      (SV.tup [SV.agg [SV.int IntKind.u32 (0 : Int), SV.int IntKind.i64 (0 : Int)], SV.int IntKind.i64 (ck a n)]))
    (GT.br (ck b m != (0 : Int))
      (GT.leaf
        (SV.tup [SV.agg [SV.int IntKind.u32 (0 : Int), SV.int IntKind.i64 (0 : Int)], SV.int IntKind.i64 (ck b m)]))
      (GT.br (cs a n b m)
        (GT.leaf
          (SV.tup
            [SV.agg [SV.int IntKind.u32 (ca a n b m), SV.int IntKind.i64 (cn a n b m)], SV.int IntKind.i64 (0 : Int)]))
        (GT.leaf
          (SV.tup
            [SV.agg [SV.int IntKind.u32 (0 : Int), SV.int IntKind.i64 (0 : Int)], SV.int IntKind.i64 (0 : Int)]))))
theorem e_rcm (ck : I2 Int) (oa : I2 Int) (on oe : Int → Int) (wi : I4 Bool) (cs : I4 Bool) (ca cn : I4 Int) (a n b m : Int) : evFn Try.prog (Grc ck oa on oe wi) ents [] (lpL [(30, [0, 1, 0, 1, 1, 1, 1, 1], annrm cs ca cn)]) 1 30 [px a n, px b m] = (T_rcm ck oa on oe wi cs ca cn a n b m).opt := by kernel_rfl
def rcmA (a n b m : Int) : Int := sure (chkR a n != 0) 0 (sure (chkR b m != 0) 0 (sure (cmS a n b m) (cmRA a n b m) 0))
def rcmL (a n b m : Int) : Int := sure (chkR a n != 0) 0 (sure (chkR b m != 0) 0 (sure (cmS a n b m) (cmRN a n b m) 0))
def rcmE (a n b m : Int) : Int := sure (chkR a n != 0) (chkR a n) (sure (chkR b m != 0) (chkR b m) 0)
theorem S_rcommon : SummT Try.prog 30 (sgPP fun a n b m => .leaf (.tup [px (rcmA a n b m) (rcmL a n b m), .int .i64 (rcmE a n b m)])) := sgPP.summ (evFn_summ (factsL Grc_ok [(30, [0, 1, 0, 1, 1, 1, 1, 1], annrm cmS cmRA cmRN)] (at_one (fun s h => by cases h; exact looprm))) 1 30) (fun a n b m sv h => by
  refine (e_rcm chkR rofA ofN ofE wiR cmS cmRA cmRN a n b m).trans (Eq.trans ?_ h)
  unfold T_rcm rcmA rcmL rcmE
  cases (chkR a n != 0) <;> cases (chkR b m != 0) <;> cases cmS a n b m <;> rfl)
noncomputable def Glaw (ck cr : I2 Int) (oa ra : I2 Int) (on oe : Int → Int) (rl rh : I2 Int) (sl sh : I2 Int) (hs hr : I3 Bool) (hla hln hha he : I2 Int) (rla rln rha re : I2 Int) (wi wr : I4 Bool) (ca cl ce : I4 Int) (da dl de : I4 Int) (cv dv : I4 Int) : FuncId → Option (List SV → GT SV)
  | 14 => some (sg0 (.leaf (.bool true)))
  | 26 => some (sgP fun a n => .leaf (.int .i64 (ck a n)))
  | 15 => some (sgP fun a n => .leaf (.int .i64 (cr a n)))
  | 19 => some (sgUI fun a n => .leaf (.tup [px (oa a n) (on n), .int .i64 (oe n)]))
  | 20 => some (sgUI fun a n => .leaf (.tup [px (ra a n) (on n), .int .i64 (oe n)]))
  | 21 => some (sgP fun a n => .leaf (.tup [.agg [.int .u32 (rl a n), .int .u32 (rh a n)], .int .i64 (ck a n)]))
  | 22 => some (sgP fun a n => .leaf (.tup [.agg [.int .u32 (sl a n), .int .u32 (sh a n)], .int .i64 (cr a n)]))
  | 18 => some (sgPU fun a n x => .leaf (.bool (hs a n x)))
  | 25 => some (sgPU fun a n x => .leaf (.bool (hr a n x)))
  | 23 => some (sgP fun a n => .leaf (.tup [px (hla a n) (hln a n), px (hha a n) (hln a n), .int .i64 (he a n)]))
  | 24 => some (sgP fun a n => .leaf (.tup [px (rla a n) (rln a n), px (rha a n) (rln a n), .int .i64 (re a n)]))
  | 17 => some (sgPP fun a n b m => .leaf (.bool (wi a n b m)))
  | 31 => some (sgPP fun a n b m => .leaf (.bool (wr a n b m)))
  | 29 => some (sgPP fun a n b m => .leaf (.tup [px (ca a n b m) (cl a n b m), .int .i64 (ce a n b m)]))
  | 30 => some (sgPP fun a n b m => .leaf (.tup [px (da a n b m) (dl a n b m), .int .i64 (de a n b m)]))
  | 16 => some (sgPP fun a n b m => .leaf (.int .i64 (cv a n b m)))
  | 32 => some (sgPP fun a n b m => .leaf (.int .i64 (dv a n b m)))
  | _ => none
theorem Glaw_ok : ∀ g s, Glaw chkP chkR ofA rofA ofN ofE runLo runHi rrunLo rrunHi hasP hasR hlA hlN hhA hE rhlA rhN rhhA rhE wiP wiR cmA cmL cmE rcmA rcmL rcmE cmpPV rcmpV g = some s → SummT Try.prog g s := fun g s h => by
  unfold Glaw at h
  split at h
  · cases h; exact S_awake
  · cases h; exact S_check
  · cases h; exact S_rchk
  · cases h; exact S_of
  · cases h; exact S_rof
  · cases h; exact S_run
  · cases h; exact S_rrun
  · cases h; exact S_has
  · cases h; exact S_rhas
  · cases h; exact S_halves
  · cases h; exact S_rhalves
  · cases h; exact S_within
  · cases h; exact S_rwithin
  · cases h; exact S_common
  · cases h; exact S_rcommon
  · cases h; exact S_cmp
  · cases h; exact S_rcmp
  · cases h
end Go.Sx.Mk


/- Layer 2: plain laws of prefixes: a number of 32 bits, cut at a bit. -/
namespace Go.Sx.Mk
open Go.RowKit
def T32 : Nat := 4294967296
theorem b32_and {a b : Nat} (ha : a < T32) (hb : b < T32) : Go.bits .and .u32 a b = ((a &&& b : Nat) : Int) := by
  unfold T32 at ha hb
  have h : a &&& b < 4294967296 := Nat.lt_of_le_of_lt Nat.and_le_left ha
  show IntKind.wrap .u32 (((BitVec.ofInt 32 (a : Int) &&& BitVec.ofInt 32 (b : Int)).toNat : Nat) : Int) = _
  have : (BitVec.ofInt 32 (a : Int) &&& BitVec.ofInt 32 (b : Int)).toNat = a &&& b := by
    simp [BitVec.toNat_ofNat, Nat.mod_eq_of_lt ha, Nat.mod_eq_of_lt hb]
  rw [this]
  exact wrap_u32 (by omega) (by omega)
theorem b32_or {a b : Nat} (ha : a < T32) (hb : b < T32) : Go.bits .or .u32 a b = ((a ||| b : Nat) : Int) := by
  unfold T32 at ha hb
  have h : a ||| b < 4294967296 := Nat.or_lt_two_pow (n := 32) ha hb
  show IntKind.wrap .u32 (((BitVec.ofInt 32 (a : Int) ||| BitVec.ofInt 32 (b : Int)).toNat : Nat) : Int) = _
  have : (BitVec.ofInt 32 (a : Int) ||| BitVec.ofInt 32 (b : Int)).toNat = a ||| b := by
    simp [BitVec.toNat_ofNat, Nat.mod_eq_of_lt ha, Nat.mod_eq_of_lt hb]
  rw [this]
  exact wrap_u32 (by omega) (by omega)
theorem b32_xor {a b : Nat} (ha : a < T32) (hb : b < T32) : Go.bits .xor .u32 a b = ((a ^^^ b : Nat) : Int) := by
  unfold T32 at ha hb
  have h : a ^^^ b < 4294967296 := Nat.xor_lt_two_pow (n := 32) ha hb
  show IntKind.wrap .u32 (((BitVec.ofInt 32 (a : Int) ^^^ BitVec.ofInt 32 (b : Int)).toNat : Nat) : Int) = _
  have : (BitVec.ofInt 32 (a : Int) ^^^ BitVec.ofInt 32 (b : Int)).toNat = a ^^^ b := by
    simp [BitVec.toNat_ofNat, Nat.mod_eq_of_lt ha, Nat.mod_eq_of_lt hb]
  rw [this]
  exact wrap_u32 (by omega) (by omega)
theorem b32_andNot {a b : Nat} (ha : a < T32) (hb : b < T32) : Go.bits .andNot .u32 a b = ((a &&& (4294967295 - b) : Nat) : Int) := by
  unfold T32 at ha hb
  have h : a &&& (4294967295 - b) < 4294967296 := Nat.lt_of_le_of_lt Nat.and_le_left ha
  show IntKind.wrap .u32 (((BitVec.ofInt 32 (a : Int) &&& ~~~ BitVec.ofInt 32 (b : Int)).toNat : Nat) : Int) = _
  have : (BitVec.ofInt 32 (a : Int) &&& ~~~ BitVec.ofInt 32 (b : Int)).toNat = a &&& (4294967295 - b) := by
    simp [BitVec.toNat_ofNat, Nat.mod_eq_of_lt ha, Nat.mod_eq_of_lt hb]
  rw [this]
  exact wrap_u32 (by omega) (by omega)
theorem b32_ext {a b : Nat} (ha : a < T32) (hb : b < T32) (h : ∀ i, i < 32 → a.testBit i = b.testBit i) : a = b := by
  unfold T32 at ha hb
  refine Nat.eq_of_testBit_eq fun i => ?_
  by_cases hi : i < 32
  · exact h i hi
  · rw [Nat.testBit_lt_two_pow (Nat.lt_of_lt_of_le ha (Nat.pow_le_pow_right (n := 2) (by omega) (show 32 ≤ i by omega))), Nat.testBit_lt_two_pow (Nat.lt_of_lt_of_le hb (Nat.pow_le_pow_right (n := 2) (by omega) (show 32 ≤ i by omega)))]
/-- the lowest k bits -/
def low (k : Nat) : Nat := 2 ^ k - 1
theorem low_lt {k : Nat} (h : k ≤ 32) : low k < T32 := by
  have : 2 ^ k ≤ 2 ^ 32 := Nat.pow_le_pow_right (by omega) h
  unfold low T32; omega
/-- all but the lowest k bits -/
def hig (k : Nat) : Nat := 4294967295 - low k
theorem hig_lt (k : Nat) : hig k < T32 := by unfold hig T32; omega
theorem pow_le32 {k : Nat} (h : k ≤ 32) : 2 ^ k ≤ T32 := by
  have : 2 ^ k ≤ 2 ^ 32 := Nat.pow_le_pow_right (by omega) h
  unfold T32; omega
theorem low_bit (k i : Nat) : (low k).testBit i = decide (i < k) := Nat.testBit_two_pow_sub_one k i
theorem hig_bit {k i : Nat} (hk : k ≤ 32) (hi : i < 32) : (hig k).testBit i = !decide (i < k) := by
  have hp := pow_le32 hk
  have h0 : 0 < 2 ^ k := Nat.two_pow_pos k
  have : hig k = 2 ^ 32 - (low k + 1) := by unfold hig low; omega
  rw [this, Nat.testBit_two_pow_sub_succ (by have := low_lt hk; unfold T32 at this; omega), low_bit]
  simp [hi]
theorem care_eq {n : Nat} (h : n ≤ 32) : careV n = ((hig (32 - n) : Nat) : Int) := by
  have key : (List.range 33).all (fun n => careV (Int.ofNat n) == Int.ofNat (hig (32 - n))) = true := by kernel_rfl
  exact eq_of_beq (List.all_eq_true.1 key n (by simp; omega))
theorem and_hig {x k : Nat} (hx : x < T32) (hk : k ≤ 32) : x &&& hig k = x / 2 ^ k * 2 ^ k := by
  have hle : x / 2 ^ k * 2 ^ k < T32 := Nat.lt_of_le_of_lt (Nat.div_mul_le_self x (2 ^ k)) hx
  refine b32_ext (Nat.lt_of_le_of_lt Nat.and_le_left hx) hle fun i hi => ?_
  rw [Nat.testBit_and, hig_bit hk hi, Nat.testBit_mul_two_pow, Nat.testBit_div_two_pow]
  by_cases h : i < k
  · simp [h]; omega
  · have : k ≤ i := by omega
    simp [h, this]
theorem and_low (x k : Nat) : x &&& low k = x % 2 ^ k := Nat.and_two_pow_sub_one_eq_mod x k
theorem hig_compl {k : Nat} (hk : k ≤ 32) : 4294967295 - hig k = low k := by have := low_lt hk; unfold T32 at this; unfold hig; omega
theorem or_low {x k : Nat} (h : x % 2 ^ k = 0) : x ||| low k = x + low k := by
  obtain ⟨q, rfl⟩ : ∃ q, x = 2 ^ k * q := ⟨x / 2 ^ k, by have := Nat.div_add_mod x (2 ^ k); omega⟩
  have hp := Nat.two_pow_pos k
  rw [Nat.two_pow_add_eq_or_of_lt (by unfold low; omega)]
/-- a prefix that may be -/
def okP (a n : Nat) : Prop := n ≤ 32 ∧ a % 2 ^ (32 - n) = 0
instance (a n : Nat) : Decidable (okP a n) := by unfold okP; infer_instance
theorem u32_nat {n : Int} (h : U32 n) : ∃ m : Nat, n = (m : Int) ∧ m < T32 := nat_of (b := 4294967296) h
/-- what Check answers, plainly -/
def chkS (a : Nat) (n : Int) : Int := if 0 ≤ n ∧ n ≤ 32 then (if a % 2 ^ (32 - n.toNat) = 0 then 0 else 21) else 20
theorem chkP_eq {a : Nat} (ha : a < T32) (n : Int) : chkP a n = chkS a n := by
  unfold chkP chkS
  by_cases h1 : n < 0
  · rw [decide_eq_true h1, if_neg (by omega)]; rfl
  · by_cases h2 : 32 < n
    · rw [decide_eq_false h1, decide_eq_true h2, if_neg (by omega)]; rfl
    · obtain ⟨m, rfl, hm⟩ := nat_of (n := n) (b := 33) (by omega)
      rw [decide_eq_false h1, decide_eq_false h2, if_pos (by omega), care_eq (by omega), b32_andNot ha (hig_lt _), hig_compl (by omega), and_low, Int.toNat_natCast]
      by_cases h : a % 2 ^ (32 - m) = 0
      · rw [h]; rfl
      · rw [if_neg h]
        have : (((a % 2 ^ (32 - m) : Nat) : Int) != 0) = true := by
          generalize a % 2 ^ (32 - m) = q at h
          simpa using h
        rw [this]; rfl
theorem bitV_eq {a i : Nat} (ha : a < T32) (hi : i < 32) : bitV a i = if a.testBit (31 - i) then 1 else 0 := by
  unfold bitV
  have h1 : IntKind.wrap .i64 (31 - (i : Int)) = ((31 - i : Nat) : Int) := by rw [wrap_i64 (by omega) (by omega)]; omega
  have h2 : IntKind.wrap .u64 ((31 - i : Nat) : Int) = ((31 - i : Nat) : Int) := wrap_u64 (by omega) (by omega)
  have h3 : min (31 - i) 32 = 31 - i := by omega
  rw [h1, h2, Int.toNat_natCast, h3]
  have h4 : ((a : Int)).fdiv (2 ^ (31 - i)) = ((a / 2 ^ (31 - i) : Nat) : Int) := by
    rw [Int.fdiv_eq_ediv_of_nonneg _ (by have := Nat.two_pow_pos (31 - i); exact_mod_cast Nat.le_of_lt this)]
    exact_mod_cast rfl
  have hlt : a / 2 ^ (31 - i) ≤ a := Nat.div_le_self _ _
  unfold T32 at ha
  generalize hq : a / 2 ^ (31 - i) = q at h4 hlt
  rw [h4, wrap_i64 (by omega) (by omega), Int.tmod_eq_emod_of_nonneg (by omega)]
  subst hq
  have h5 : (a / 2 ^ (31 - i)) % 2 = (a.testBit (31 - i)).toNat := by rw [Nat.testBit_eq_decide_div_mod_eq]; rcases Nat.mod_two_eq_zero_or_one (a / 2 ^ (31 - i)) with h | h <;> simp [h]
  have h6 : (((a / 2 ^ (31 - i) : Nat) : Int)) % 2 = (((a / 2 ^ (31 - i)) % 2 : Nat) : Int) := by omega
  rw [h6, h5]
  cases a.testBit (31 - i) <;> rfl
theorem oneV_eq {i : Nat} (hi : i < 32) : oneV i = ((2 ^ (31 - i) : Nat) : Int) := by
  have key : (List.range 32).all (fun n => oneV (Int.ofNat n) == Int.ofNat (2 ^ (31 - n))) = true := by kernel_rfl
  exact eq_of_beq (List.all_eq_true.1 key i (by simpa using hi))
theorem idx {k : Nat} (hk : k + 1 ≤ 32) : (32 - ((k + 1 : Nat) : Int)) = ((32 - (k + 1) : Nat) : Int) := by omega
theorem idxn {n k : Nat} (hk : k + 1 ≤ n) : ((n : Int) - ((k + 1 : Nat) : Int)) = ((n - (k + 1) : Nat) : Int) := by omega
theorem anyB_eq {a : Nat} (ha : a < T32) : ∀ k : Nat, k ≤ 32 → (anyB bitV a k = false ↔ a % 2 ^ k = 0)
  | 0, _ => by simp [anyB, Nat.mod_one]
  | k + 1, hk => by
    have ih := anyB_eq ha k (by omega)
    unfold anyB
    rw [idx hk, bitV_eq ha (by omega), Bool.or_eq_false_iff, ih, show 31 - (32 - (k + 1)) = k by omega]
    have hm : a % 2 ^ (k + 1) = a % 2 ^ k + 2 ^ k * (a.testBit k).toNat := by
      rw [Nat.mod_pow_succ, Nat.testBit_eq_decide_div_mod_eq]
      congr 2
      rcases Nat.mod_two_eq_zero_or_one (a / 2 ^ k) with h | h <;> simp [h]
    have hp := Nat.two_pow_pos k
    rw [hm]
    cases a.testBit k <;> simp <;> omega
theorem chkR_eq {a : Nat} (ha : a < T32) (n : Int) : chkR a n = chkS a n := by
  unfold chkR chkS badN
  by_cases h : 0 ≤ n ∧ n ≤ 32
  · obtain ⟨m, rfl, hm⟩ := nat_of (n := n) (b := 33) (by omega)
    have e : (32 - (m : Int)).toNat = 32 - m := by omega
    have hA := anyB_eq ha (32 - m) (by omega)
    rw [if_pos h, decide_eq_false (by omega), decide_eq_false (by omega)]
    unfold anyV
    rw [e, Int.toNat_natCast]
    by_cases h0 : a % 2 ^ (32 - m) = 0
    · rw [if_pos h0, hA.2 h0]; rfl
    · rw [if_neg h0]
      have : anyB bitV a (32 - m) = true := by
        cases hb : anyB bitV a (32 - m) with
        | true => rfl
        | false => exact absurd (hA.1 hb) h0
      rw [this]; rfl
  · rw [if_neg h]
    by_cases h1 : n < 0
    · rw [decide_eq_true h1]; rfl
    · rw [decide_eq_false h1, decide_eq_true (by omega)]; rfl
theorem chk_eq {a : Nat} (ha : a < T32) (n : Int) : chkP a n = chkR a n := (chkP_eq ha n).trans (chkR_eq ha n).symm
theorem chkS_zero {a : Nat} {n : Int} (h : chkS a n = 0) : ∃ m : Nat, n = (m : Int) ∧ m ≤ 32 ∧ a % 2 ^ (32 - m) = 0 := by
  unfold chkS at h
  split at h
  · rename_i hn
    obtain ⟨m, rfl, hm⟩ := nat_of (n := n) (b := 33) (by omega)
    split at h
    · rename_i h0
      exact ⟨m, rfl, by omega, by simpa using h0⟩
    · cases h
  · cases h
end Go.Sx.Mk


/- Layer 2, by value: the laws PrefixChecks, PrefixPairs, PrefixNests. -/
namespace Go.Sx.Mk
open Go.Proofs Go.RowKit
noncomputable def T_checks (ck cr : I2 Int) (oa ra : I2 Int) (on oe : Int → Int) (rl rh : I2 Int) (sl sh : I2 Int) (hs hr : I3 Bool) (hla hln hha he : I2 Int) (rla rln rha re : I2 Int) (wi wr : I4 Bool) (ca cl ce : I4 Int) (da dl de : I4 Int) (cv dv : I4 Int) (a n x k : Int) : GT SV := GT.br (hs a n x == hr a n x)
    (GT.br (hs a n a == hr a n a)
      (GT.br (hs a n (sh a n) == hr a n (sh a n))
        (GT.br (hs a n (IntKind.u32.wrap (sh a n + (1 : Int))) == hr a n (IntKind.u32.wrap (sh a n + (1 : Int))))
          (GT.br (ck a n == cr a n)
            (GT.br (oa x k == ra x k && (on k == on k && true))
              (GT.br (oe k == oe k)
                (GT.br (rl a n == sl a n && (rh a n == sh a n && true))
                  (GT.br (ck a n == cr a n)
                    (GT.br (hla a n == rla a n && (hln a n == rln a n && true))
                      (GT.br (hha a n == rha a n && (hln a n == rln a n && true))
                        (GT.br (he a n == re a n) (GT.leaf (SV.bool true)) (GT.leaf (SV.bool false)))
                        (GT.leaf (SV.bool false)))
                      (GT.leaf (SV.bool false)))
                    (GT.leaf (SV.bool false)))
                  (GT.leaf (SV.bool false)))
                (GT.leaf (SV.bool false)))
              (GT.leaf (SV.bool false)))
            (GT.leaf (SV.bool false)))
          (GT.br (ck a n == cr a n)
            (GT.br (oa x k == ra x k && (on k == on k && true))
              (GT.br (oe k == oe k)
                (GT.br (rl a n == sl a n && (rh a n == sh a n && true))
                  (GT.br (ck a n == cr a n)
                    (GT.br (hla a n == rla a n && (hln a n == rln a n && true))
                      (GT.br (hha a n == rha a n && (hln a n == rln a n && true))
                        (GT.br (he a n == re a n) (GT.leaf (SV.bool false)) (GT.leaf (SV.bool false)))
                        (GT.leaf (SV.bool false)))
                      (GT.leaf (SV.bool false)))
                    (GT.leaf (SV.bool false)))
                  (GT.leaf (SV.bool false)))
                (GT.leaf (SV.bool false)))
              (GT.leaf (SV.bool false)))
            (GT.leaf (SV.bool false))))
        (GT.br (ck a n == cr a n)
          (GT.br (oa x k == ra x k && (on k == on k && true))
            (GT.br (oe k == oe k)
              (GT.br (rl a n == sl a n && (rh a n == sh a n && true))
                (GT.br (ck a n == cr a n)
                  (GT.br (hla a n == rla a n && (hln a n == rln a n && true))
                    (GT.br (hha a n == rha a n && (hln a n == rln a n && true))
                      (GT.br (he a n == re a n) (GT.leaf (SV.bool false)) (GT.leaf (SV.bool false)))
                      (GT.leaf (SV.bool false)))
                    (GT.leaf (SV.bool false)))
                  (GT.leaf (SV.bool false)))
                (GT.leaf (SV.bool false)))
              (GT.leaf (SV.bool false)))
            (GT.leaf (SV.bool false)))
          (GT.leaf (SV.bool false))))
      (GT.br (ck a n == cr a n)
        (GT.br (oa x k == ra x k && (on k == on k && true))
          (GT.br (oe k == oe k)
            (GT.br (rl a n == sl a n && (rh a n == sh a n && true))
              (GT.br (ck a n == cr a n)
                (GT.br (hla a n == rla a n && (hln a n == rln a n && true))
                  (GT.br (hha a n == rha a n && (hln a n == rln a n && true))
                    (GT.br (he a n == re a n) (GT.leaf (SV.bool false)) (GT.leaf (SV.bool false)))
                    (GT.leaf (SV.bool false)))
                  (GT.leaf (SV.bool false)))
                (GT.leaf (SV.bool false)))
              (GT.leaf (SV.bool false)))
            (GT.leaf (SV.bool false)))
          (GT.leaf (SV.bool false)))
        (GT.leaf (SV.bool false))))
    (GT.br (ck a n == cr a n)
      (GT.br (oa x k == ra x k && (on k == on k && true))
        (GT.br (oe k == oe k)
          (GT.br (rl a n == sl a n && (rh a n == sh a n && true))
            (GT.br (ck a n == cr a n)
              (GT.br (hla a n == rla a n && (hln a n == rln a n && true))
                (GT.br (hha a n == rha a n && (hln a n == rln a n && true))
                  (GT.br (he a n == re a n) (GT.leaf (SV.bool false)) (GT.leaf (SV.bool false)))
                  (GT.leaf (SV.bool false)))
                (GT.leaf (SV.bool false)))
              (GT.leaf (SV.bool false)))
            (GT.leaf (SV.bool false)))
          (GT.leaf (SV.bool false)))
        (GT.leaf (SV.bool false)))
      (GT.leaf (SV.bool false)))
theorem e_checks (ck cr : I2 Int) (oa ra : I2 Int) (on oe : Int → Int) (rl rh : I2 Int) (sl sh : I2 Int) (hs hr : I3 Bool) (hla hln hha he : I2 Int) (rla rln rha re : I2 Int) (wi wr : I4 Bool) (ca cl ce : I4 Int) (da dl de : I4 Int) (cv dv : I4 Int) (a n x k : Int) : ev (Glaw ck cr oa ra on oe rl rh sl sh hs hr hla hln hha he rla rln rha re wi wr ca cl ce da dl de cv dv) 1 5 [px a n, .int .u32 x, .int .i64 k] = (T_checks ck cr oa ra on oe rl rh sl sh hs hr hla hln hha he rla rln rha re wi wr ca cl ce da dl de cv dv a n x k).opt := by kernel_rfl
end Go.Sx.Mk


/- Layer 2: plain laws: the program's functions and the reference's answer alike. -/
namespace Go.Sx.Mk
open Go.RowKit
theorem div_eq_iff_bits {a x K : Nat} (ha : a < T32) (hx : x < T32) (hK : K ≤ 32) : a / 2 ^ K = x / 2 ^ K ↔ ∀ j, j < 32 - K → a.testBit (K + j) = x.testBit (K + j) := by
  constructor
  · intro h j _
    have := congrArg (fun y => y.testBit j) h
    simp only [Nat.testBit_div_two_pow] at this
    rw [Nat.add_comm]; exact this
  · intro h
    refine Nat.eq_of_testBit_eq fun j => ?_
    rw [Nat.testBit_div_two_pow, Nat.testBit_div_two_pow, Nat.add_comm j K]
    by_cases hj : j < 32 - K
    · exact h j hj
    · have e : ∀ y, y < T32 → y.testBit (K + j) = false := fun y hy => Nat.testBit_lt_two_pow (Nat.lt_of_lt_of_le hy (by
        have : 2 ^ 32 ≤ 2 ^ (K + j) := Nat.pow_le_pow_right (by omega) (by omega)
        unfold T32; omega))
      rw [e a ha, e x hx]
theorem likeB_eq {a x n : Nat} (ha : a < T32) (hx : x < T32) (hn : n ≤ 32) : ∀ k : Nat, k ≤ n → (likeB bitV a x n k = true ↔ ∀ j, j < k → a.testBit (32 - n + j) = x.testBit (32 - n + j))
  | 0, _ => by simp [likeB]
  | k + 1, hk => by
    have ih := likeB_eq ha hx hn k (by omega)
    unfold likeB
    rw [idxn hk, bitV_eq ha (by omega), bitV_eq hx (by omega), Bool.and_eq_true, ih, show 31 - (n - (k + 1)) = 32 - n + k by omega]
    constructor
    · rintro ⟨h1, h2⟩ j hj
      by_cases e : j = k
      · subst e
        revert h1
        cases a.testBit (32 - n + j) <;> cases x.testBit (32 - n + j) <;> simp
      · exact h2 j (by omega)
    · intro h
      refine ⟨?_, fun j hj => h j (by omega)⟩
      rw [h k (by omega)]
      simp
theorem likeV_eq {a x n : Nat} (ha : a < T32) (hx : x < T32) (hn : n ≤ 32) : likeV a x n = decide (a / 2 ^ (32 - n) = x / 2 ^ (32 - n)) := by
  unfold likeV
  rw [Int.toNat_natCast]
  have h := likeB_eq ha hx hn n (Nat.le_refl _)
  have h2 := div_eq_iff_bits ha hx (K := 32 - n) (by omega)
  rw [show 32 - (32 - n) = n by omega] at h2
  by_cases hd : a / 2 ^ (32 - n) = x / 2 ^ (32 - n)
  · rw [decide_eq_true hd, h.2 (h2.1 hd)]
  · rw [decide_eq_false hd]
    cases hb : likeB bitV a x n n with
    | false => rfl
    | true => exact absurd (h2.2 (h.1 hb)) hd
theorem cut_eq {a x K : Nat} (h : a % 2 ^ K = 0) : x / 2 ^ K * 2 ^ K = a ↔ a / 2 ^ K = x / 2 ^ K := by
  have hp := Nat.two_pow_pos K
  have ha := Nat.div_add_mod a (2 ^ K)
  rw [h, Nat.add_zero] at ha
  constructor
  · intro e; rw [← e, Nat.mul_div_cancel _ hp]
  · intro e; rw [← e, Nat.mul_comm]; exact ha
/-- what Has answers, plainly -/
theorem hasP_eq {a x : Nat} {n : Int} (ha : a < T32) (hx : x < T32) : hasP a n x = hasR a n x := by
  unfold hasP hasR
  rw [chkP_eq ha, chkR_eq ha]
  by_cases h : chkS a n = 0
  · obtain ⟨m, rfl, hm, h0⟩ := chkS_zero h
    rw [h, care_eq hm, b32_and hx (hig_lt _), and_hig hx (by omega), likeV_eq ha hx hm]
    have h1 := cut_eq (x := x) h0
    simp only [sure, BEq.rfl, Bool.true_and, bne_self_eq_false]
    by_cases e : a / 2 ^ (32 - m) = x / 2 ^ (32 - m)
    · rw [decide_eq_true e, h1.2 e]; simp
    · rw [decide_eq_false e]
      have : x / 2 ^ (32 - m) * 2 ^ (32 - m) ≠ a := fun h => e (h1.1 h)
      generalize x / 2 ^ (32 - m) * 2 ^ (32 - m) = q at this
      show ((q : Int) == (a : Int)) = sure false false (false : Bool)
      rw [beq_eq_false_iff_ne.2 (by exact_mod_cast this)]; rfl
  · have e1 : (chkS a n == 0) = false := by simpa using h
    have e2 : (chkS a n != 0) = true := by simpa using h
    rw [e1, e2]; rfl
theorem sumB_eq {a n : Nat} (ha : a < T32) (hn : n ≤ 32) : ∀ (k : Nat) (p : Nat), k ≤ n → p + (a / 2 ^ (32 - n)) % 2 ^ k * 2 ^ (32 - n) < T32 → sumB bitV oneV a n k p = ((p + (a / 2 ^ (32 - n)) % 2 ^ k * 2 ^ (32 - n) : Nat) : Int)
  | 0, p, _, _ => by simp [sumB, Nat.mod_one]
  | k + 1, p, hk, hlt => by
    unfold sumB
    have hi : n - (k + 1) < 32 := by omega
    rw [idxn hk, bitV_eq ha hi, oneV_eq hi, show 31 - (n - (k + 1)) = k + (32 - n) by omega]
    have hm : (a / 2 ^ (32 - n)) % 2 ^ (k + 1) = (a / 2 ^ (32 - n)) % 2 ^ k + 2 ^ k * (a.testBit (k + (32 - n))).toNat := by
      rw [Nat.mod_pow_succ, ← Nat.testBit_div_two_pow, Nat.testBit_eq_decide_div_mod_eq]
      congr 2
      rcases Nat.mod_two_eq_zero_or_one (a / 2 ^ (32 - n) / 2 ^ k) with h | h <;> simp [h]
    rw [hm, Nat.add_mul] at hlt ⊢
    rw [Nat.pow_add]
    cases hb : a.testBit (k + (32 - n)) with
    | false =>
      rw [hb] at hlt
      simp only [Bool.toNat_false, Nat.mul_zero, Nat.zero_mul, Nat.add_zero] at hlt ⊢
      exact sumB_eq ha hn k p (by omega) hlt
    | true =>
      rw [hb] at hlt
      simp only [Bool.toNat_true, Nat.mul_one] at hlt ⊢
      generalize hQ : 2 ^ k * 2 ^ (32 - n) = Q at hlt ⊢
      generalize hR : a / 2 ^ (32 - n) % 2 ^ k * 2 ^ (32 - n) = R at hlt ⊢
      have hw : IntKind.wrap .u32 ((p : Int) + ((Q : Nat) : Int)) = ((p + Q : Nat) : Int) := by
        unfold T32 at hlt
        rw [wrap_u32 (by omega) (by omega)]; omega
      show sumB bitV oneV a n k (IntKind.wrap .u32 ((p : Int) + ((Q : Nat) : Int))) = _
      rw [hw, sumB_eq ha hn k (p + Q) (by omega) (by rw [hR]; omega), hR]
      congr 1; omega
theorem sumV_eq {a n : Nat} (ha : a < T32) (hn : n ≤ 32) : sumV a n 0 = ((a / 2 ^ (32 - n) * 2 ^ (32 - n) : Nat) : Int) := by
  unfold sumV
  have hlt : a / 2 ^ (32 - n) < 2 ^ n := by
    rw [Nat.div_lt_iff_lt_mul (Nat.two_pow_pos _), ← Nat.pow_add, show n + (32 - n) = 32 by omega]
    exact ha
  have hle := Nat.div_mul_le_self a (2 ^ (32 - n))
  have := sumB_eq ha hn n 0 (Nat.le_refl _) (by rw [Nat.mod_eq_of_lt hlt]; omega)
  rw [Nat.mod_eq_of_lt hlt, Nat.zero_add] at this
  rw [Int.toNat_natCast]
  exact this
theorem ofA_nat {a n : Nat} (ha : a < T32) (hn : n ≤ 32) : ofA a n = ((a / 2 ^ (32 - n) * 2 ^ (32 - n) : Nat) : Int) := by
  unfold ofA badN
  rw [decide_eq_false (by omega), decide_eq_false (by omega), care_eq hn, b32_and ha (hig_lt _), and_hig ha (by omega)]; rfl
theorem ofA_eq {a : Nat} (ha : a < T32) (n : Int) : ofA a n = rofA a n := by
  unfold rofA
  cases hb : badN n with
  | true => unfold ofA; rw [hb]; rfl
  | false =>
    have h := badN_no hb
    obtain ⟨m, rfl, hm⟩ := nat_of (n := n) (b := 33) (by omega)
    rw [ofA_nat ha (by omega), sumV_eq ha (by omega)]; rfl
theorem onesB_eq : ∀ (k h : Nat), k ≤ 32 → h + low k < T32 → onesB oneV k h = ((h + low k : Nat) : Int)
  | 0, h, _, _ => by simp [onesB, low]
  | k + 1, h, hk, hlt => by
    unfold onesB
    have hp := Nat.two_pow_pos k
    have e : low (k + 1) = 2 ^ k + low k := by unfold low; rw [Nat.pow_succ]; omega
    rw [e] at hlt ⊢
    rw [idx hk, oneV_eq (by omega), show 31 - (32 - (k + 1)) = k by omega]
    generalize 2 ^ k = Q at *
    have hw : IntKind.wrap .u32 ((h : Int) + ((Q : Nat) : Int)) = ((h + Q : Nat) : Int) := by
      unfold T32 at hlt
      rw [wrap_u32 (by omega) (by omega)]; omega
    rw [hw, onesB_eq k (h + Q) (by omega) (by omega)]
    congr 1; omega
theorem top_lt {a K : Nat} (ha : a < T32) (hK : K ≤ 32) (h : a % 2 ^ K = 0) : a + low K < T32 := by
  have hp := Nat.two_pow_pos K
  obtain ⟨q, rfl⟩ : ∃ q, a = 2 ^ K * q := ⟨a / 2 ^ K, by have := Nat.div_add_mod a (2 ^ K); omega⟩
  have e : T32 = 2 ^ K * 2 ^ (32 - K) := by rw [← Nat.pow_add, show K + (32 - K) = 32 by omega]; rfl
  have hq : q < 2 ^ (32 - K) := by
    rw [e] at ha
    exact Nat.lt_of_mul_lt_mul_left ha
  have : 2 ^ K * (q + 1) ≤ T32 := by rw [e]; exact Nat.mul_le_mul_left _ hq
  unfold low
  rw [Nat.mul_succ] at this
  omega
theorem runHi_nat {a m : Nat} (ha : a < T32) (hm : m ≤ 32) (h0 : a % 2 ^ (32 - m) = 0) : runHi a m = ((a + low (32 - m) : Nat) : Int) := by
  have hc : chkP a m = 0 := by rw [chkP_eq ha]; unfold chkS; rw [if_pos (by omega), Int.toNat_natCast, if_pos h0]
  unfold runHi
  rw [hc, care_eq hm]
  have e : Go.bits .xor .u32 4294967295 ((hig (32 - m) : Nat) : Int) = ((low (32 - m) : Nat) : Int) := by
    have := b32_xor (a := 4294967295) (b := hig (32 - m)) (by unfold T32; omega) (hig_lt _)
    refine this.trans ?_
    congr 1
    refine b32_ext (Nat.xor_lt_two_pow (n := 32) (by omega) (hig_lt _)) (low_lt (by omega)) fun i hi => ?_
    rw [Nat.testBit_xor, hig_bit (by omega) hi, low_bit, show 4294967295 = 2 ^ 32 - 1 from rfl, Nat.testBit_two_pow_sub_one]
    simp [hi]
  rw [e, b32_or ha (low_lt (by omega)), or_low h0]; rfl
theorem runs_eq {a : Nat} (ha : a < T32) (n : Int) : runLo a n = rrunLo a n ∧ runHi a n = rrunHi a n := by
  have hcc := chk_eq ha n
  unfold runLo rrunLo
  rw [← hcc]
  refine ⟨rfl, ?_⟩
  by_cases h : chkP a n = 0
  · have hS : chkS a n = 0 := (chkP_eq ha n).symm.trans h
    obtain ⟨m, rfl, hm, h0⟩ := chkS_zero hS
    rw [runHi_nat ha hm h0]
    unfold rrunHi onesV
    rw [← hcc, h, show (32 - (m : Int)).toNat = 32 - m by omega, onesB_eq _ _ (by omega) (top_lt ha (by omega) h0)]; rfl
  · have e : (chkP a n != 0) = true := by simpa using h
    unfold runHi rrunHi
    rw [← hcc, e]; rfl
theorem rhN_eq {a : Nat} (ha : a < T32) (n : Int) : hlA a n = rhlA a n ∧ hlN a n = rhN a n ∧ hE a n = rhE a n := by
  have hcc := chk_eq ha n
  unfold hlA rhlA hlN rhN hE rhE
  rw [hcc]
  exact ⟨rfl, rfl, rfl⟩
theorem half_nat {a m : Nat} (ha : a < T32) (hm : m < 32) (h0 : a % 2 ^ (32 - m) = 0) : hhA a m = ((a + 2 ^ (31 - m) : Nat) : Int) ∧ a + 2 ^ (31 - m) < T32 ∧ (a ||| 2 ^ (31 - m)) = a + 2 ^ (31 - m) := by
  have hc : chkP a m = 0 := by rw [chkP_eq ha]; unfold chkS; rw [if_pos (by omega), Int.toNat_natCast, if_pos h0]
  have key : (List.range 32).all (fun n => IntKind.wrap .u32 (1 * 2 ^ (min (IntKind.wrap .i64 (31 - Int.ofNat n)).toNat 32)) == Int.ofNat (2 ^ (31 - n))) = true := by kernel_rfl
  have h1 : IntKind.wrap .u32 (1 * 2 ^ (min (IntKind.wrap .i64 (31 - (m : Int))).toNat 32)) = ((2 ^ (31 - m) : Nat) : Int) := eq_of_beq (List.all_eq_true.1 key m (by simpa using hm))
  have hlt : 2 ^ (31 - m) < T32 := by
    have : 2 ^ (31 - m) ≤ 2 ^ 31 := Nat.pow_le_pow_right (by omega) (by omega)
    unfold T32; omega
  have hor : a ||| 2 ^ (31 - m) = a + 2 ^ (31 - m) := by
    obtain ⟨q, rfl⟩ : ∃ q, a = 2 ^ (32 - m) * q := ⟨a / 2 ^ (32 - m), by have := Nat.div_add_mod a (2 ^ (32 - m)); omega⟩
    rw [Nat.two_pow_add_eq_or_of_lt]
    exact Nat.pow_lt_pow_right (by omega) (by omega)
  have hb : a + 2 ^ (31 - m) < T32 := by rw [← hor]; exact Nat.or_lt_two_pow (n := 32) ha hlt
  refine ⟨?_, hb, hor⟩
  unfold hhA
  have e32 : ((m : Int) == 32) = false := by simp; omega
  rw [hc, e32, h1, b32_or ha hlt, hor]; rfl
theorem hhA_eq {a : Nat} (ha : a < T32) (n : Int) : hhA a n = rhhA a n := by
  have hcc := chk_eq ha n
  by_cases h : chkP a n = 0
  · have hS : chkS a n = 0 := (chkP_eq ha n).symm.trans h
    obtain ⟨m, rfl, hm, h0⟩ := chkS_zero hS
    by_cases e : m = 32
    · subst e
      unfold hhA rhhA
      rw [← hcc, h]; rfl
    · obtain ⟨h1, h2, _⟩ := half_nat ha (by omega) h0
      have e32 : ((m : Int) == 32) = false := by simp; omega
      rw [h1]
      unfold rhhA
      rw [← hcc, h, e32, oneV_eq (by omega)]
      generalize 2 ^ (31 - m) = Q at h2 ⊢
      unfold T32 at h2
      show _ = IntKind.wrap .u32 ((a : Int) + (Q : Int))
      rw [wrap_u32 (by omega) (by omega)]; omega
  · have e : (chkP a n != 0) = true := by simpa using h
    unfold hhA rhhA
    rw [← hcc, e]; rfl
theorem checks {a x : Nat} {n k : Int} (ha : a < T32) (hx : x < T32) : (T_checks chkP chkR ofA rofA ofN ofE runLo runHi rrunLo rrunHi hasP hasR hlA hlN hhA hE rhlA rhN rhhA rhE wiP wiR cmA cmL cmE rcmA rcmL rcmE cmpPV rcmpV a n x k).opt = some (.bool true) := by
  obtain ⟨r1, r2⟩ := runs_eq ha n
  obtain ⟨h1, h2, h3⟩ := rhN_eq ha n
  have hh := hhA_eq ha n
  have hsh : ∃ s : Nat, rrunHi a n = (s : Int) ∧ s < T32 := by
    rw [← r2]
    by_cases h : chkP a n = 0
    · have hS : chkS a n = 0 := (chkP_eq ha n).symm.trans h
      obtain ⟨m, rfl, hm, h0⟩ := chkS_zero hS
      exact ⟨_, runHi_nat ha hm h0, top_lt ha (by omega) h0⟩
    · have e : (chkP a n != 0) = true := by simpa using h
      refine ⟨0, ?_, by unfold T32; omega⟩
      unfold runHi
      rw [e]; rfl
  obtain ⟨s, hs, hs2⟩ := hsh
  have hw : ∃ t : Nat, IntKind.wrap .u32 ((s : Int) + 1) = (t : Int) ∧ t < T32 := by
    have : 0 ≤ IntKind.wrap .u32 ((s : Int) + 1) ∧ IntKind.wrap .u32 ((s : Int) + 1) < 4294967296 := by
      simp [IntKind.wrap, IntKind.signed, IntKind.bits]; omega
    exact u32_nat this
  obtain ⟨t, ht, ht2⟩ := hw
  unfold T_checks
  rw [hs, ht, hasP_eq ha hx, hasP_eq ha ha, hasP_eq ha hs2, hasP_eq ha ht2, chk_eq ha n, ofA_eq hx k, r1, r2, h1, h2, h3, hh, hs]
  simp only [BEq.rfl, Bool.and_true, Bool.true_and]
  rfl
noncomputable def evChecks (svs : List SV) : Option SV := ev (Glaw chkP chkR ofA rofA ofN ofE runLo runHi rrunLo rrunHi hasP hasR hlA hlN hhA hE rhlA rhN rhhA rhE wiP wiR cmA cmL cmE rcmA rcmL rcmE cmpPV rcmpV) 1 5 svs
theorem LChecks.summ : Summ Go.Proofs.Try.prog 5 evChecks := evFn_summ (facts Glaw_ok) 1 5
theorem LChecks.ok (a n x k : Int) (ha : U32 a) (hn : I64 n) (hx : U32 x) (hk : I64 k) : evChecks [px a n, .int .u32 x, .int .i64 k] = some (.bool true) := by
  obtain ⟨a, rfl, ha'⟩ := u32_nat ha
  obtain ⟨x, rfl, hx'⟩ := u32_nat hx
  exact (e_checks chkP chkR ofA rofA ofN ofE runLo runHi rrunLo rrunHi hasP hasR hlA hlN hhA hE rhlA rhN rhhA rhE wiP wiR cmA cmL cmE rcmA rcmL rcmE cmpPV rcmpV a n x k).trans (checks ha' hx')
end Go.Sx.Mk


/- Layer 2, by value: the law PrefixPairs. -/
namespace Go.Sx.Mk
open Go.Proofs Go.RowKit
noncomputable def T_pairs (ck cr : I2 Int) (oa ra : I2 Int) (on oe : Int → Int) (rl rh : I2 Int) (sl sh : I2 Int) (hs hr : I3 Bool) (hla hln hha he : I2 Int) (rla rln rha re : I2 Int) (wi wr : I4 Bool) (ca cl ce : I4 Int) (da dl de : I4 Int) (cv dv : I4 Int) (a n b m : Int) : GT SV := GT.br (wi a n b m == wr a n b m)
    (GT.br (wi b m a n == wr b m a n)
      (GT.br (wi a n a n == wr a n a n)
        (GT.br (cv a n b m == dv a n b m)
          (GT.br (cv b m a n == dv b m a n)
            (GT.br (cv a n a n == (0 : Int))
              (GT.br (ca a n b m == da a n b m && (cl a n b m == dl a n b m && true))
                (GT.br (ce a n b m == de a n b m)
                  (GT.br (ca b m a n == da b m a n && (cl b m a n == dl b m a n && true))
                    (GT.br (ce b m a n == de b m a n) (GT.leaf (SV.bool true)) (GT.leaf (SV.bool false)))
                    (GT.leaf (SV.bool false)))
                  (GT.leaf (SV.bool false)))
                (GT.leaf (SV.bool false)))
              (GT.br (ca a n b m == da a n b m && (cl a n b m == dl a n b m && true))
                (GT.br (ce a n b m == de a n b m)
                  (GT.br (ca b m a n == da b m a n && (cl b m a n == dl b m a n && true))
                    (GT.br (ce b m a n == de b m a n) (GT.leaf (SV.bool false)) (GT.leaf (SV.bool false)))
                    (GT.leaf (SV.bool false)))
                  (GT.leaf (SV.bool false)))
                (GT.leaf (SV.bool false))))
            (GT.br (ca a n b m == da a n b m && (cl a n b m == dl a n b m && true))
              (GT.br (ce a n b m == de a n b m)
                (GT.br (ca b m a n == da b m a n && (cl b m a n == dl b m a n && true))
                  (GT.br (ce b m a n == de b m a n) (GT.leaf (SV.bool false)) (GT.leaf (SV.bool false)))
                  (GT.leaf (SV.bool false)))
                (GT.leaf (SV.bool false)))
              (GT.leaf (SV.bool false))))
          (GT.br (ca a n b m == da a n b m && (cl a n b m == dl a n b m && true))
            (GT.br (ce a n b m == de a n b m)
              (GT.br (ca b m a n == da b m a n && (cl b m a n == dl b m a n && true))
                (GT.br (ce b m a n == de b m a n) (GT.leaf (SV.bool false)) (GT.leaf (SV.bool false)))
                (GT.leaf (SV.bool false)))
              (GT.leaf (SV.bool false)))
            (GT.leaf (SV.bool false))))
        (GT.br (cv a n b m == dv a n b m)
          (GT.br (cv b m a n == dv b m a n)
            (GT.br (cv a n a n == (0 : Int))
              (GT.br (ca a n b m == da a n b m && (cl a n b m == dl a n b m && true))
                (GT.br (ce a n b m == de a n b m)
                  (GT.br (ca b m a n == da b m a n && (cl b m a n == dl b m a n && true))
                    (GT.br (ce b m a n == de b m a n) (GT.leaf (SV.bool false)) (GT.leaf (SV.bool false)))
                    (GT.leaf (SV.bool false)))
                  (GT.leaf (SV.bool false)))
                (GT.leaf (SV.bool false)))
              (GT.br (ca a n b m == da a n b m && (cl a n b m == dl a n b m && true))
                (GT.br (ce a n b m == de a n b m)
                  (GT.br (ca b m a n == da b m a n && (cl b m a n == dl b m a n && true))
                    (GT.br (ce b m a n == de b m a n) (GT.leaf (SV.bool false)) (GT.leaf (SV.bool false)))
                    (GT.leaf (SV.bool false)))
                  (GT.leaf (SV.bool false)))
                (GT.leaf (SV.bool false))))
            (GT.br (ca a n b m == da a n b m && (cl a n b m == dl a n b m && true))
              (GT.br (ce a n b m == de a n b m)
                (GT.br (ca b m a n == da b m a n && (cl b m a n == dl b m a n && true))
                  (GT.br (ce b m a n == de b m a n) (GT.leaf (SV.bool false)) (GT.leaf (SV.bool false)))
                  (GT.leaf (SV.bool false)))
                (GT.leaf (SV.bool false)))
              (GT.leaf (SV.bool false))))
          (GT.br (ca a n b m == da a n b m && (cl a n b m == dl a n b m && true))
            (GT.br (ce a n b m == de a n b m)
              (GT.br (ca b m a n == da b m a n && (cl b m a n == dl b m a n && true))
                (GT.br (ce b m a n == de b m a n) (GT.leaf (SV.bool false)) (GT.leaf (SV.bool false)))
                (GT.leaf (SV.bool false)))
              (GT.leaf (SV.bool false)))
            (GT.leaf (SV.bool false)))))
      (GT.br (cv a n b m == dv a n b m)
        (GT.br (cv b m a n == dv b m a n)
          (GT.br (cv a n a n == (0 : Int))
            (GT.br (ca a n b m == da a n b m && (cl a n b m == dl a n b m && true))
              (GT.br (ce a n b m == de a n b m)
                (GT.br (ca b m a n == da b m a n && (cl b m a n == dl b m a n && true))
                  (GT.br (ce b m a n == de b m a n) (GT.leaf (SV.bool false)) (GT.leaf (SV.bool false)))
                  (GT.leaf (SV.bool false)))
                (GT.leaf (SV.bool false)))
              (GT.leaf (SV.bool false)))
            (GT.br (ca a n b m == da a n b m && (cl a n b m == dl a n b m && true))
              (GT.br (ce a n b m == de a n b m)
                (GT.br (ca b m a n == da b m a n && (cl b m a n == dl b m a n && true))
                  (GT.br (ce b m a n == de b m a n) (GT.leaf (SV.bool false)) (GT.leaf (SV.bool false)))
                  (GT.leaf (SV.bool false)))
                (GT.leaf (SV.bool false)))
              (GT.leaf (SV.bool false))))
          (GT.br (ca a n b m == da a n b m && (cl a n b m == dl a n b m && true))
            (GT.br (ce a n b m == de a n b m)
              (GT.br (ca b m a n == da b m a n && (cl b m a n == dl b m a n && true))
                (GT.br (ce b m a n == de b m a n) (GT.leaf (SV.bool false)) (GT.leaf (SV.bool false)))
                (GT.leaf (SV.bool false)))
              (GT.leaf (SV.bool false)))
            (GT.leaf (SV.bool false))))
        (GT.br (ca a n b m == da a n b m && (cl a n b m == dl a n b m && true))
          (GT.br (ce a n b m == de a n b m)
            (GT.br (ca b m a n == da b m a n && (cl b m a n == dl b m a n && true))
              (GT.br (ce b m a n == de b m a n) (GT.leaf (SV.bool false)) (GT.leaf (SV.bool false)))
              (GT.leaf (SV.bool false)))
            (GT.leaf (SV.bool false)))
          (GT.leaf (SV.bool false)))))
    (GT.br (cv a n b m == dv a n b m)
      (GT.br (cv b m a n == dv b m a n)
        (GT.br (cv a n a n == (0 : Int))
          (GT.br (ca a n b m == da a n b m && (cl a n b m == dl a n b m && true))
            (GT.br (ce a n b m == de a n b m)
              (GT.br (ca b m a n == da b m a n && (cl b m a n == dl b m a n && true))
                (GT.br (ce b m a n == de b m a n) (GT.leaf (SV.bool false)) (GT.leaf (SV.bool false)))
                (GT.leaf (SV.bool false)))
              (GT.leaf (SV.bool false)))
            (GT.leaf (SV.bool false)))
          (GT.br (ca a n b m == da a n b m && (cl a n b m == dl a n b m && true))
            (GT.br (ce a n b m == de a n b m)
              (GT.br (ca b m a n == da b m a n && (cl b m a n == dl b m a n && true))
                (GT.br (ce b m a n == de b m a n) (GT.leaf (SV.bool false)) (GT.leaf (SV.bool false)))
                (GT.leaf (SV.bool false)))
              (GT.leaf (SV.bool false)))
            (GT.leaf (SV.bool false))))
        (GT.br (ca a n b m == da a n b m && (cl a n b m == dl a n b m && true))
          (GT.br (ce a n b m == de a n b m)
            (GT.br (ca b m a n == da b m a n && (cl b m a n == dl b m a n && true))
              (GT.br (ce b m a n == de b m a n) (GT.leaf (SV.bool false)) (GT.leaf (SV.bool false)))
              (GT.leaf (SV.bool false)))
            (GT.leaf (SV.bool false)))
          (GT.leaf (SV.bool false))))
      (GT.br (ca a n b m == da a n b m && (cl a n b m == dl a n b m && true))
        (GT.br (ce a n b m == de a n b m)
          (GT.br (ca b m a n == da b m a n && (cl b m a n == dl b m a n && true))
            (GT.br (ce b m a n == de b m a n) (GT.leaf (SV.bool false)) (GT.leaf (SV.bool false)))
            (GT.leaf (SV.bool false)))
          (GT.leaf (SV.bool false)))
        (GT.leaf (SV.bool false))))
theorem e_pairs (ck cr : I2 Int) (oa ra : I2 Int) (on oe : Int → Int) (rl rh : I2 Int) (sl sh : I2 Int) (hs hr : I3 Bool) (hla hln hha he : I2 Int) (rla rln rha re : I2 Int) (wi wr : I4 Bool) (ca cl ce : I4 Int) (da dl de : I4 Int) (cv dv : I4 Int) (a n b m : Int) : ev (Glaw ck cr oa ra on oe rl rh sl sh hs hr hla hln hha he rla rln rha re wi wr ca cl ce da dl de cv dv) 1 8 [px a n, px b m] = (T_pairs ck cr oa ra on oe rl rh sl sh hs hr hla hln hha he rla rln rha re wi wr ca cl ce da dl de cv dv a n b m).opt := by kernel_rfl
end Go.Sx.Mk


/- Layer 2: plain laws: Within, Common, Compare. -/
namespace Go.Sx.Mk
open Go.RowKit
theorem len8 : ∀ z : Nat, z < 256 → ∃ l : Nat, strAt8 (z : Int) = (l : Int) ∧ l ≤ 8 ∧ ∀ j, j ≤ 8 → (z < 2 ^ j ↔ l ≤ j) := by
  intro z hz
  have key : (List.range 256).all (fun z => decide (0 ≤ strAt8 (Int.ofNat z) ∧ strAt8 (Int.ofNat z) ≤ 8) && (List.range 9).all fun j => decide (z < 2 ^ j) == decide (strAt8 (Int.ofNat z) ≤ Int.ofNat j)) = true := by kernel_rfl
  have h := List.all_eq_true.1 key z (by simpa using hz)
  rw [Bool.and_eq_true] at h
  have h1 := of_decide_eq_true h.1
  obtain ⟨l, hl, hl2⟩ := nat_of (n := strAt8 (Int.ofNat z)) (b := 9) (by omega)
  refine ⟨l, hl, by omega, fun j hj => ?_⟩
  have h2 := List.all_eq_true.1 h.2 j (by simp; omega)
  rw [hl] at h2
  have h3 : decide (z < 2 ^ j) = decide ((l : Int) ≤ Int.ofNat j) := eq_of_beq h2
  have h4 : ((l : Int) ≤ Int.ofNat j) ↔ l ≤ j := by show (l : Int) ≤ (j : Int) ↔ _; omega
  rw [← h4]
  exact decide_eq_decide.1 h3
theorem blen {x s : Nat} (hz : x / 2 ^ s < 256) (hs : s ≤ 24) (h1 : s = 0 ∨ 1 ≤ x / 2 ^ s) : ∃ l : Nat, strAt8 ((x / 2 ^ s : Nat) : Int) = (l : Int) ∧ l ≤ 8 ∧ ∀ t, t ≤ 32 → (x < 2 ^ t ↔ s + l ≤ t) := by
  obtain ⟨l, e, h8, hj⟩ := len8 _ hz
  refine ⟨l, e, h8, fun t ht => ?_⟩
  by_cases hts : t < s
  · have hz1 : 1 ≤ x / 2 ^ s := by rcases h1 with h | h <;> omega
    have h0 := (hj 0 (by omega))
    have hx : 2 ^ s ≤ x := by
      have := Nat.div_mul_le_self x (2 ^ s)
      have h2 : 2 ^ s * 1 ≤ x / 2 ^ s * 2 ^ s := by rw [Nat.mul_comm]; exact Nat.mul_le_mul_right _ hz1
      omega
    have hlt : 2 ^ t ≤ 2 ^ s := Nat.pow_le_pow_right (by omega) (by omega)
    constructor
    · intro h; omega
    · intro h; omega
  · have e2 : 2 ^ t = 2 ^ (t - s) * 2 ^ s := by rw [← Nat.pow_add]; congr 1; omega
    rw [e2, ← Nat.div_lt_iff_lt_mul (Nat.two_pow_pos s)]
    by_cases h8t : t - s ≤ 8
    · rw [hj _ h8t]; omega
    · have : 2 ^ 8 ≤ 2 ^ (t - s) := Nat.pow_le_pow_right (by omega) (by omega)
      constructor
      · intro _; omega
      · intro _; omega
theorem fdiv_nat (x d : Nat) : ((x : Int)).fdiv (d : Int) = ((x / d : Nat) : Int) := by
  rw [Int.fdiv_eq_ediv_of_nonneg _ (by omega)]
  exact_mod_cast rfl
theorem tabV_nat {z l : Nat} (hz : z < 256) (h : strAt8 (z : Int) = (l : Int)) (hl : l ≤ 8) : tabV (z : Int) = (l : Int) := by
  unfold tabV
  rw [wrap_u8 (by omega) (by omega), h, wrap_i64 (by omega) (by omega)]
theorem lz_prop {x : Nat} (hx : x < T32) : ∃ L : Nat, lzV x = (L : Int) ∧ L ≤ 32 ∧ ∀ k, k ≤ 32 → (k ≤ L ↔ x < 2 ^ (32 - k)) := by
  unfold T32 at hx
  have fin : ∀ (s l : Nat), s + l ≤ 32 → (∀ t, t ≤ 32 → (x < 2 ^ t ↔ s + l ≤ t)) → ∃ L : Nat, IntKind.wrap .i64 (32 - IntKind.wrap .i64 ((s : Int) + (l : Int))) = (L : Int) ∧ L ≤ 32 ∧ ∀ k, k ≤ 32 → (k ≤ L ↔ x < 2 ^ (32 - k)) := by
    intro s l hsl h
    refine ⟨32 - (s + l), ?_, by omega, fun k hk => ?_⟩
    · rw [wrap_i64 (n := (s : Int) + (l : Int)) (by omega) (by omega), wrap_i64 (by omega) (by omega)]; omega
    · rw [h _ (by omega)]; omega
  unfold lzV
  have d1 : ((x : Int)).fdiv 65536 = ((x / 65536 : Nat) : Int) := fdiv_nat x 65536
  have d2 : ((x : Int)).fdiv 256 = ((x / 256 : Nat) : Int) := fdiv_nat x 256
  rw [d1, d2]
  have d3 : (((x / 65536 : Nat) : Int)).fdiv 256 = ((x / 65536 / 256 : Nat) : Int) := fdiv_nat _ 256
  rw [d3]
  by_cases h1 : (65536 : Int) ≤ x
  · rw [decide_eq_true h1]
    by_cases h2 : (256 : Int) ≤ ((x / 65536 : Nat) : Int)
    · rw [decide_eq_true h2]
      have e : x / 65536 / 256 = x / 2 ^ 24 := by rw [Nat.div_div_eq_div_mul]
      rw [e]
      obtain ⟨l, g1, g2, g3⟩ := blen (x := x) (s := 24) (by omega) (by omega) (by right; omega)
      have := fin 24 l (by omega) g3
      rw [← tabV_nat (by omega) g1 g2] at this
      exact this
    · rw [decide_eq_false h2]
      have e : x / 65536 = x / 2 ^ 16 := rfl
      rw [e] at h2 ⊢
      obtain ⟨l, g1, g2, g3⟩ := blen (x := x) (s := 16) (by omega) (by omega) (by right; omega)
      have := fin 16 l (by omega) g3
      rw [← tabV_nat (by omega) g1 g2] at this
      exact this
  · rw [decide_eq_false h1]
    by_cases h2 : (256 : Int) ≤ x
    · rw [decide_eq_true h2]
      have e : x / 256 = x / 2 ^ 8 := rfl
      rw [e]
      obtain ⟨l, g1, g2, g3⟩ := blen (x := x) (s := 8) (by omega) (by omega) (by right; omega)
      have := fin 8 l (by omega) g3
      rw [← tabV_nat (by omega) g1 g2] at this
      exact this
    · rw [decide_eq_false h2]
      obtain ⟨l, g1, g2, g3⟩ := blen (x := x) (s := 0) (by simp; omega) (by omega) (by left; rfl)
      have := fin 0 l (by omega) g3
      have e : x / 2 ^ 0 = x := by simp
      rw [e] at g1
      rw [← tabV_nat (by omega) g1 g2] at this
      exact this
theorem xor_lt_iff {a b K : Nat} (ha : a < T32) (hb : b < T32) (hK : K ≤ 32) : a ^^^ b < 2 ^ K ↔ a / 2 ^ K = b / 2 ^ K := by
  rw [div_eq_iff_bits ha hb hK]
  constructor
  · intro h j _
    have := Nat.testBit_lt_two_pow (Nat.lt_of_lt_of_le h (Nat.pow_le_pow_right (n := 2) (by omega) (show K ≤ K + j by omega)))
    rw [Nat.testBit_xor] at this
    revert this
    cases a.testBit (K + j) <;> cases b.testBit (K + j) <;> simp
  · intro h
    refine Nat.lt_pow_two_of_testBit _ fun i hi => ?_
    rw [Nat.testBit_xor]
    by_cases h32 : i < 32
    · have := h (i - K) (by omega)
      rw [show K + (i - K) = i by omega] at this
      rw [this]; simp
    · have e : ∀ y, y < T32 → y.testBit i = false := fun y hy => Nat.testBit_lt_two_pow (Nat.lt_of_lt_of_le hy (by
        have : 2 ^ 32 ≤ 2 ^ i := Nat.pow_le_pow_right (by omega) (by omega)
        unfold T32; omega))
      rw [e a ha, e b hb]; rfl
theorem wi_eq {a b : Nat} (ha : a < T32) (hb : b < T32) (n m : Int) : wiP a n b m = wiR a n b m := by
  unfold wiP wiR
  rw [hasP_eq hb ha, chk_eq ha]
  cases h : (chkR a n == 0) with
  | false => rfl
  | true =>
    unfold hasR
    cases h2 : (chkR b m != 0) with
    | true =>
      have : (chkR b m == 0) = false := by simpa using h2
      rw [this]; simp [sure]
    | false =>
      have : (chkR b m == 0) = true := by simpa using h2
      rw [this]; simp [sure]
theorem cmp_eq (a n b m : Int) : cmpPV a n b m = rcmpV a n b m := by
  unfold cmpPV rcmpV orV cmpV
  by_cases h1 : a < b
  · rw [decide_eq_true h1]; rfl
  · rw [decide_eq_false h1]
    by_cases h2 : b < a
    · have e : (a == b) = false := by rw [beq_eq_false_iff_ne]; omega
      rw [decide_eq_true h2, e]; rfl
    · have e : (a == b) = true := by rw [beq_iff_eq]; omega
      rw [decide_eq_false h2, e]
      by_cases h3 : n < m
      · rw [decide_eq_true h3]; rfl
      · rw [decide_eq_false h3]
        by_cases h4 : m < n
        · have e : (n == m) = false := by rw [beq_eq_false_iff_ne]; omega
          rw [decide_eq_true h4, e]; rfl
        · have e : (n == m) = true := by rw [beq_iff_eq]; omega
          rw [decide_eq_false h4, e]; rfl
theorem cmp_self (a n : Int) : cmpPV a n a n = 0 := by
  rw [cmp_eq]; unfold rcmpV
  rw [decide_eq_false (by omega), decide_eq_false (by omega)]
  simp [sure]
theorem chk_cut {a k : Nat} (ha : a < T32) (hk : k ≤ 32) : a / 2 ^ (32 - k) * 2 ^ (32 - k) < T32 ∧ chkR ((a / 2 ^ (32 - k) * 2 ^ (32 - k) : Nat) : Int) k = 0 := by
  have hlt : a / 2 ^ (32 - k) * 2 ^ (32 - k) < T32 := Nat.lt_of_le_of_lt (Nat.div_mul_le_self a (2 ^ (32 - k))) ha
  refine ⟨hlt, ?_⟩
  rw [chkR_eq hlt]
  unfold chkS
  rw [if_pos (by omega), Int.toNat_natCast, Nat.mul_mod_left, if_pos rfl]
theorem ofN_nat {k : Nat} (hk : k ≤ 32) : ofN k = (k : Int) := by
  unfold ofN badN
  rw [decide_eq_false (by omega), decide_eq_false (by omega)]; rfl
theorem wiR_cut {a b m k : Nat} (ha : a < T32) (hb : b < T32) (hk : k ≤ 32) (hcb : chkR b m = 0) : wiR b m (rofA a k) (ofN k) = (decide (k ≤ m) && decide (a / 2 ^ (32 - k) = b / 2 ^ (32 - k))) := by
  obtain ⟨c1, c2⟩ := chk_cut ha hk
  rw [← ofA_eq ha, ofA_nat ha hk, ofN_nat hk]
  unfold wiR hasR
  rw [hcb, c2, likeV_eq c1 hb hk, Nat.mul_div_cancel _ (Nat.two_pow_pos _)]
  have e : decide ((k : Int) ≤ (m : Int)) = decide (k ≤ m) := decide_eq_decide.2 (by omega)
  rw [e]; rfl
theorem cmF_eq {a b n m N : Nat} (hN : N ≤ 32) (h : ∀ k : Nat, k ≤ 32 → (wiR a n (rofA a k) (ofN k) && wiR b m (rofA a k) (ofN k)) = decide (k ≤ N)) : ∀ k : Nat, k ≤ 32 → cmF rofA ofN wiR a n b m k = if min k N = 0 then none else some (min k N)
  | 0, _ => by simp [cmF]
  | k + 1, hk => by
    unfold cmF
    rw [h (k + 1) hk, cmF_eq hN h k (by omega)]
    by_cases hkN : k + 1 ≤ N
    · rw [decide_eq_true hkN, Nat.min_eq_left hkN]; simp
    · rw [decide_eq_false hkN]
      have e1 : min (k + 1) N = N := by omega
      have e2 : min k N = N := by omega
      rw [e1, e2]
theorem imin_nat (a b : Nat) : imin (a : Int) (b : Int) = ((min a b : Nat) : Int) := by
  unfold imin
  split <;> omega
theorem common_eq {a b : Nat} (ha : a < T32) (hb : b < T32) (n m : Int) : cmA a n b m = rcmA a n b m ∧ cmL a n b m = rcmL a n b m ∧ cmE a n b m = rcmE a n b m := by
  unfold cmA rcmA cmL rcmL cmE rcmE
  rw [chk_eq ha, chk_eq hb]
  by_cases h1 : chkR a n = 0
  · by_cases h2 : chkR b m = 0
    · obtain ⟨n, rfl, hn, _⟩ := chkS_zero ((chkR_eq ha n).symm.trans h1)
      obtain ⟨m, rfl, hm, _⟩ := chkS_zero ((chkR_eq hb m).symm.trans h2)
      have hxor : a ^^^ b < T32 := Nat.xor_lt_two_pow (n := 32) ha hb
      obtain ⟨L, e1, e2, e3⟩ := lz_prop hxor
      have hcm : cmN a n b m = ((min (min n m) L : Nat) : Int) := by
        unfold cmN
        rw [b32_xor ha hb, e1, imin_nat, imin_nat]
      have hw : ∀ k : Nat, k ≤ 32 → (wiR a n (rofA a k) (ofN k) && wiR b m (rofA a k) (ofN k)) = decide (k ≤ min (min n m) L) := by
        intro k hk
        rw [wiR_cut ha ha hk h1, wiR_cut ha hb hk h2, decide_eq_true (rfl : a / 2 ^ (32 - k) = a / 2 ^ (32 - k)), Bool.and_true]
        have := e3 k hk
        rw [xor_lt_iff ha hb (by omega)] at this
        by_cases c1 : k ≤ n <;> by_cases c2 : k ≤ m <;> by_cases c3 : k ≤ L <;> simp [c1, c2, c3, this.1, ← this] <;> omega
      have hF := cmF_eq (by omega) hw 32 (by omega)
      have hmin : min 32 (min (min n m) L) = min (min n m) L := by omega
      rw [hmin] at hF
      rw [h1, h2, hcm]
      unfold cmS cmRA cmRN cmO
      rw [hF]
      have hN : min (min n m) L ≤ 32 := by omega
      clear hcm hmin hw
      generalize min (min n m) L = N at hN hF ⊢
      by_cases h0 : N = 0
      · subst h0
        rw [if_pos rfl]
        have : a / 2 ^ 32 = 0 := Nat.div_eq_of_lt ha
        have e : ofA a ((0 : Nat) : Int) = 0 := by rw [ofA_nat ha (by omega), this]; simp
        refine ⟨?_, rfl, rfl⟩
        show ofA a ((0 : Nat) : Int) = 0
        exact e
      · rw [if_neg h0]
        refine ⟨?_, ?_, ?_⟩
        · exact ofA_eq ha N
        · rfl
        · show ofE (N : Int) = 0
          unfold ofE badN
          rw [decide_eq_false (by omega), decide_eq_false (by omega)]; rfl
    · have e : (chkR b m != 0) = true := by simpa using h2
      rw [h1, e]; exact ⟨rfl, rfl, rfl⟩
  · have e : (chkR a n != 0) = true := by simpa using h1
    rw [e]; exact ⟨rfl, rfl, rfl⟩
theorem pairs {a b : Nat} (ha : a < T32) (hb : b < T32) (n m : Int) : (T_pairs chkP chkR ofA rofA ofN ofE runLo runHi rrunLo rrunHi hasP hasR hlA hlN hhA hE rhlA rhN rhhA rhE wiP wiR cmA cmL cmE rcmA rcmL rcmE cmpPV rcmpV a n b m).opt = some (.bool true) := by
  obtain ⟨c1, c2, c3⟩ := common_eq ha hb n m
  obtain ⟨d1, d2, d3⟩ := common_eq hb ha m n
  unfold T_pairs
  rw [wi_eq ha hb, wi_eq hb ha, wi_eq ha ha, cmp_eq a n b m, cmp_eq b m a n, cmp_self, c1, c2, c3, d1, d2, d3]
  simp only [BEq.rfl, Bool.and_true]
  rfl
noncomputable def evPairs (svs : List SV) : Option SV := ev (Glaw chkP chkR ofA rofA ofN ofE runLo runHi rrunLo rrunHi hasP hasR hlA hlN hhA hE rhlA rhN rhhA rhE wiP wiR cmA cmL cmE rcmA rcmL rcmE cmpPV rcmpV) 1 8 svs
theorem LPairs.summ : Summ Go.Proofs.Try.prog 8 evPairs := evFn_summ (facts Glaw_ok) 1 8
theorem LPairs.ok (a n b m : Int) (ha : U32 a) (hn : I64 n) (hb : U32 b) (hm : I64 m) : evPairs [px a n, px b m] = some (.bool true) := by
  obtain ⟨a, rfl, ha'⟩ := u32_nat ha
  obtain ⟨b, rfl, hb'⟩ := u32_nat hb
  exact (e_pairs chkP chkR ofA rofA ofN ofE runLo runHi rrunLo rrunHi hasP hasR hlA hlN hhA hE rhlA rhN rhhA rhE wiP wiR cmA cmL cmE rcmA rcmL rcmE cmpPV rcmpV a n b m).trans (pairs ha' hb' n m)
end Go.Sx.Mk


/- Prefixes: what Above hands on: the iterator's contract. -/
namespace Go.Sx.Mk
open Go.Proofs Go.RowKit Go.Shelf
attribute [local go_sem] Oper.semAt_some
set_option maxRecDepth 100000 in
theorem care_in (n : Nat) (k : Nat) (hk : k ≤ 32) (W : World) : CallsIn Fence.wide n Try.prog 33 #[.int .i64 k] W fun e W' => e = .returned (.int .u32 (careV k)) ∧ W' = W := by
  refine callsIn_of_wp Try.func33 rfl trivial ?_ rfl
  simp only [Try.ntmps33, List.size_toArray, List.length_cons, List.length_nil, Nat.reduceAdd, Nat.reduceSub, Array.replicate_succ, Array.replicate_zero, List.push_toArray, List.append_toArray, List.nil_append, List.cons_append]
  gi_wp2
  go_ret
  refine ⟨?_, rfl⟩
  have : careV k = 4294967295 * 2 ^ (32 - k) % 4294967296 := by
    unfold careV
    rw [wrap_i64 (n := 32 - (k : Int)) (by omega) (by omega), show (min (32 - (k : Int)).toNat 32) = 32 - k by omega]
    simp [IntKind.wrap, IntKind.signed, IntKind.bits]
  rw [this]
  rfl
theorem cell_at {W : World} {b : Nat} {l : List Value} (h : CellsAt W b l) (i : Nat) (hi : i < l.length) : W.cell? ⟨b, i, none⟩ = some l[i] := by
  obtain ⟨el, hh⟩ := h
  rw [cell_of_row W b i _ _ _ hh]
  simp [hi]
theorem grown_of {W W' : World} (h : Below W.heap.size W W') : W.grownBy W' none := ⟨h.os, h.tape, h.output, h.size, fun k hk _ => h.block k hk⟩
/-- what lies above a prefix, itself first -/
def abL (a : Int) : Nat → List (Int × Int)
  | 0 => [(bits .and .u32 a (careV ((0 : Nat) : Int)), ((0 : Nat) : Int))]
  | k + 1 => (bits .and .u32 a (careV ((k + 1 : Nat) : Int)), ((k + 1 : Nat) : Int)) :: abL a k
def remL (a : Int) : Nat → List (Int × Int)
  | 0 => []
  | j + 1 => abL a j
theorem abL_eq (a : Int) (k : Nat) : abL a k = (bits .and .u32 a (careV (k : Int)), (k : Int)) :: remL a k := by cases k <;> rfl
theorem drew_grown (W : World) : W.grownBy W.drew none := ⟨rfl, rfl, rfl, Nat.le_refl _, fun _ _ _ => rfl⟩
def aboveP (a n : Int) : List (Int × Int) := if chkP a n = 0 then abL a n.toNat else []
def encP (x : Int × Int) : SV := .agg [.int .u32 x.1, .int .i64 x.2]
theorem pcheck_in (n b : Nat) (a m k : Int) (hk : chkP a m = k) (W : World) (hb : CellsAt W b [.int .u32 a, .int .i64 m]) :
    CallsIn Fence.wide n Try.prog 26 #[.agg #[.int .u32 a, .int .i64 m]] W fun e W' => e = .returned (.int .i64 k) ∧ Hid (Below W.heap.size W W' ∧ CellsAt W' b [.int .u32 a, .int .i64 m]) ∧ W'.cell? ⟨b, 0, none⟩ = some (.int .u32 a) ∧ W'.cell? ⟨b, 1, none⟩ = some (.int .i64 m) := by
  refine callsIn_wide.2 ((S_check W [.agg #[.int .u32 a, .int .i64 m]] [px a m] (.int .i64 (chkP a m)) rfl ⟨_, _, rfl, ⟨_, rfl, _, _, rfl, rfl, _, _, rfl, rfl, rfl⟩, rfl⟩).mono fun e W' he => ?_)
  obtain ⟨u, S, rfl, hu, _, bel⟩ := he
  obtain ⟨_, hu'⟩ := hu
  have hu2 : u = .int .i64 (chkP a m) := hu'
  subst hu2
  have hb' := cells_keep bel hb
  exact ⟨by rw [hk], Lib.hid ⟨bel, hb'⟩, cell_at hb' 0 (by simp), cell_at hb' 1 (by simp)⟩
set_option maxRecDepth 100000 in
set_option maxHeartbeats 2000000 in
theorem above1_in (n : Nat) (l b : Nat) (a m : Int) (J Jx : List (Int × Int) → World → Prop)
    (hY : ∀ pre x W, J pre W → pre.length < (aboveP a m).length → YieldAt Fence.wide (n - 1) Try.prog l #[.agg #[.int .u32 x.1, .int .i64 x.2]] W fun e W' =>
      (e = .returned (.bool true) ∧ J (pre ++ [x]) W' ∧ (CellsAt W b [.int .u32 a, .int .i64 m] → CellsAt W' b [.int .u32 a, .int .i64 m])) ∨ (e = .returned (.bool false) ∧ Jx (pre ++ [x]) W'))
    (W : World) (hJ : AbidesFrom W.heap.size J) (hJx : AbidesFrom W.heap.size Jx) (hb : CellsAt W b [.int .u32 a, .int .i64 m]) (h0 : J [] W) :
    CallsIn Fence.wide n Try.prog 39 #[.func (.yield l) #[] #[], .pointer (some ⟨b, 0, none⟩)] W fun e W' => (∃ v, e = .returned v) ∧
      ((∃ ys, ys = aboveP a m ∧ J ys W') ∨ (∃ pre, pre <+: aboveP a m ∧ Jx pre W')) := by
  have hmx : Try.prog.follows .mixedOrders = true := by kernel_rfl
  have hc0 : W.cell? ⟨b, 0, none⟩ = some (.int .u32 a) := cell_at hb 0 (by simp)
  have hc1 : W.cell? ⟨b, 1, none⟩ = some (.int .i64 m) := cell_at hb 1 (by simp)
  refine callsIn_of_wp Try.func39 rfl trivial ?_ rfl
  simp only [Try.ntmps39, List.size_toArray, List.length_cons, List.length_nil, Nat.reduceAdd, Nat.reduceSub, Array.replicate_succ, Array.replicate_zero, List.push_toArray, List.append_toArray, List.nil_append, List.cons_append]
  by_cases hk : chkP a m = 0
  · obtain ⟨hm0, hm1⟩ := chkP_ok hk
    have HP : Hid (aboveP a m = abL a m.toNat) := Lib.hid (by unfold aboveP; rw [if_pos hk])
    have hB := Lib.hid hb
    have HJ := Lib.hid hJ
    have H0 := Lib.hid h0
    clear hb h0
    gi_wp2_with (refine ⟨trivial, (fun h => by cases h), ?_⟩; refine (pcheck_in _ b a m 0 hk _ hB.out).mono ?_; rintro e W1 ⟨rfl, hbel, hd0, hd1⟩)
    have HJ1 : Hid (J [] W1) := Lib.hid (HJ.out _ _ _ _ H0.out (grown_of hbel.out.1) (fun r e => by cases e))
    have HB1 : Hid (CellsAt W1 b [.int .u32 a, .int .i64 m]) := Lib.hid hbel.out.2
    have HJ2 := HJ
    clear hk hc0 hc1 hB HJ H0 hbel hd0 hd1
    obtain ⟨m, rfl⟩ := Int.eq_ofNat_of_zero_le hm0
    have HP' : Hid (aboveP a m = ([] : List (Int × Int)) ++ remL a (m + 1)) := Lib.hid HP.out
    have hm' : m + 1 ≤ 33 := by omega
    clear HP hm0 hm1
    refine wpIn_loop_rounds (m + 1 + 1) ?_
    have e0 : ((m : Nat) : Int) = (((m + 1 : Nat) : Int) - 1) := by omega
    refine (show ∀ (j : Nat) (pre : List (Int × Int)) (W2 : World) (z : Int) (u2 u4 u5 u6 u7 u8 u9 u10 u11 u12 u13 u14 u15 u16 u17 u18 u19 u20 u21 u22 : Value), j ≤ 33 → Hid (z = (j : Int) - 1) → Hid (aboveP a m = pre ++ remL a j) → Hid (J pre W2) → Hid (CellsAt W2 b [.int .u32 a, .int .i64 (m : Nat)]) →
      Code.roundsIn Fence.wide n Try.prog _ _ (j + 1) { tmps := #[.func (.yield l) #[] #[], .pointer (some ⟨b, 0, none⟩), u2, .int .i64 z, u4, u5, u6, u7, u8, u9, u10, u11, u12, u13, u14, u15, u16, u17, u18, u19, u20, u21, u22], defers := [] } W2 from ?_) (m + 1) [] W1 _ _ _ _ _ _ _ _ _ _ _ _ _ _ _ _ _ _ _ _ _ hm' (Lib.hid e0) HP' HJ1 HB1
    clear HP' HJ1 HB1 hm' e0
    intro j
    induction j with
    | zero =>
      intro pre W2 z u2 u4 u5 u6 u7 u8 u9 u10 u11 u12 u13 u14 u15 u16 u17 u18 u19 u20 u21 u22 hj HZ HP HJ HB
      rw [roundsIn_succ]
      obtain rfl : z = -1 := by rw [HZ.out]; rfl
      clear HZ
      gi_wp2
      go_end0
      exact ⟨⟨_, rfl⟩, .inl ⟨pre, by rw [HP.out]; simp [remL], HJ.out⟩⟩
    | succ j ih =>
      intro pre W2 z u2 u4 u5 u6 u7 u8 u9 u10 u11 u12 u13 u14 u15 u16 u17 u18 u19 u20 u21 u22 hj HZ HP HJ HB
      rw [roundsIn_succ]
      obtain rfl : z = (j : Int) := by rw [HZ.out]; omega
      clear HZ
      have hd0 : W2.cell? ⟨b, 0, none⟩ = some (.int .u32 a) := cell_at HB.out 0 (by simp)
      have hd0' : W2.drew.cell? ⟨b, 0, none⟩ = some (.int .u32 a) := hd0
      have hJd : J pre W2.drew := HJ2.out _ _ _ _ HJ.out (drew_grown W2) (fun r e => by cases e)
      have hy := hY pre (bits .and .u32 a (careV (j : Int)), (j : Int)) W2.drew hJd (by rw [HP.out]; show pre.length < (pre ++ abL a j).length; rw [abL_eq]; simp)
      obtain ⟨fn, tmps, assign, body, hy, hR⟩ := hy
      have HR := Lib.hid (hR.mono (R' := fun e W' => ∃ be : Bool, e = .returned (.bool be) ∧ Hid ((be = true ∧ J (pre ++ [(bits .and .u32 a (careV (j : Int)), (j : Int))]) W' ∧ CellsAt W' b [.int .u32 a, .int .i64 (m : Nat)]) ∨ (be = false ∧ Jx (pre ++ [(bits .and .u32 a (careV (j : Int)), (j : Int))]) W'))) (by
        rintro e W' (⟨rfl, h1, h2⟩ | ⟨rfl, h1⟩)
        · exact ⟨true, rfl, Lib.hid (.inl ⟨rfl, h1, h2 HB.out⟩)⟩
        · exact ⟨false, rfl, Lib.hid (.inr ⟨rfl, h1⟩)⟩))
      have HP2 : Hid (aboveP a m = (pre ++ [(bits .and .u32 a (careV (j : Int)), (j : Int))]) ++ remL a j) := Lib.hid (by rw [HP.out]; show pre ++ abL a j = _; rw [abL_eq]; simp)
      have IH := Lib.hid ih
      clear hR hJd HP ih
      have hj32 : j ≤ 32 := by omega
      have h0j : decide ((0 : Int) ≤ (j : Int)) = true := decide_eq_true (by omega)
      gi_wp2
      gi_region_with_o (first | (refine ⟨trivial, (fun h => by cases h), ?_⟩; refine (care_in _ j hj32 _).mono ?_; rintro e w' ⟨rfl, rfl⟩) | (refine ⟨(fun h => by cases h), HR.out.mono ?_⟩; rintro e W' ⟨be, rfl, hor⟩))
      all_goals cases be
      all_goals
        first
        | (have HX := Lib.hid (hor.out.resolve_left (fun h => by cases h.1)).2
           clear hor
           gi_wp2
           refine bodyPost_ret (results_none rfl _ _ _) rfl ?_
           exact ⟨⟨_, rfl⟩, .inr ⟨_, by rw [HP2.out]; exact List.prefix_append _ _, HX.out⟩⟩)
        | (have HX := Lib.hid (hor.out.resolve_right (fun h => by cases h.1)).2
           clear hor
           gi_wp2
           exact IH.out _ _ _ _ _ _ _ _ _ _ _ _ _ _ _ _ _ _ _ _ _ _ _ (by omega) (Lib.hid rfl) HP2 (Lib.hid HX.out.1) (Lib.hid HX.out.2))
  · have hk' : chkP a m = 20 ∨ chkP a m = 21 := by
      unfold chkP at hk ⊢
      cases h1 : decide (m < 0) with
      | true => exact .inl rfl
      | false =>
        cases h2 : decide (32 < m) with
        | true => exact .inl rfl
        | false =>
          cases h3 : (Go.bits .andNot .u32 a (careV m) != 0) with
          | true => exact .inr rfl
          | false => rw [h1, h2, h3] at hk; exact absurd rfl hk
    have HP : Hid (aboveP a m = []) := Lib.hid (by unfold aboveP; rw [if_neg hk])
    have hB := Lib.hid hb
    have HJ := Lib.hid hJ
    have H0 := Lib.hid h0
    clear hb h0 hk
    rcases hk' with hk' | hk'
    · gi_wp2_with (refine ⟨trivial, (fun h => by cases h), ?_⟩; refine (pcheck_in _ b a m 20 hk' _ hB.out).mono ?_; rintro e W1 ⟨rfl, hbel, hd0, hd1⟩)
      refine bodyPost_ret (results_none rfl _ _ _) rfl ?_
      exact ⟨⟨_, rfl⟩, .inl ⟨[], HP.out.symm, HJ.out _ _ _ _ H0.out (grown_of hbel.out.1) (fun r e => by cases e)⟩⟩
    · gi_wp2_with (refine ⟨trivial, (fun h => by cases h), ?_⟩; refine (pcheck_in _ b a m 21 hk' _ hB.out).mono ?_; rintro e W1 ⟨rfl, hbel, hd0, hd1⟩)
      refine bodyPost_ret (results_none rfl _ _ _) rfl ?_
      exact ⟨⟨_, rfl⟩, .inl ⟨[], HP.out.symm, HJ.out _ _ _ _ H0.out (grown_of hbel.out.1) (fun r e => by cases e)⟩⟩
theorem it_above (a m : Int) : IterOK Try.prog 39 [.int .u32 a, .int .i64 m] encP (aboveP a m) := by
  intro n b w hw l J Jx W hbel hJ hJx hY h0
  obtain ⟨el, hh⟩ := hw
  exact above1_in n l b a m J Jx hY W hJ hJx ⟨el, (hbel.block b (Array.getElem?_eq_some_iff.1 hh).1).trans hh⟩ h0
end Go.Sx.Mk


/- Prefixes: the law PrefixHalved, its loop over the iterator. -/
namespace Go.Sx.Mk
open Go.Proofs Go.RowKit
noncomputable def Gha (ck cr : I2 Int) (hs : I3 Bool) (hla hln hha he : I2 Int) (wi : I4 Bool) (cv : I4 Int) : FuncId → Option (List SV → GT SV)
  | 14 => some (sg0 (.leaf (.bool true)))
  | 15 => some (sgP fun a n => .leaf (.int .i64 (cr a n)))
  | 23 => some (sgP fun a n => .leaf (.tup [px (hla a n) (hln a n), px (hha a n) (hln a n), .int .i64 (he a n)]))
  | 18 => some (sgPU fun a n x => .leaf (.bool (hs a n x)))
  | 17 => some (sgPP fun a n b m => .leaf (.bool (wi a n b m)))
  | 16 => some (sgPP fun a n b m => .leaf (.int .i64 (cv a n b m)))
  | 999999 => some (fun _ => GT.stop)
  | _ => none
theorem Gha_ok : ∀ g s, Gha chkP chkR hasP hlA hlN hhA hE wiP cmpPV g = some s → SummT Try.prog g s := fun g s h => by
  unfold Gha at h
  split at h
  · cases h; exact S_awake
  · cases h; exact S_rchk
  · cases h; exact S_halves
  · cases h; exact S_has
  · cases h; exact S_within
  · cases h; exact S_cmp
  · cases h; exact merge_ok
  · cases h
noncomputable def nodeh1 : Code := nodeOf 7 [0,1,0,1,1,1,1,1,1,1,1,1]
def liveh1 : List (Nat × Option (List CK)) := [(66, none), (2, none), (4, none), (9, none), (10, none)]
def outh1 : List (Nat × Option (List CK)) := []
def mkh1 (v : Int) (c : Int) (v' : Int) (c' : Int) (r : Bool) (n : Int) (la : Int) (ln : Int) : St := ⟨sel 92 [66, 2, 4, 9, 10] [.fn 39 [.ptr 0 0], .ptr 1 0, .ptr 2 0, .ptr 3 0, .ptr 4 0], [.cells [.int .u32 v, .int .i64 c], .cells [.int .u32 v', .int .i64 c'], .cells [.bool r], .cells [.int .i64 n], .cells [.int .u32 la, .int .i64 ln]]⟩
def finh1  : St := ⟨sel 92 [] [], []⟩
structure Xh1 where
  v : Int
  c : Int
  v' : Int
  c' : Int
  r : Bool
  n : Int
  la : Int
  ln : Int
def Xh1.st (x : Xh1) : St := mkh1 x.v x.c x.v' x.c' x.r x.n x.la x.ln
def pickh1 : List SV → List Blk → Option Xh1
  | [.fn 39 [.ptr 0 0], .ptr 1 0, .ptr 2 0, .ptr 3 0, .ptr 4 0], [.cells [.int .u32 v, .int .i64 c], .cells [.int .u32 v', .int .i64 c'], .cells [.bool r], .cells [.int .i64 n], .cells [.int .u32 la, .int .i64 ln]] => some ⟨v, c, v', c', r, n, la, ln⟩
  | _, _ => none
theorem pickh1_ok : ∀ vals mem x, pickh1 vals mem = some x → x.st = ⟨sel 92 [66, 2, 4, 9, 10] vals, mem⟩ := by
  intro vals mem x h
  unfold pickh1 at h
  split at h
  · cases h; rfl
  · cases h
theorem rnd_h1 (ck cr : I2 Int) (hs : I3 Bool) (hla hln hha he : I2 Int) (wi : I4 Bool) (cv : I4 Int) (v c v' c' : Int) (r : Bool) (n la ln x y : Int) : roundX Try.prog (Gha ck cr hs hla hln hha he wi cv) ents [] nolp (fun _ => none) 0 (rfB nodeh1) (mkh1 v c v' c' r n la ln).tmps 67 11 5 (mkh1 v c v' c' r n la ln).mem (encP (x, y)) = sure (!wi la ln x y || y != IntKind.i64.wrap (c' - n))
    (some
      (E.ret,
        [Blk.cells [SV.int IntKind.u32 v, SV.int IntKind.i64 c],
          Blk.cells [SV.int IntKind.u32 v', SV.int IntKind.i64 c'], Blk.cells [SV.bool false],
          Blk.cells [SV.int IntKind.i64 n], Blk.cells [SV.int IntKind.u32 la, SV.int IntKind.i64 ln]]))
    (some
      (E.nrm,
        [Blk.cells [SV.int IntKind.u32 v, SV.int IntKind.i64 c],
          Blk.cells [SV.int IntKind.u32 v', SV.int IntKind.i64 c'], Blk.cells [SV.bool r],
          Blk.cells [SV.int IntKind.i64 (IntKind.i64.wrap (n + (1 : Int)))],
          Blk.cells [SV.int IntKind.u32 x, SV.int IntKind.i64 y]])) := by kernel_rfl
def okH (ck : I2 Int) (v c v' c' n la ln : Int) : Bool := n == 0 && (la == v && (ln == c && (v' == v && (c' == c && (decide (0 ≤ v ∧ v < 4294967296) && ck v c == 0)))))
abbrev KH := Int → Int → Int → Int → Int → Int → Int → Bool
def resh1 (ok : KH) (al an : I2 Int) (x : Xh1) : GT (E × St) := .when (ok x.v x.c x.v' x.c' x.n x.la x.ln) (.leaf (.nrm, mkh1 x.v x.c x.v' x.c' x.r (IntKind.wrap .i64 (x.c + 1)) (al x.v x.c) (an x.v x.c)))
def annh1 (ok : KH) (al an : I2 Int) : Ann := ⟨liveh1, 1000000, some (sumT 92 [66, 2, 4, 9, 10] pickh1 (resh1 ok al an))⟩
noncomputable def T_ha (ck cr : I2 Int) (hs : I3 Bool) (hla hln hha he : I2 Int) (wi : I4 Bool) (cv : I4 Int) (ok : KH) (al an : I2 Int) (a n x : Int) : GT SV := GT.br (cr a n != (0 : Int)) (GT.leaf (SV.bool true))
    (GT.br (!(he a n == (0 : Int)) == decide (n < (32 : Int))) (GT.leaf (SV.bool false))
      (GT.br (he a n == (0 : Int))
        (GT.br (!hs (hla a n) (hln a n) x == hs (hha a n) (hln a n) x)
          (GT.br (!hs a n x == true) (GT.leaf (SV.bool false))
            (GT.br (cv (hla a n) (hln a n) (hha a n) (hln a n) != (-1 : Int)) (GT.leaf (SV.bool false))
              (GT.br (!wi (hla a n) (hln a n) a n) (GT.leaf (SV.bool false))
                (GT.br (!wi (hha a n) (hln a n) a n) (GT.leaf (SV.bool false))
                  (GT.br (ok a n a n (0 : Int) a n)
                    (GT.leaf (SV.bool (IntKind.i64.wrap (n + (1 : Int)) == IntKind.i64.wrap (n + (1 : Int)))))
                    GT.stop)))))
          (GT.br (!hs a n x == false) (GT.leaf (SV.bool false))
            (GT.br (cv (hla a n) (hln a n) (hha a n) (hln a n) != (-1 : Int)) (GT.leaf (SV.bool false))
              (GT.br (!wi (hla a n) (hln a n) a n) (GT.leaf (SV.bool false))
                (GT.br (!wi (hha a n) (hln a n) a n) (GT.leaf (SV.bool false))
                  (GT.br (ok a n a n (0 : Int) a n)
                    (GT.leaf (SV.bool (IntKind.i64.wrap (n + (1 : Int)) == IntKind.i64.wrap (n + (1 : Int)))))
                    GT.stop))))))
        (GT.br (ok a n a n (0 : Int) a n)
          (GT.leaf (SV.bool (IntKind.i64.wrap (n + (1 : Int)) == IntKind.i64.wrap (n + (1 : Int))))) GT.stop)))
theorem e_ha (ck cr : I2 Int) (hs : I3 Bool) (hla hln hha he : I2 Int) (wi : I4 Bool) (cv : I4 Int) (ok : KH) (al an : I2 Int) (a n x : Int) : evFn Try.prog (Gha ck cr hs hla hln hha he wi cv) ents [] (lpN [] [(7, [0,1,0,1,1,1,1,1,1,1,1,1], annh1 ok al an)]) 1 7 [px a n, .int .u32 x] = (T_ha ck cr hs hla hln hha he wi cv ok al an a n x).opt := by kernel_rfl
end Go.Sx.Mk


/- Layer 2, by value: the law PrefixNests. -/
namespace Go.Sx.Mk
open Go.Proofs Go.RowKit
noncomputable def Gnest (ck cr : I2 Int) (rl rh : I2 Int) (wi : I4 Bool) (ca cl ce : I4 Int) : FuncId → Option (List SV → GT SV)
  | 14 => some (sg0 (.leaf (.bool true)))
  | 15 => some (sgP fun a n => .leaf (.int .i64 (cr a n)))
  | 21 => some (sgP fun a n => .leaf (.tup [.agg [.int .u32 (rl a n), .int .u32 (rh a n)], .int .i64 (ck a n)]))
  | 17 => some (sgPP fun a n b m => .leaf (.bool (wi a n b m)))
  | 29 => some (sgPP fun a n b m => .leaf (.tup [px (ca a n b m) (cl a n b m), .int .i64 (ce a n b m)]))
  | 999999 => some (fun _ => GT.stop)
  | _ => none
theorem Gnest_ok : ∀ g s, Gnest chkP chkR runLo runHi wiP cmA cmL cmE g = some s → SummT Try.prog g s := fun g s h => by
  unfold Gnest at h
  split at h
  · cases h; exact S_awake
  · cases h; exact S_rchk
  · cases h; exact S_run
  · cases h; exact S_within
  · cases h; exact S_common
  · cases h; exact merge_ok
  · cases h
noncomputable def T_nest (ck cr : I2 Int) (rl rh : I2 Int) (wi : I4 Bool) (ca cl ce : I4 Int) (a n b m c k : Int) : GT SV := GT.br (cr a n != (0 : Int) || cr b m != (0 : Int) || cr c k != (0 : Int)) (GT.leaf (SV.bool true))
    (GT.br (wi a n c k)
      (GT.br (wi (ca a n b m) (cl a n b m) c k == wi b m c k)
        (GT.leaf
          (SV.bool
            (ck a n == (0 : Int) && ck b m == (0 : Int) && ce a n b m == (0 : Int) &&
                      (decide (rh a n < rl b m) || decide (rh b m < rl a n)) == (!wi a n b m && !wi b m a n) &&
                    (wi a n b m == (decide (rl b m ≤ rl a n) && decide (rh a n ≤ rh b m)) &&
                      wi b m a n == (decide (rl a n ≤ rl b m) && decide (rh b m ≤ rh a n))) &&
                  ((wi a n b m && wi b m a n) == (a == b && (n == m && true)) &&
                    (!wi a n b m || !wi b m c k || wi a n c k)) &&
                (wi a n (ca a n b m) (cl a n b m) && wi b m (ca a n b m) (cl a n b m)) &&
              true)))
        (GT.leaf
          (SV.bool
            (ck a n == (0 : Int) && ck b m == (0 : Int) && ce a n b m == (0 : Int) &&
                      (decide (rh a n < rl b m) || decide (rh b m < rl a n)) == (!wi a n b m && !wi b m a n) &&
                    (wi a n b m == (decide (rl b m ≤ rl a n) && decide (rh a n ≤ rh b m)) &&
                      wi b m a n == (decide (rl a n ≤ rl b m) && decide (rh b m ≤ rh a n))) &&
                  ((wi a n b m && wi b m a n) == (a == b && (n == m && true)) &&
                    (!wi a n b m || !wi b m c k || wi a n c k)) &&
                (wi a n (ca a n b m) (cl a n b m) && wi b m (ca a n b m) (cl a n b m)) &&
              false))))
      (GT.br (wi (ca a n b m) (cl a n b m) c k == false)
        (GT.leaf
          (SV.bool
            (ck a n == (0 : Int) && ck b m == (0 : Int) && ce a n b m == (0 : Int) &&
                      (decide (rh a n < rl b m) || decide (rh b m < rl a n)) == (!wi a n b m && !wi b m a n) &&
                    (wi a n b m == (decide (rl b m ≤ rl a n) && decide (rh a n ≤ rh b m)) &&
                      wi b m a n == (decide (rl a n ≤ rl b m) && decide (rh b m ≤ rh a n))) &&
                  ((wi a n b m && wi b m a n) == (a == b && (n == m && true)) &&
                    (!wi a n b m || !wi b m c k || wi a n c k)) &&
                (wi a n (ca a n b m) (cl a n b m) && wi b m (ca a n b m) (cl a n b m)) &&
              true)))
        (GT.leaf
          (SV.bool
            (ck a n == (0 : Int) && ck b m == (0 : Int) && ce a n b m == (0 : Int) &&
                      (decide (rh a n < rl b m) || decide (rh b m < rl a n)) == (!wi a n b m && !wi b m a n) &&
                    (wi a n b m == (decide (rl b m ≤ rl a n) && decide (rh a n ≤ rh b m)) &&
                      wi b m a n == (decide (rl a n ≤ rl b m) && decide (rh b m ≤ rh a n))) &&
                  ((wi a n b m && wi b m a n) == (a == b && (n == m && true)) &&
                    (!wi a n b m || !wi b m c k || wi a n c k)) &&
                (wi a n (ca a n b m) (cl a n b m) && wi b m (ca a n b m) (cl a n b m)) &&
              false)))))
theorem e_nest (ck cr : I2 Int) (rl rh : I2 Int) (wi : I4 Bool) (ca cl ce : I4 Int) (a n b m c k : Int) : ev (Gnest ck cr rl rh wi ca cl ce) 1 9 [px a n, px b m, px c k] = (T_nest ck cr rl rh wi ca cl ce a n b m c k).opt := by kernel_rfl

theorem nchkR {a n : Nat} (ha : a < T32) (h : okP a n) : chkR a n = 0 := by
  rw [chkR_eq ha]
  unfold chkS
  rw [if_pos (by have := h.1; omega), Int.toNat_natCast, if_pos h.2]
/-- one within another: as the runs say -/
def inP (a n b m : Nat) : Prop := m ≤ n ∧ a / 2 ^ (32 - m) = b / 2 ^ (32 - m)
instance (a n b m : Nat) : Decidable (inP a n b m) := by unfold inP; exact inferInstance
theorem nwi {a n b m : Nat} (ha : a < T32) (hb : b < T32) (h1 : okP a n) (h2 : okP b m) : wiP a n b m = decide (inP a n b m) := by
  rw [wi_eq ha hb]
  unfold wiR hasR
  rw [nchkR ha h1, nchkR hb h2, likeV_eq hb ha h2.1]
  by_cases c1 : m ≤ n
  · have e : decide ((m : Int) ≤ (n : Int)) = true := decide_eq_true (by omega)
    rw [e]
    by_cases c2 : a / 2 ^ (32 - m) = b / 2 ^ (32 - m)
    · rw [decide_eq_true c2.symm, decide_eq_true (show inP a n b m from ⟨c1, c2⟩)]; rfl
    · rw [decide_eq_false (show ¬ b / 2 ^ (32 - m) = a / 2 ^ (32 - m) from fun h => c2 h.symm), decide_eq_false (show ¬ inP a n b m from fun h => c2 h.2)]; rfl
  · have e : decide ((m : Int) ≤ (n : Int)) = false := decide_eq_false (by omega)
    rw [e, decide_eq_false (show ¬ inP a n b m from fun h => c1 h.1)]; rfl
theorem pow_split {s t : Nat} (h : s ≤ t) : 2 ^ t = 2 ^ s * 2 ^ (t - s) := by rw [← Nat.pow_add]; congr 1; omega
theorem div_more {x y s t : Nat} (h : s ≤ t) (e : x / 2 ^ s = y / 2 ^ s) : x / 2 ^ t = y / 2 ^ t := by
  rw [pow_split h, ← Nat.div_div_eq_div_mul, ← Nat.div_div_eq_div_mul, e]
theorem div_cut {x s t : Nat} (h : s ≤ t) : (x / 2 ^ s * 2 ^ s) / 2 ^ t = x / 2 ^ t :=
  div_more h (Nat.mul_div_cancel _ (Nat.two_pow_pos s))
theorem mult_of {a J : Nat} (h : a % 2 ^ J = 0) : ∃ q, a = 2 ^ J * q := ⟨a / 2 ^ J, by have := Nat.div_add_mod a (2 ^ J); omega⟩
/-- multiples that differ, differ by one at least -/
theorem mult_step {p x y : Nat} (h : p * x < p * y) : p * x + p ≤ p * y := by
  have : x < y := Nat.lt_of_mul_lt_mul_left h
  calc p * x + p = p * (x + 1) := by rw [Nat.mul_add, Nat.mul_one]
    _ ≤ p * y := Nat.mul_le_mul_left p this
theorem inP_trans {a n b m c k : Nat} (hm : m ≤ 32) (h : inP a n b m) (h' : inP b m c k) : inP a n c k :=
  ⟨Nat.le_trans h'.1 h.1, (div_more (by have := h'.1; omega) h.2).trans h'.2⟩
theorem inP_runs {a n b m : Nat} (h1 : okP a n) (h2 : okP b m) : inP a n b m ↔ b ≤ a ∧ a + low (32 - n) ≤ b + low (32 - m) := by
  obtain ⟨qa, ea⟩ := mult_of h1.2
  obtain ⟨qb, eb⟩ := mult_of h2.2
  have p1 := Nat.two_pow_pos (32 - n)
  have p2 := Nat.two_pow_pos (32 - m)
  have hdb : b / 2 ^ (32 - m) = qb := by rw [eb]; exact Nat.mul_div_cancel_left _ p2
  have hda : a / 2 ^ (32 - m) = qb ↔ b ≤ a ∧ a < b + 2 ^ (32 - m) := by
    rw [Nat.div_eq_iff p2, eb, Nat.mul_comm qb]
    omega
  unfold inP low
  rw [hdb, hda]
  constructor
  · rintro ⟨h, h3, h4⟩
    refine ⟨h3, ?_⟩
    have hs := pow_split (s := 32 - n) (t := 32 - m) (by omega)
    have h5 : 2 ^ (32 - n) * qa < 2 ^ (32 - n) * (2 ^ (32 - m - (32 - n)) * (qb + 1)) := by
      rw [← ea, ← Nat.mul_assoc, ← hs, Nat.mul_add, ← eb]; omega
    have h6 := mult_step h5
    rw [← ea, ← Nat.mul_assoc, ← hs, Nat.mul_add, ← eb] at h6
    omega
  · rintro ⟨h3, h4⟩
    have h5 : 2 ^ (32 - n) ≤ 2 ^ (32 - m) := by omega
    have h6 : 32 - n ≤ 32 - m := (Nat.pow_le_pow_iff_right (by omega)).1 h5
    have := h1.1
    have := h2.1
    exact ⟨by omega, h3, by omega⟩
theorem apart_of {a n b m : Nat} (h1 : okP a n) (h2 : okP b m) (hnm : m ≤ n) : (a + low (32 - n) < b ∨ b + low (32 - m) < a) ↔ ¬ (b ≤ a ∧ a + low (32 - n) ≤ b + low (32 - m)) := by
  obtain ⟨qa, ea⟩ := mult_of h1.2
  obtain ⟨qb, eb⟩ := mult_of h2.2
  have p1 := Nat.two_pow_pos (32 - n)
  have p2 := Nat.two_pow_pos (32 - m)
  have hs := pow_split (s := 32 - n) (t := 32 - m) (by have := h1.1; omega)
  unfold low
  constructor
  · rintro (h | h) <;> omega
  · intro h
    by_cases c : b ≤ a
    · right
      have h3 : ¬ a + (2 ^ (32 - n) - 1) ≤ b + (2 ^ (32 - m) - 1) := fun hc => h ⟨c, hc⟩
      rcases Nat.lt_or_ge a (b + 2 ^ (32 - m)) with h4 | h4
      · exfalso
        have h5 : 2 ^ (32 - n) * qa < 2 ^ (32 - n) * (2 ^ (32 - m - (32 - n)) * (qb + 1)) := by
          rw [← ea, ← Nat.mul_assoc, ← hs, Nat.mul_add, ← eb]; omega
        have h6 := mult_step h5
        rw [← ea, ← Nat.mul_assoc, ← hs, Nat.mul_add, ← eb] at h6
        omega
      · omega
    · left
      have h5 : 2 ^ (32 - n) * qa < 2 ^ (32 - n) * (2 ^ (32 - m - (32 - n)) * qb) := by
        rw [← ea, ← Nat.mul_assoc, ← hs, ← eb]; omega
      have h6 := mult_step h5
      rw [← ea, ← Nat.mul_assoc, ← hs, ← eb] at h6
      omega
theorem apart_iff {a n b m : Nat} (h1 : okP a n) (h2 : okP b m) : (a + low (32 - n) < b ∨ b + low (32 - m) < a) ↔ ¬ inP a n b m ∧ ¬ inP b m a n := by
  rw [inP_runs h1 h2, inP_runs h2 h1]
  have p1 := Nat.two_pow_pos (32 - n)
  have p2 := Nat.two_pow_pos (32 - m)
  rcases Nat.le_total m n with h | h
  · have := apart_of h1 h2 h
    constructor
    · intro h3
      refine ⟨this.1 h3, ?_⟩
      unfold low at *
      omega
    · intro h3; exact this.2 h3.1
  · have := apart_of h2 h1 h
    constructor
    · intro h3
      refine ⟨?_, this.1 h3.symm⟩
      unfold low at *
      omega
    · intro h3; exact (this.2 h3.2).symm
theorem same_iff {a n b m : Nat} (h1 : okP a n) (h2 : okP b m) : (inP a n b m ∧ inP b m a n) ↔ a = b ∧ n = m := by
  constructor
  · rintro ⟨h, h'⟩
    have e : n = m := Nat.le_antisymm h'.1 h.1
    subst e
    refine ⟨?_, rfl⟩
    obtain ⟨qa, ea⟩ := mult_of h1.2
    obtain ⟨qb, eb⟩ := mult_of h2.2
    have p1 := Nat.two_pow_pos (32 - n)
    have h3 := h.2
    rw [ea, eb, Nat.mul_div_cancel_left _ p1, Nat.mul_div_cancel_left _ p1] at h3
    rw [ea, eb, h3]
  · rintro ⟨rfl, rfl⟩
    exact ⟨⟨Nat.le_refl _, rfl⟩, Nat.le_refl _, rfl⟩
/-- what two share, in numbers -/
theorem common_nat {a n b m : Nat} (ha : a < T32) (hb : b < T32) (h1 : okP a n) (h2 : okP b m) : ∃ N : Nat, N ≤ n ∧ N ≤ m ∧ cmA a n b m = ((a / 2 ^ (32 - N) * 2 ^ (32 - N) : Nat) : Int) ∧ cmL a n b m = (N : Int) ∧ cmE a n b m = 0 ∧
    ∀ k, k ≤ n → k ≤ m → (k ≤ N ↔ a / 2 ^ (32 - k) = b / 2 ^ (32 - k)) := by
  have hn := h1.1
  have hm := h2.1
  have c1 : chkP a n = 0 := by rw [chk_eq ha]; exact nchkR ha h1
  have c2 : chkP b m = 0 := by rw [chk_eq hb]; exact nchkR hb h2
  have hxor : a ^^^ b < T32 := Nat.xor_lt_two_pow (n := 32) ha hb
  obtain ⟨L, e1, e2, e3⟩ := lz_prop hxor
  have hcm : cmN a n b m = ((min (min n m) L : Nat) : Int) := by
    unfold cmN
    rw [b32_xor ha hb, e1, imin_nat, imin_nat]
  have hN : min (min n m) L ≤ 32 := by omega
  refine ⟨min (min n m) L, by omega, by omega, ?_, ?_, ?_, fun k k1 k2 => ?_⟩
  · unfold cmA
    rw [c1, c2, hcm]
    exact ofA_nat ha hN
  · unfold cmL
    rw [c1, c2, hcm]
    exact ofN_nat hN
  · unfold cmE
    rw [c1, c2, hcm]
    show ofE _ = 0
    unfold ofE badN
    rw [decide_eq_false (by omega), decide_eq_false (by omega)]; rfl
  · have := e3 k (by omega)
    rw [xor_lt_iff ha hb (by omega)] at this
    rw [← this]
    omega
theorem okP_of {a : Nat} (ha : a < T32) {n : Int} (h : chkR a n = 0) : ∃ m : Nat, n = (m : Int) ∧ okP a m := by
  obtain ⟨m, rfl, h1, h2⟩ := chkS_zero ((chkR_eq ha n).symm.trans h)
  exact ⟨m, rfl, h1, h2⟩
theorem cast_lt (x y : Nat) : decide ((x : Int) < (y : Int)) = decide (x < y) := by by_cases h : x < y <;> simp [h]
theorem cast_le (x y : Nat) : decide ((x : Int) ≤ (y : Int)) = decide (x ≤ y) := by by_cases h : x ≤ y <;> simp [h]
theorem cast_eq (x y : Nat) : ((x : Int) == (y : Int)) = decide (x = y) := by
  rw [Bool.eq_iff_iff]
  simp only [beq_iff_eq, decide_eq_true_eq]
  omega
theorem nests {a b c : Nat} (ha : a < T32) (hb : b < T32) (hc : c < T32) (n m k : Int) : (T_nest chkP chkR runLo runHi wiP cmA cmL cmE a n b m c k).opt = some (.bool true) := by
  unfold T_nest
  by_cases c1 : chkR a n = 0
  rotate_left
  · have e : (chkR a n != 0) = true := by simpa using c1
    rw [e]; rfl
  by_cases c2 : chkR b m = 0
  rotate_left
  · have e : (chkR b m != 0) = true := by simpa using c2
    rw [e, Bool.or_true]; rfl
  by_cases c3 : chkR c k = 0
  rotate_left
  · have e : (chkR c k != 0) = true := by simpa using c3
    rw [e, Bool.or_true]; rfl
  obtain ⟨n, rfl, o1⟩ := okP_of ha c1
  obtain ⟨m, rfl, o2⟩ := okP_of hb c2
  obtain ⟨k, rfl, o3⟩ := okP_of hc c3
  have p1 : chkP a n = 0 := by rw [chk_eq ha]; exact c1
  have p2 : chkP b m = 0 := by rw [chk_eq hb]; exact c2
  have l1 : runLo a n = (a : Int) := by unfold runLo; rw [p1]; rfl
  have l2 : runLo b m = (b : Int) := by unfold runLo; rw [p2]; rfl
  obtain ⟨N, n1, n2, n3, n4, n5, n6⟩ := common_nat ha hb o1 o2
  obtain ⟨hp, hp0⟩ := chk_cut (k := N) ha (by have := o1.1; omega)
  obtain ⟨N', hN', op⟩ := okP_of hp hp0
  have : N' = N := by omega
  subst this
  rw [c1, c2, c3, p1, p2, n3, n4, n5, l1, l2, runHi_nat ha o1.1 o1.2, runHi_nat hb o2.1 o2.2, nwi ha hc o1 o3, nwi hb hc o2 o3, nwi ha hb o1 o2, nwi hb ha o2 o1, nwi ha hp o1 op, nwi hb hp o2 op, nwi hp hc op o3,
    cast_lt, cast_lt, cast_le, cast_le, cast_le, cast_le, cast_eq, cast_eq]
  have f1 : (decide (a + low (32 - n) < b) || decide (b + low (32 - m) < a)) = (!decide (inP a n b m) && !decide (inP b m a n)) := by
    have := apart_iff o1 o2
    rw [Bool.eq_iff_iff]
    simpa using this
  have f2 : (decide (inP a n b m)) = (decide (b ≤ a) && decide (a + low (32 - n) ≤ b + low (32 - m))) := by
    rw [Bool.eq_iff_iff]
    simpa using inP_runs o1 o2
  have f3 : (decide (inP b m a n)) = (decide (a ≤ b) && decide (b + low (32 - m) ≤ a + low (32 - n))) := by
    rw [Bool.eq_iff_iff]
    simpa using inP_runs o2 o1
  have f4 : (decide (inP a n b m) && decide (inP b m a n)) = (decide (a = b) && (decide (n = m) && true)) := by
    rw [Bool.eq_iff_iff]
    simpa using same_iff o1 o2
  have f5 : (!decide (inP a n b m) || !decide (inP b m c k) || decide (inP a n c k)) = true := by
    by_cases h1 : inP a n b m
    · by_cases h2 : inP b m c k
      · simp [h1, h2, inP_trans o2.1 h1 h2]
      · simp [h2]
    · simp [h1]
  have f6 : inP a n (a / 2 ^ (32 - N') * 2 ^ (32 - N')) N' := ⟨n1, (div_cut (Nat.le_refl _)).symm⟩
  have f7 : inP b m (a / 2 ^ (32 - N') * 2 ^ (32 - N')) N' := ⟨n2, ((n6 N' n1 n2).1 (Nat.le_refl _)).symm.trans (div_cut (Nat.le_refl _)).symm⟩
  have f8 : decide (inP (a / 2 ^ (32 - N') * 2 ^ (32 - N')) N' c k) = (decide (inP a n c k) && decide (inP b m c k)) := by
    rw [Bool.eq_iff_iff]
    simp only [decide_eq_true_eq, Bool.and_eq_true]
    constructor
    · intro h
      exact ⟨inP_trans op.1 f6 h, inP_trans op.1 f7 h⟩
    · rintro ⟨h1, h2⟩
      have hk : k ≤ N' := (n6 k h1.1 h2.1).2 (h1.2.trans h2.2.symm)
      exact ⟨hk, (div_cut (by omega)).trans h1.2⟩
  rw [f1, ← f2, ← f3, f4, f5, f8, decide_eq_true f6, decide_eq_true f7]
  simp only [BEq.rfl, Bool.and_true, Bool.true_and]
  cases decide (inP a n c k) <;> cases decide (inP b m c k) <;> rfl
noncomputable def evNests (svs : List SV) : Option SV := ev (Gnest chkP chkR runLo runHi wiP cmA cmL cmE) 1 9 svs
theorem LNests.summ : Summ Go.Proofs.Try.prog 9 evNests := evFn_summ (facts Gnest_ok) 1 9
theorem LNests.ok (a n b m c k : Int) (ha : U32 a) (hn : I64 n) (hb : U32 b) (hm : I64 m) (hc : U32 c) (hk : I64 k) : evNests [px a n, px b m, px c k] = some (.bool true) := by
  obtain ⟨a, rfl, ha'⟩ := u32_nat ha
  obtain ⟨b, rfl, hb'⟩ := u32_nat hb
  obtain ⟨c, rfl, hc'⟩ := u32_nat hc
  exact (e_nest chkP chkR runLo runHi wiP cmA cmL cmE a n b m c k).trans (nests ha' hb' hc' n m k)
end Go.Sx.Mk


/- Prefixes: the law PrefixHalved. -/
namespace Go.Sx.Mk
open Go.Proofs Go.RowKit
theorem entAbove2 : Entered Try.prog 39 := ents_ok _ (by kernel_rfl)
def cutN (V k : Nat) : Nat := V / 2 ^ (32 - k) * 2 ^ (32 - k)
theorem cutN_lt {V : Nat} (hV : V < T32) (k : Nat) : cutN V k < T32 := Nat.lt_of_le_of_lt (Nat.div_mul_le_self _ _) hV
theorem cutN_ok (V : Nat) {k : Nat} (hk : k ≤ 32) : okP (cutN V k) k := ⟨hk, Nat.mul_mod_left _ _⟩
theorem cut_care {V k : Nat} (hV : V < T32) (hk : k ≤ 32) : bits .and .u32 V (careV (k : Int)) = ((cutN V k : Nat) : Int) := by
  rw [care_eq hk, b32_and hV (hig_lt _), and_hig hV (by omega)]; rfl
theorem wi_cut {V j k : Nat} (hV : V < T32) (hj : j ≤ 32) (hk : k ≤ j) : wiP (cutN V j) j (cutN V k) k = true := by
  rw [nwi (cutN_lt hV j) (cutN_lt hV k) (cutN_ok V hj) (cutN_ok V (by omega))]
  refine decide_eq_true ⟨hk, ?_⟩
  unfold cutN
  rw [div_cut (s := 32 - j) (t := 32 - k) (by omega), Nat.mul_div_cancel _ (Nat.two_pow_pos _)]
abbrev YH := Bool × Int × Int × Int
def stpH (c : Int) (y : YH) (z : Int × Int) : E × YH :=
  match (!wiP y.2.2.1 y.2.2.2 z.1 z.2 || z.2 != IntKind.wrap .i64 (c - y.2.1)) with
  | true => (.ret, (false, y.2.1, y.2.2.1, y.2.2.2))
  | false => (.nrm, (y.1, IntKind.wrap .i64 (y.2.1 + 1), z.1, z.2))
theorem stpH_ok {V j k m : Nat} (hV : V < T32) (hm : m ≤ 32) (hj : j ≤ 32) (hk : k ≤ j) (hkm : k ≤ m) (r : Bool) :
    stpH m ((r, (m : Int) - (k : Int), ((cutN V j : Nat) : Int), (j : Int)) : YH) (((cutN V k : Nat) : Int), (k : Int)) = (E.nrm, ((r, (m : Int) - (k : Int) + 1, ((cutN V k : Nat) : Int), (k : Int)) : YH)) := by
  unfold stpH
  have h1 : IntKind.wrap .i64 ((m : Int) - ((m : Int) - (k : Int))) = (k : Int) := by rw [wrap_i64 (by omega) (by omega)]; omega
  have h2 : IntKind.wrap .i64 ((m : Int) - (k : Int) + 1) = (m : Int) - k + 1 := wrap_i64 (by omega) (by omega)
  simp only [wi_cut hV hj hk, h1, h2]
  simp
theorem runH {V m : Nat} (hV : V < T32) (hm : m ≤ 32) (r : Bool) : ∀ (k j : Nat), j ≤ 32 → k ≤ j → k ≤ m →
    runY (stpH m) (abL V k) ((r, (m : Int) - (k : Int), ((cutN V j : Nat) : Int), (j : Int)) : YH) = (E.nrm, ((r, (m : Int) + 1, ((cutN V 0 : Nat) : Int), (0 : Int)) : YH))
  | 0, j, hj, hk, hkm => by
    have h := stpH_ok hV hm hj hk hkm r
    unfold abL
    rw [cut_care hV (by omega)]
    unfold runY
    rw [h]
    simp only [runY]
    congr 2
  | k + 1, j, hj, hk, hkm => by
    have h := stpH_ok hV hm hj hk hkm r
    have ih := runH hV hm r k (k + 1) (by omega) (by omega) (by omega)
    have e : (m : Int) - ((k + 1 : Nat) : Int) + 1 = (m : Int) - (k : Int) := by omega
    unfold abL
    rw [cut_care hV (by omega)]
    unfold runY
    rw [h, e]
    exact ih
def okHalf (v c v' c' n la ln : Int) : Bool := okH chkP v c v' c' n la ln
def alH (v _c : Int) : Int := bits .and .u32 v (careV 0)
def anH (_v _c : Int) : Int := 0
theorem okHalf_nat {v c v' c' n la ln : Int} (h : okHalf v c v' c' n la ln = true) : ∃ V m : Nat, v = (V : Int) ∧ c = (m : Int) ∧ V < T32 ∧ m ≤ 32 ∧ V % 2 ^ (32 - m) = 0 ∧ v' = v ∧ c' = c ∧ n = 0 ∧ la = v ∧ ln = c ∧ chkP v c = 0 := by
  unfold okHalf okH at h
  simp only [Bool.and_eq_true, beq_iff_eq, decide_eq_true_eq] at h
  obtain ⟨h1, h2, h3, h4, h5, h6, h7⟩ := h
  obtain ⟨V, rfl, hV⟩ := nat_of (n := v) (b := 4294967296) h6
  have h8 := h7
  rw [chkP_eq hV] at h8
  obtain ⟨m, rfl, hm, h0⟩ := chkS_zero h8
  exact ⟨V, m, rfl, rfl, hV, hm, h0, h4, h5, h1, h2, h3, h7⟩
theorem eqh1 : nodeh1 = .rangeFunc (.tmp 66) #[67] (rfA nodeh1) (rfB nodeh1) := by kernel_rfl
theorem code_h1 : CodeOKP Try.prog 0 nodeh1 (fun st => (sumT 92 [66, 2, 4, 9, 10] pickh1 (resh1 okHalf alH anH) st).opt) := by
  rw [eqh1]
  refine rangeBoxOK (imp := []) (lpc := fun _ => none) (facts Gha_ok) 0 0 (.tmp 66) 67 11 2 (rfA nodeh1) (rfB nodeh1) (lpOK_none _) 92 [66, 2, 4, 9, 10] pickh1 Xh1.st (resh1 okHalf alH anH) pickh1_ok ?_
  intro x e0 st' h _
  unfold resh1 at h
  obtain ⟨h1, h2⟩ := GT.opt_when h
  obtain ⟨V, m, hv, hc, hV, hm, h0, hv', hc', hn, hla, hln, hck⟩ := okHalf_nat h1
  obtain ⟨v, c, v', c', r, n, la, ln⟩ := x
  simp only at hv hc hv' hc' hn hla hln hck
  subst hn hla hln hv' hc'
  subst hv hc
  have hw : IntKind.wrap .i64 ((m : Int) + 1) = (m : Int) + 1 := wrap_i64 (by omega) (by omega)
  have hcut : cutN V m = V := by
    unfold cutN
    have := Nat.div_add_mod V (2 ^ (32 - m))
    rw [Nat.mul_comm]
    omega
  have hL : aboveP (V : Int) (m : Int) = abL V m := by unfold aboveP; rw [if_pos hck]; rfl
  have hrun := runH hV hm r m m hm (Nat.le_refl _) (Nat.le_refl _)
  rw [hcut, show (m : Int) - (m : Int) = 0 by omega] at hrun
  have h2' : (E.nrm, mkh1 V m V m r (IntKind.wrap .i64 ((m : Int) + 1)) (alH V m) (anH V m)) = (e0, st') := Option.some.inj h2
  simp only [Prod.mk.injEq] at h2'
  obtain ⟨rfl, rfl⟩ := h2'
  refine ⟨Int × Int, YH, encP, 39, 0, [.int .u32 V, .int .i64 m], aboveP V m, fun y => (mkh1 V m V m y.1 y.2.1 y.2.2.1 y.2.2.2).mem, stpH m, (r, 0, V, m), ⟨rfl, rfl, fun _ => rfl, fun _ => rfl, rfl, entAbove2, it_above V m, fun x => ⟨_, rfl, rfl, rfl⟩, by kernel_rfl, by show 67 < (sel 92 _ _).length; simp [sel], by show 11 < (sel 92 _ _).length; simp [sel], ?_⟩, ?_⟩
  · rintro ⟨r', n, la, ln⟩ ⟨x, y⟩
    refine (rnd_h1 chkP chkR hasP hlA hlN hhA hE wiP cmpPV V m V m r' n la ln x y).trans ?_
    unfold stpH
    simp only
    rcases Bool.eq_false_or_eq_true (!wiP la ln x y || y != IntKind.wrap .i64 ((m : Int) - n)) with hb | hb
    · rw [hb]; rfl
    · rw [hb]; rfl
  · rw [hL, hrun, hw]
    refine ⟨rfl, ?_⟩
    have : alH (V : Int) (m : Int) = ((cutN V 0 : Nat) : Int) := cut_care (k := 0) hV (by omega)
    rw [this]
    rfl
theorem has_nat {a n x : Nat} (ha : a < T32) (hx : x < T32) (h : okP a n) : hasP a n x = decide (a / 2 ^ (32 - n) = x / 2 ^ (32 - n)) := by
  rw [hasP_eq ha hx]
  unfold hasR
  rw [nchkR ha h, likeV_eq ha hx h.1]
  rfl
theorem halfs {a m : Nat} (ha : a < T32) (hm : m < 32) (h0 : a % 2 ^ (32 - m) = 0) : ∃ q s : Nat, s = 31 - m ∧ 32 - m = s + 1 ∧ a = 2 ^ s * (2 * q) ∧ a + 2 ^ s = 2 ^ s * (2 * q + 1) := by
  refine ⟨a / 2 ^ (32 - m), 31 - m, rfl, by omega, ?_, ?_⟩
  · have := Nat.div_add_mod a (2 ^ (32 - m))
    rw [show 32 - m = (31 - m) + 1 by omega] at this h0 ⊢
    rw [Nat.pow_succ] at this h0 ⊢
    rw [h0, Nat.add_zero] at this
    rw [← Nat.mul_assoc]
    exact this.symm
  · have := Nat.div_add_mod a (2 ^ (32 - m))
    rw [show 32 - m = (31 - m) + 1 by omega] at this h0 ⊢
    rw [Nat.pow_succ] at this h0 ⊢
    rw [h0, Nat.add_zero] at this
    rw [Nat.mul_add, Nat.mul_one, ← Nat.mul_assoc, this]
noncomputable def evHalved (svs : List SV) : Option SV := evFn Try.prog (Gha chkP chkR hasP hlA hlN hhA hE wiP cmpPV) ents [] (lpN [] [(7, [0,1,0,1,1,1,1,1,1,1,1,1], annh1 okHalf alH anH)]) 1 7 svs
theorem LHalved.summ : Summ Try.prog 7 evHalved := evFn_summ (factsN Gha_ok [] _ (fun x hx => by cases hx) (by
  intro x hx
  rw [List.mem_singleton] at hx
  subst hx
  intro s pin hs hp
  cases hs
  have hpin : pin = 0 := by
    have : (1000000 : Nat) = 1000000 + pin := hp
    omega
  subst hpin
  exact code_h1)) 1 7
theorem LHalved.ok (a n x : Int) (ha0 : U32 a) (_hn : I64 n) (hx0 : U32 x) : evHalved [px a n, .int .u32 x] = some (.bool true) := by
  refine (e_ha chkP chkR hasP hlA hlN hhA hE wiP cmpPV okHalf alH anH a n x).trans ?_
  obtain ⟨a, rfl, ha⟩ := u32_nat ha0
  obtain ⟨x, rfl, hx⟩ := u32_nat hx0
  unfold T_ha
  have hce := chk_eq ha n
  by_cases hc : chkP a n = 0
  case neg =>
    have : (chkR a n != 0) = true := by rw [← hce]; simpa using hc
    rw [this]; rfl
  have hR : (chkR a n != 0) = false := by rw [← hce, hc]; rfl
  have hok : okHalf a n a n 0 a n = true := by
    unfold okHalf okH
    rw [hc, decide_eq_true (show (0 : Int) ≤ (a : Int) ∧ (a : Int) < 4294967296 by unfold T32 at ha; omega)]
    simp
  have hself : ∀ z : Int, (z == z) = true := fun z => by simp
  have hS := hc
  rw [chkP_eq ha] at hS
  obtain ⟨m, rfl, hm, h0⟩ := chkS_zero hS
  rw [hR, hok, hself]
  by_cases h32 : m = 32
  · subst h32
    have hE1 : hE (a : Int) ((32 : Nat) : Int) = 22 := by unfold hE; rw [hc]; rfl
    rw [hE1]
    rfl
  have hlt : m < 32 := by omega
  have e32 : ((m : Int) == 32) = false := by simp; omega
  have hE1 : hE (a : Int) (m : Int) = 0 := by unfold hE; rw [hc, e32]; rfl
  have hl1 : hlA (a : Int) (m : Int) = (a : Int) := by unfold hlA; rw [hc, e32]; rfl
  have hl2 : hlN (a : Int) (m : Int) = ((m + 1 : Nat) : Int) := by
    unfold hlN
    rw [hc, e32]
    show IntKind.wrap .i64 ((m : Int) + 1) = _
    rw [wrap_i64 (by omega) (by omega)]
    omega
  obtain ⟨hh, hhl, _⟩ := half_nat ha hlt h0
  obtain ⟨q, s, hs, hs1, ea, eb⟩ := halfs ha hlt h0
  rw [← hs] at hh hhl
  have hs2 : 32 - (m + 1) = s := by omega
  have p := Nat.two_pow_pos s
  have oa : okP a m := ⟨hm, h0⟩
  have ol : okP a (m + 1) := ⟨by omega, by rw [hs2, ea]; exact Nat.mul_mod_right _ _⟩
  have oh : okP (a + 2 ^ s) (m + 1) := ⟨by omega, by rw [hs2, eb]; exact Nat.mul_mod_right _ _⟩
  have d1 : a / 2 ^ s = 2 * q := by rw [ea]; exact Nat.mul_div_cancel_left _ p
  have d2 : (a + 2 ^ s) / 2 ^ s = 2 * q + 1 := by rw [eb]; exact Nat.mul_div_cancel_left _ p
  have up : ∀ y : Nat, y / 2 ^ (s + 1) = y / 2 ^ s / 2 := fun y => by rw [Nat.pow_succ, Nat.div_div_eq_div_mul]
  rw [hE1, hl1, hl2, hh]
  have c1 : cmpPV (a : Int) ((m + 1 : Nat) : Int) ((a + 2 ^ s : Nat) : Int) ((m + 1 : Nat) : Int) = -1 := by
    rw [cmp_eq]
    unfold rcmpV
    rw [decide_eq_true (show (a : Int) < ((a + 2 ^ s : Nat) : Int) by omega)]
    rfl
  have w1 : wiP (a : Int) ((m + 1 : Nat) : Int) (a : Int) (m : Int) = true := by
    rw [nwi ha ha ol oa]
    exact decide_eq_true ⟨by omega, rfl⟩
  have w2 : wiP ((a + 2 ^ s : Nat) : Int) ((m + 1 : Nat) : Int) (a : Int) (m : Int) = true := by
    rw [nwi hhl ha oh oa]
    refine decide_eq_true ⟨by omega, ?_⟩
    rw [hs1, up, up, d1, d2]
    omega
  have b1 := has_nat ha hx oa
  have b2 := has_nat ha hx ol
  have b3 := has_nat hhl hx oh
  rw [hs1, up, up, d1] at b1
  rw [hs2, d1] at b2
  rw [hs2, d2] at b3
  have e3 : decide ((m : Int) < 32) = true := decide_eq_true (by omega)
  rw [b1, b2, b3, c1, w1, w2, e3]
  generalize x / 2 ^ s = z
  rcases Nat.lt_trichotomy z (2 * q) with h | h | h
  · rw [decide_eq_false (show ¬ 2 * q / 2 = z / 2 by omega), decide_eq_false (show ¬ 2 * q = z by omega), decide_eq_false (show ¬ 2 * q + 1 = z by omega)]; rfl
  · rw [decide_eq_true (show 2 * q / 2 = z / 2 by omega), decide_eq_true (show 2 * q = z by omega), decide_eq_false (show ¬ 2 * q + 1 = z by omega)]; rfl
  · by_cases h3 : 2 * q + 1 = z
    · rw [decide_eq_true (show 2 * q / 2 = z / 2 by omega), decide_eq_false (show ¬ 2 * q = z by omega), decide_eq_true h3]; rfl
    · rw [decide_eq_false (show ¬ 2 * q / 2 = z / 2 by omega), decide_eq_false (show ¬ 2 * q = z by omega), decide_eq_false h3]; rfl
end Go.Sx.Mk
