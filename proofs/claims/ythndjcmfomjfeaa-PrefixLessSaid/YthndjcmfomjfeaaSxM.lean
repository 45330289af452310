/- What the functions of the layer answer, by value, and the plain laws behind the statement. Conditions: none beyond those that each theorem names. -/
import Derived.Test.YthndjcmfomjfeaaSxC
import Derived.Test.YthndjcmfomjfeaaChecked
set_option linter.unusedVariables false
set_option linter.unusedSimpArgs false
/- The program of this seat, by value: what is known of it at the start. -/
namespace Go.Sx.Mk
open Go.Proofs Go.RowKit
def nolp : FuncId → List Nat → Option Ann := fun _ _ => none
def lpOf (f0 : Nat) (p0 : List Nat) (ann : Ann) : FuncId → List Nat → Option Ann := fun f p => if f = f0 ∧ p = p0 then some ann else none
noncomputable def bodyOf (f : Nat) (p : List Nat) : Code := match Try.prog.funcs[f]? with
  | some fn => match fn.body with
    | some c => match codeAt c p with
      | some (.loop b) => b
      | _ => .skip
    | none => .skip
  | none => .skip
def ents : List Nat := [3, 4, 5, 6, 7, 8, 9, 10, 11, 12, 13, 14, 15, 16, 17, 18, 19, 20, 21, 22, 23, 24, 25, 26, 27, 28, 29, 30, 31, 32, 33, 34, 35, 36, 37, 38, 39, 40, 41, 42, 43]
theorem ents_ok : ∀ g, ents.contains g = true → Entered Try.prog g := by
  have key : ents.all (fun g => match Try.prog.funcs[g]? with | some fn => (fn.name != "runtime.NumGoroutine") && fn.body.isSome | none => false) = true := by kernel_rfl
  intro g hg
  have := List.all_eq_true.1 key g (by simpa using hg)
  split at this
  · rename_i fn hfn
    rw [Bool.and_eq_true] at this
    exact entered_of hfn this.1 this.2
  · cases this
theorem facts {Γ : FuncId → Option (List SV → GT SV)} (hΓ : ∀ g s, Γ g = some s → SummT Try.prog g s) : Facts Try.prog Γ ents nolp :=
  ⟨Checked.mixed Try.checked, hΓ, ents_ok, fun f fn c _ _ p ann s h => by cases h⟩
/-- what is known of a loop of a function -/
def LpAt (f0 : Nat) (p0 : List Nat) (ann : Ann) : Prop := ∀ s, ann.sum = some s → LoopOKP Try.prog ann.fuel (bodyOf f0 p0) (fun st => (s st).opt)
/-- the loops that are known -/
def lpL (l : List (Nat × List Nat × Ann)) : FuncId → List Nat → Option Ann := fun f p => match l with
  | [] => none
  | (f0, p0, ann) :: l => match decide (f = f0 ∧ p = p0) with
    | true => some ann
    | false => lpL l f p
theorem factsL {Γ : FuncId → Option (List SV → GT SV)} (hΓ : ∀ g s, Γ g = some s → SummT Try.prog g s) (l : List (Nat × List Nat × Ann)) (h : ∀ x ∈ l, LpAt x.1 x.2.1 x.2.2) : Facts Try.prog Γ ents (lpL l) :=
  ⟨Checked.mixed Try.checked, hΓ, ents_ok, fun f fn c hf hc p a s ha hs c' hc' => by
    have key : ∀ l : List (Nat × List Nat × Ann), (∀ x ∈ l, LpAt x.1 x.2.1 x.2.2) → lpL l f p = some a → LoopOKP Try.prog a.fuel (bodyOf f p) (fun st => (s st).opt) := by
      intro l
      induction l with
      | nil => intro _ h; cases h
      | cons x l ih =>
        intro hx h
        unfold lpL at h
        split at h
        · rename_i hd
          cases h
          obtain ⟨rfl, rfl⟩ := of_decide_eq_true hd
          exact hx x (by simp) s hs
        · exact ih (fun y hy => hx y (by simp [hy])) h
    have e : bodyOf f p = c' := by unfold bodyOf; rw [hf]; simp only; rw [hc]; simp only; rw [hc']
    rw [← e]
    exact key l h ha⟩
def lpC (l : List (List Nat × Ann)) : List Nat → Option Ann := fun p => match l with
  | [] => none
  | (p0, ann) :: l => match decide (p = p0) with
    | true => some ann
    | false => lpC l p
theorem lpC_ok {root : Code} (l : List (List Nat × Ann)) (h : ∀ x ∈ l, ∀ s, x.2.sum = some s → ∀ c, codeAt root x.1 = some (.loop c) → LoopOKP Try.prog x.2.fuel c (fun st => (s st).opt)) : LpOK Try.prog root (lpC l) := by
  intro p a s ha hs c hc
  induction l with
  | nil => cases ha
  | cons x l ih =>
    unfold lpC at ha
    split at ha
    · rename_i hd
      cases ha
      have hd' := of_decide_eq_true hd
      subst hd'
      exact h x (by simp) s hs c hc
    · exact ih (fun y hy => h y (by simp [hy])) ha
def G0 : FuncId → Option (List SV → GT SV) := fun _ => none
theorem G0_ok : ∀ g s, G0 g = some s → SummT Try.prog g s := fun g s h => by cases h
noncomputable def ev (G : FuncId → Option (List SV → GT SV)) (d f : Nat) (l : List SV) := evFn Try.prog G ents [] nolp d f l
/-- the first table of bytes that a code indexes -/
def tabIn : Code → Option ByteArray
  | .region _ ops _ => ops.toList.findSome? fun o => match o.op with
    | .index _ (.const (.string s)) _ => some s
    | _ => none
  | .seq a b => match tabIn a with
    | some s => some s
    | none => tabIn b
  | .cond _ a b => match tabIn a with
    | some s => some s
    | none => tabIn b
  | .block _ a => tabIn a
  | .scope a => tabIn a
  | .loop a => tabIn a
  | _ => none
noncomputable def tabOf (f : Nat) : ByteArray := match Try.prog.funcs[f]? with
  | some fn => match fn.body with
    | some c => match tabIn c with
      | some s => s
      | none => .empty
    | none => .empty
  | none => .empty
theorem GT.opt_leaf {α : Type} (a : α) : (GT.leaf a).opt = some a := rfl
theorem GT.opt_br {α : Type} (c : Bool) (t f : GT α) : (GT.br c t f).opt = sure c t.opt f.opt := by cases c <;> rfl
end Go.Sx.Mk


/- Layer 2, by value: the program's functions on prefixes. -/
namespace Go.Sx.Mk
open Go.Proofs Go.RowKit
def px (a n : Int) : SV := .agg [.int .u32 a, .int .i64 n]
noncomputable def T_care (n : Int) : GT SV := GT.br (decide (IntKind.i64.wrap ((32 : Int) - n) < (0 : Int))) GT.stop
    (GT.leaf
      (SV.int IntKind.u32
        (IntKind.u32.wrap ((4294967295 : Int) * (2 : Int) ^ min (IntKind.i64.wrap ((32 : Int) - n)).toNat (32 : Nat)))))
theorem e_care (n : Int) : ev G0 1 33 [.int .i64 n] = (T_care n).opt := by kernel_rfl
noncomputable def lenTab : ByteArray := tabOf 43
noncomputable def T_len32 (a : Int) : GT SV := GT.br (decide ((65536 : Int) ≤ a))
    (GT.br (decide ((256 : Int) ≤ a.fdiv (65536 : Int)))
      (GT.br
        (decide
          ((0 : Int) ≤ IntKind.u8.wrap ((a.fdiv (65536 : Int)).fdiv (256 : Int)) ∧
            IntKind.u8.wrap ((a.fdiv (65536 : Int)).fdiv (256 : Int)) < (256 : Int)))
        (GT.leaf
          (SV.int IntKind.i64
            (IntKind.i64.wrap
              ((32 : Int) -
                IntKind.i64.wrap
                  ((24 : Int) +
                    IntKind.i64.wrap
                      (strAt lenTab (IntKind.u8.wrap ((a.fdiv (65536 : Int)).fdiv (256 : Int))).toNat))))))
        GT.stop)
      (GT.br
        (decide
          ((0 : Int) ≤ IntKind.u8.wrap (a.fdiv (65536 : Int)) ∧ IntKind.u8.wrap (a.fdiv (65536 : Int)) < (256 : Int)))
        (GT.leaf
          (SV.int IntKind.i64
            (IntKind.i64.wrap
              ((32 : Int) -
                IntKind.i64.wrap
                  ((16 : Int) + IntKind.i64.wrap (strAt lenTab (IntKind.u8.wrap (a.fdiv (65536 : Int))).toNat))))))
        GT.stop))
    (GT.br (decide ((256 : Int) ≤ a))
      (GT.br
        (decide ((0 : Int) ≤ IntKind.u8.wrap (a.fdiv (256 : Int)) ∧ IntKind.u8.wrap (a.fdiv (256 : Int)) < (256 : Int)))
        (GT.leaf
          (SV.int IntKind.i64
            (IntKind.i64.wrap
              ((32 : Int) -
                IntKind.i64.wrap
                  ((8 : Int) + IntKind.i64.wrap (strAt lenTab (IntKind.u8.wrap (a.fdiv (256 : Int))).toNat))))))
        GT.stop)
      (GT.br (decide ((0 : Int) ≤ IntKind.u8.wrap a ∧ IntKind.u8.wrap a < (256 : Int)))
        (GT.leaf
          (SV.int IntKind.i64
            (IntKind.i64.wrap
              ((32 : Int) - IntKind.i64.wrap ((0 : Int) + IntKind.i64.wrap (strAt lenTab (IntKind.u8.wrap a).toNat))))))
        GT.stop))
theorem e_len32 (a : Int) : ev G0 2 40 [.int .u32 a] = (T_len32 a).opt := by kernel_rfl
def careV (n : Int) : Int := IntKind.wrap .u32 (4294967295 * 2 ^ (min (IntKind.wrap .i64 (32 - n)).toNat 32))
theorem S_care : SummT Try.prog 33 (sgI fun n => .when (decide (0 ≤ n ∧ n ≤ 32)) (.leaf (.int .u32 (careV n)))) := sgI.summ (evFn_summ (facts G0_ok) 1 33) (fun n sv h => by
  obtain ⟨h1, h2⟩ := GT.opt_when h
  have h1' := of_decide_eq_true h1
  have hw : IntKind.wrap .i64 (32 - n) = 32 - n := wrap_i64 (by omega) (by omega)
  refine (e_care n).trans (Eq.trans ?_ h2)
  unfold T_care careV
  have : decide (IntKind.wrap .i64 (32 - n) < 0) = false := decide_eq_false (by omega)
  rw [this]; rfl)
def Gcare (cr : Int → Int) : FuncId → Option (List SV → GT SV)
  | 33 => some (sgI fun n => .when (decide (0 ≤ n ∧ n ≤ 32)) (.leaf (.int .u32 (cr n))))
  | _ => none
theorem Gcare_ok : ∀ g s, Gcare careV g = some s → SummT Try.prog g s := fun g s h => by
  unfold Gcare at h
  split at h
  · cases h; exact S_care
  · cases h
theorem wrap_u8_in (n : Int) : 0 ≤ IntKind.wrap .u8 n ∧ IntKind.wrap .u8 n < 256 := by
  simp [IntKind.wrap, IntKind.signed, IntKind.bits]
  omega
noncomputable def T_check (cr : Int → Int) (a n : Int) : GT SV := GT.br (decide (n < (0 : Int))) (GT.leaf (SV.int IntKind.i64 (20 : Int)))
    (GT.br (decide ((32 : Int) < n)) (GT.leaf (SV.int IntKind.i64 (20 : Int)))
      (GT.br (decide ((0 : Int) ≤ n ∧ n ≤ (32 : Int)))
        (GT.br (bits BinOp.andNot IntKind.u32 a (cr n) != (0 : Int)) (GT.leaf (SV.int IntKind.i64 (21 : Int)))
          (GT.leaf (SV.int IntKind.i64 (0 : Int))))
        GT.stop))
theorem e_check (cr : Int → Int) (a n : Int) : ev (Gcare cr) 1 26 [px a n] = (T_check cr a n).opt := by kernel_rfl
noncomputable def T_of (cr : Int → Int) (a n : Int) : GT SV := GT.br (decide (n < (0 : Int)))
    (GT.leaf
      (SV.tup [SV.agg [SV.int IntKind.u32 (0 : Int), SV.int IntKind.i64 (0 : Int)], SV.int IntKind.i64 (20 : Int)]))
    (GT.br (decide ((32 : Int) < n))
      (GT.leaf
        (SV.tup [SV.agg [SV.int IntKind.u32 (0 : Int), SV.int IntKind.i64 (0 : Int)], SV.int IntKind.i64 (20 : Int)]))
      (GT.br (decide ((0 : Int) ≤ n ∧ n ≤ (32 : Int)))
        (GT.leaf
          (SV.tup
            [SV.agg [SV.int IntKind.u32 (bits BinOp.and IntKind.u32 a (cr n)), SV.int IntKind.i64 n],
              SV.int IntKind.i64 (0 : Int)]))
        GT.stop))
theorem e_of (cr : Int → Int) (a n : Int) : ev (Gcare cr) 1 19 [.int .u32 a, .int .i64 n] = (T_of cr a n).opt := by kernel_rfl
def chkP (a n : Int) : Int := sure (decide (n < 0)) 20 (sure (decide (32 < n)) 20 (sure (Go.bits .andNot .u32 a (careV n) != 0) 21 0))
theorem S_check : SummT Try.prog 26 (sgP fun a n => .leaf (.int .i64 (chkP a n))) := sgP.summ (evFn_summ (facts Gcare_ok) 1 26) (fun a n sv h => by
  refine (e_check careV a n).trans (Eq.trans ?_ h)
  unfold T_check chkP
  by_cases h1 : n < 0
  · rw [decide_eq_true h1]; rfl
  · by_cases h2 : 32 < n
    · rw [decide_eq_false h1, decide_eq_true h2]; rfl
    · rw [decide_eq_false h1, decide_eq_false h2, decide_eq_true (show 0 ≤ n ∧ n ≤ 32 by omega)]
      cases (Go.bits .andNot .u32 a (careV n) != 0) <;> rfl)
theorem chkP_ok {a n : Int} (h : chkP a n = 0) : 0 ≤ n ∧ n ≤ 32 := by
  unfold chkP at h
  by_cases h1 : n < 0
  · rw [decide_eq_true h1] at h; cases h
  · by_cases h2 : 32 < n
    · rw [decide_eq_false h1, decide_eq_true h2] at h; cases h
    · omega
def Gck (cr : Int → Int) (ck : I2 Int) : FuncId → Option (List SV → GT SV)
  | 33 => some (sgI fun n => .when (decide (0 ≤ n ∧ n ≤ 32)) (.leaf (.int .u32 (cr n))))
  | 26 => some (sgP fun a n => .leaf (.int .i64 (ck a n)))
  | _ => none
theorem Gck_ok : ∀ g s, Gck careV chkP g = some s → SummT Try.prog g s := fun g s h => by
  unfold Gck at h
  split at h
  · cases h; exact S_care
  · cases h; exact S_check
  · cases h
noncomputable def T_run (cr : Int → Int) (ck : I2 Int) (a n : Int) : GT SV := GT.br (ck a n != (0 : Int))
    (GT.leaf
      (SV.tup [SV.agg [SV.int IntKind.u32 (0 : Int), SV.int IntKind.u32 (0 : Int)], SV.int IntKind.i64 (ck a n)]))
    (GT.br (decide ((0 : Int) ≤ n ∧ n ≤ (32 : Int)))
      (GT.leaf
        (SV.tup
          [SV.agg
              [SV.int IntKind.u32 a,
                SV.int IntKind.u32
                  (bits BinOp.or IntKind.u32 a (bits BinOp.xor IntKind.u32 (4294967295 : Int) (cr n)))],
            SV.int IntKind.i64 (0 : Int)]))
      GT.stop)
theorem e_run (cr : Int → Int) (ck : I2 Int) (a n : Int) : ev (Gck cr ck) 1 21 [px a n] = (T_run cr ck a n).opt := by kernel_rfl
noncomputable def T_has (cr : Int → Int) (ck : I2 Int) (a n x : Int) : GT SV := GT.br (ck a n == (0 : Int))
    (GT.br (decide ((0 : Int) ≤ n ∧ n ≤ (32 : Int)))
      (GT.br (bits BinOp.and IntKind.u32 x (cr n) == a) (GT.leaf (SV.bool true)) (GT.leaf (SV.bool false))) GT.stop)
    (GT.leaf (SV.bool false))
theorem e_has (cr : Int → Int) (ck : I2 Int) (a n x : Int) : ev (Gck cr ck) 1 18 [px a n, .int .u32 x] = (T_has cr ck a n x).opt := by kernel_rfl
noncomputable def T_halves (cr : Int → Int) (ck : I2 Int) (a n : Int) : GT SV := GT.br (ck a n != (0 : Int))
    (GT.leaf
      (SV.tup
        [SV.agg [SV.int IntKind.u32 (0 : Int), SV.int IntKind.i64 (0 : Int)],
          SV.agg [SV.int IntKind.u32 (0 : Int), SV.int IntKind.i64 (0 : Int)], SV.int IntKind.i64 (ck a n)]))
    (GT.br (n == (32 : Int))
      (GT.leaf
        (SV.tup
          [SV.agg [SV.int IntKind.u32 (0 : Int), SV.int IntKind.i64 (0 : Int)],
            SV.agg [SV.int IntKind.u32 (0 : Int), SV.int IntKind.i64 (0 : Int)], SV.int IntKind.i64 (22 : Int)]))
      (GT.br (decide (IntKind.i64.wrap ((31 : Int) - n) < (0 : Int))) GT.stop
        (GT.leaf
          (SV.tup
            [SV.agg [SV.int IntKind.u32 a, SV.int IntKind.i64 (IntKind.i64.wrap (n + (1 : Int)))],
              SV.agg
                [SV.int IntKind.u32
                    (bits BinOp.or IntKind.u32 a
                      (IntKind.u32.wrap
                        ((1 : Int) * (2 : Int) ^ min (IntKind.i64.wrap ((31 : Int) - n)).toNat (32 : Nat)))),
                  SV.int IntKind.i64 (IntKind.i64.wrap (n + (1 : Int)))],
              SV.int IntKind.i64 (0 : Int)]))))
theorem e_halves (cr : Int → Int) (ck : I2 Int) (a n : Int) : ev (Gck cr ck) 1 23 [px a n] = (T_halves cr ck a n).opt := by kernel_rfl
noncomputable def T_cu (a b : Int) : GT SV := GT.br (a != a) (GT.br (b != b) (GT.leaf (SV.int IntKind.i64 (0 : Int))) (GT.leaf (SV.int IntKind.i64 (-1 : Int))))
    (GT.br (b != b) (GT.leaf (SV.int IntKind.i64 (1 : Int)))
      (GT.br (decide (a < b)) (GT.leaf (SV.int IntKind.i64 (-1 : Int)))
        (GT.br (decide (b < a)) (GT.leaf (SV.int IntKind.i64 (1 : Int))) (GT.leaf (SV.int IntKind.i64 (0 : Int))))))
theorem e_cu (a b : Int) : ev G0 2 36 [.int .u32 a, .int .u32 b] = (T_cu a b).opt := by kernel_rfl
noncomputable def T_ci (a b : Int) : GT SV := GT.br (a != a) (GT.br (b != b) (GT.leaf (SV.int IntKind.i64 (0 : Int))) (GT.leaf (SV.int IntKind.i64 (-1 : Int))))
    (GT.br (b != b) (GT.leaf (SV.int IntKind.i64 (1 : Int)))
      (GT.br (decide (a < b)) (GT.leaf (SV.int IntKind.i64 (-1 : Int)))
        (GT.br (decide (b < a)) (GT.leaf (SV.int IntKind.i64 (1 : Int))) (GT.leaf (SV.int IntKind.i64 (0 : Int))))))
theorem e_ci (a b : Int) : ev G0 2 37 [.int .i64 a, .int .i64 b] = (T_ci a b).opt := by kernel_rfl
noncomputable def T_or2 (a b : Int) : GT SV := GT.br (a != (0 : Int)) (GT.leaf (SV.int IntKind.i64 a))
    (GT.br (b != (0 : Int)) (GT.leaf (SV.int IntKind.i64 b)) (GT.leaf (SV.int IntKind.i64 (0 : Int))))
theorem e_or2 (a b : Int) : ev G0 2 35 [.rows [.i .i64] [[a], [b]]] = (T_or2 a b).opt := by kernel_rfl
def cmpV (a b : Int) : Int := sure (decide (a < b)) (-1) (sure (decide (b < a)) 1 0)
def sgUU2 (f : Int → Int → GT SV) : List SV → GT SV
  | [.int .u32 a, .int .u32 b] => f a b
  | _ => .stop
theorem sgUU2.summ {P : Program} {g : FuncId} {s : List SV → Option SV} (h : Summ P g s) {f : Int → Int → GT SV} (hf : ∀ (a : Int) (b : Int) sv, (f a b).opt = some sv → s [.int .u32 a, .int .u32 b] = some sv) : SummT P g (sgUU2 f) := h.weaken (by
  intro svs sv h'
  unfold sgUU2 at h'
  split at h'
  · exact hf _ _ sv h'
  · cases h')
def sgOr (f : Int → Int → GT SV) : List SV → GT SV
  | [.rows [.i .i64] [[a], [b]]] => f a b
  | _ => .stop
theorem sgOr.summ {P : Program} {g : FuncId} {s : List SV → Option SV} (h : Summ P g s) {f : Int → Int → GT SV} (hf : ∀ (a : Int) (b : Int) sv, (f a b).opt = some sv → s [.rows [.i .i64] [[a], [b]]] = some sv) : SummT P g (sgOr f) := h.weaken (by
  intro svs sv h'
  unfold sgOr at h'
  split at h'
  · exact hf _ _ sv h'
  · cases h')
theorem S_cu : SummT Try.prog 36 (sgUU fun a b => .leaf (.int .i64 (cmpV a b))) := sgUU.summ (evFn_summ (facts G0_ok) 2 36) (fun a b sv h => by
  refine (e_cu a b).trans (Eq.trans ?_ h)
  unfold T_cu cmpV
  have ha : (a != a) = false := by simp
  have hb : (b != b) = false := by simp
  rw [ha, hb]
  cases decide (a < b) <;> cases decide (b < a) <;> rfl)
theorem S_ci : SummT Try.prog 37 (sgII fun a b => .leaf (.int .i64 (cmpV a b))) := sgII.summ (evFn_summ (facts G0_ok) 2 37) (fun a b sv h => by
  refine (e_ci a b).trans (Eq.trans ?_ h)
  unfold T_ci cmpV
  have ha : (a != a) = false := by simp
  have hb : (b != b) = false := by simp
  rw [ha, hb]
  cases decide (a < b) <;> cases decide (b < a) <;> rfl)
def orV (a b : Int) : Int := sure (a != 0) a (sure (b != 0) b 0)
theorem S_or : SummT Try.prog 35 (sgOr fun a b => .leaf (.int .i64 (orV a b))) := sgOr.summ (evFn_summ (facts G0_ok) 2 35) (fun a b sv h => by
  refine (e_or2 a b).trans (Eq.trans ?_ h)
  unfold T_or2 orV
  cases (a != 0) <;> cases (b != 0) <;> rfl)
def Gcmp (cu ci ov : I2 Int) : FuncId → Option (List SV → GT SV)
  | 36 => some (sgUU fun a b => .leaf (.int .i64 (cu a b)))
  | 37 => some (sgII fun a b => .leaf (.int .i64 (ci a b)))
  | 35 => some (sgOr fun a b => .leaf (.int .i64 (ov a b)))
  | _ => none
theorem Gcmp_ok : ∀ g s, Gcmp cmpV cmpV orV g = some s → SummT Try.prog g s := fun g s h => by
  unfold Gcmp at h
  split at h
  · cases h; exact S_cu
  · cases h; exact S_ci
  · cases h; exact S_or
  · cases h
noncomputable def T_cmp (cu ci ov : I2 Int) (a n b m : Int) : GT SV := GT.leaf (SV.int IntKind.i64 (ov (cu a b) (ci n m)))
theorem e_cmp (cu ci ov : I2 Int) (a n b m : Int) : ev (Gcmp cu ci ov) 1 16 [px a n, px b m] = (T_cmp cu ci ov a n b m).opt := by kernel_rfl
end Go.Sx.Mk


/- Layer 2, by value: the program's functions on prefixes, what they answer. -/
namespace Go.Sx.Mk
open Go.Proofs Go.RowKit
def badN (n : Int) : Bool := decide (n < 0) || decide (32 < n)
theorem badN_no {n : Int} (h : badN n = false) : 0 ≤ n ∧ n ≤ 32 := by
  simp only [badN, Bool.or_eq_false_iff, decide_eq_false_iff_not] at h
  omega
def ofA (a n : Int) : Int := sure (badN n) 0 (Go.bits .and .u32 a (careV n))
def ofN (n : Int) : Int := sure (badN n) 0 n
def ofE (n : Int) : Int := sure (badN n) 20 0
theorem S_of : SummT Try.prog 19 (sgUI fun a n => .leaf (.tup [px (ofA a n) (ofN n), .int .i64 (ofE n)])) := sgUI.summ (evFn_summ (facts Gcare_ok) 1 19) (fun a n sv h => by
  refine (e_of careV a n).trans (Eq.trans ?_ h)
  unfold T_of ofA ofN ofE badN
  by_cases h1 : n < 0
  · rw [decide_eq_true h1]; rfl
  · by_cases h2 : 32 < n
    · rw [decide_eq_false h1, decide_eq_true h2]; rfl
    · rw [decide_eq_false h1, decide_eq_false h2, decide_eq_true (show 0 ≤ n ∧ n ≤ 32 by omega)]; rfl)
theorem ne_of {c : Int} {b : Bool} (h : (c != 0) = b) : b = false → c = 0 := by
  rintro rfl; simpa using h
def runLo (a n : Int) : Int := sure (chkP a n != 0) 0 a
def runHi (a n : Int) : Int := sure (chkP a n != 0) 0 (Go.bits .or .u32 a (Go.bits .xor .u32 4294967295 (careV n)))
theorem S_run : SummT Try.prog 21 (sgP fun a n => .leaf (.tup [.agg [.int .u32 (runLo a n), .int .u32 (runHi a n)], .int .i64 (chkP a n)])) := sgP.summ (evFn_summ (facts Gck_ok) 1 21) (fun a n sv h => by
  refine (e_run careV chkP a n).trans (Eq.trans ?_ h)
  unfold T_run runLo runHi
  cases hc : (chkP a n != 0) with
  | true => rfl
  | false =>
    have h0 := ne_of hc rfl
    rw [decide_eq_true (chkP_ok h0), h0]; rfl)
def hasP (a n x : Int) : Bool := chkP a n == 0 && Go.bits .and .u32 x (careV n) == a
theorem S_has : SummT Try.prog 18 (sgPU fun a n x => .leaf (.bool (hasP a n x))) := sgPU.summ (evFn_summ (facts Gck_ok) 1 18) (fun a n x sv h => by
  refine (e_has careV chkP a n x).trans (Eq.trans ?_ h)
  unfold T_has hasP
  cases hc : (chkP a n == 0) with
  | false => rfl
  | true =>
    rw [decide_eq_true (chkP_ok (eq_of_beq hc))]
    cases (Go.bits .and .u32 x (careV n) == a) <;> rfl)
def hlA (a n : Int) : Int := sure (chkP a n != 0) 0 (sure (n == 32) 0 a)
def hlN (a n : Int) : Int := sure (chkP a n != 0) 0 (sure (n == 32) 0 (IntKind.wrap .i64 (n + 1)))
def hhA (a n : Int) : Int := sure (chkP a n != 0) 0 (sure (n == 32) 0 (Go.bits .or .u32 a (IntKind.wrap .u32 (1 * 2 ^ (min (IntKind.wrap .i64 (31 - n)).toNat 32)))))
def hE (a n : Int) : Int := sure (chkP a n != 0) (chkP a n) (sure (n == 32) 22 0)
theorem S_halves : SummT Try.prog 23 (sgP fun a n => .leaf (.tup [px (hlA a n) (hlN a n), px (hhA a n) (hlN a n), .int .i64 (hE a n)])) := sgP.summ (evFn_summ (facts Gck_ok) 1 23) (fun a n sv h => by
  refine (e_halves careV chkP a n).trans (Eq.trans ?_ h)
  unfold T_halves hlA hlN hhA hE
  cases hc : (chkP a n != 0) with
  | true => rfl
  | false =>
    have h0 := chkP_ok (ne_of hc rfl)
    cases h3 : (n == 32) with
    | true => rfl
    | false =>
      have hn : n ≠ 32 := by simpa using h3
      have hw : IntKind.wrap .i64 (31 - n) = 31 - n := wrap_i64 (by omega) (by omega)
      rw [hw, decide_eq_false (show ¬ (31 - n < 0) by omega)]; rfl)
def cmpPV (a n b m : Int) : Int := orV (cmpV a b) (cmpV n m)
theorem S_cmp : SummT Try.prog 16 (sgPP fun a n b m => .leaf (.int .i64 (cmpPV a n b m))) := sgPP.summ (evFn_summ (facts Gcmp_ok) 1 16) (fun a n b m sv h => (e_cmp cmpV cmpV orV a n b m).trans h)
/-- how many bits a byte has -/
def strAt8 (n : Int) : Int := sure (decide (n < 1)) 0 (sure (decide (n < 2)) 1 (sure (decide (n < 4)) 2 (sure (decide (n < 8)) 3 (sure (decide (n < 16)) 4 (sure (decide (n < 32)) 5 (sure (decide (n < 64)) 6 (sure (decide (n < 128)) 7 8)))))))
def tabV (n : Int) : Int := IntKind.wrap .i64 (strAt8 (IntKind.wrap .u8 n))
def lzV (a : Int) : Int := IntKind.wrap .i64 (32 - IntKind.wrap .i64 (sure (decide (65536 ≤ a)) (sure (decide (256 ≤ a.fdiv 65536)) (24 + tabV ((a.fdiv 65536).fdiv 256)) (16 + tabV (a.fdiv 65536))) (sure (decide (256 ≤ a)) (8 + tabV (a.fdiv 256)) (0 + tabV a))))
theorem strAt8_eq (n : Int) : strAt lenTab (IntKind.wrap .u8 n).toNat = strAt8 (IntKind.wrap .u8 n) := by
  have h := wrap_u8_in n
  have key : (List.range 256).all (fun k => strAt lenTab k == strAt8 (Int.ofNat k)) = true := by kernel_rfl
  obtain ⟨k, hk, hlt⟩ := nat_of (b := 256) h
  rw [hk]
  exact eq_of_beq (List.all_eq_true.1 key k (by simpa using hlt))
theorem S_lz : SummT Try.prog 40 (sgU fun a => .leaf (.int .i64 (lzV a))) := sgU.summ (evFn_summ (facts G0_ok) 2 40) (fun a sv h => by
  refine (e_len32 a).trans (Eq.trans ?_ h)
  unfold T_len32 lzV tabV
  simp only [strAt8_eq, wrap_u8_in, and_self, decide_true]
  cases decide (65536 ≤ a) <;> cases decide (256 ≤ a.fdiv 65536) <;> cases decide (256 ≤ a) <;> rfl)
def Gtop (cr : Int → Int) (ck : I2 Int) (hs : I3 Bool) (lz : Int → Int) (oa : I2 Int) (on oe : Int → Int) : FuncId → Option (List SV → GT SV)
  | 33 => some (sgI fun n => .when (decide (0 ≤ n ∧ n ≤ 32)) (.leaf (.int .u32 (cr n))))
  | 26 => some (sgP fun a n => .leaf (.int .i64 (ck a n)))
  | 18 => some (sgPU fun a n x => .leaf (.bool (hs a n x)))
  | 40 => some (sgU fun a => .leaf (.int .i64 (lz a)))
  | 19 => some (sgUI fun a n => .leaf (.tup [px (oa a n) (on n), .int .i64 (oe n)]))
  | _ => none
theorem Gtop_ok : ∀ g s, Gtop careV chkP hasP lzV ofA ofN ofE g = some s → SummT Try.prog g s := fun g s h => by
  unfold Gtop at h
  split at h
  · cases h; exact S_care
  · cases h; exact S_check
  · cases h; exact S_has
  · cases h; exact S_lz
  · cases h; exact S_of
  · cases h
noncomputable def T_within (cr : Int → Int) (ck : I2 Int) (hs : I3 Bool) (lz : Int → Int) (oa : I2 Int) (on oe : Int → Int) (a n b m : Int) : GT SV := GT.br (ck a n == (0 : Int)) (GT.br (decide (m ≤ n)) (GT.leaf (SV.bool (hs b m a))) (GT.leaf (SV.bool false)))
    (GT.leaf (SV.bool false))
theorem e_within (cr : Int → Int) (ck : I2 Int) (hs : I3 Bool) (lz : Int → Int) (oa : I2 Int) (on oe : Int → Int) (a n b m : Int) : ev (Gtop cr ck hs lz oa on oe) 1 17 [px a n, px b m] = (T_within cr ck hs lz oa on oe a n b m).opt := by kernel_rfl
noncomputable def T_common (cr : Int → Int) (ck : I2 Int) (hs : I3 Bool) (lz : Int → Int) (oa : I2 Int) (on oe : Int → Int) (a n b m : Int) : GT SV := GT.br (ck a n != (0 : Int))
    (GT.leaf
      (SV.tup [SV.agg [SV.int IntKind.u32 (0 : Int), SV.int IntKind.i64 (0 : Int)], SV.int IntKind.i64 (ck a n)]))
    (GT.br (ck b m != (0 : Int))
      (GT.leaf
        (SV.tup [SV.agg [SV.int IntKind.u32 (0 : Int), SV.int IntKind.i64 (0 : Int)], SV.int IntKind.i64 (ck b m)]))
      (GT.leaf
        (SV.tup
          [SV.agg
              [SV.int IntKind.u32 (oa a (imin (imin n m) (lz (bits BinOp.xor IntKind.u32 a b)))),
                SV.int IntKind.i64 (on (imin (imin n m) (lz (bits BinOp.xor IntKind.u32 a b))))],
            SV.int IntKind.i64 (oe (imin (imin n m) (lz (bits BinOp.xor IntKind.u32 a b))))])))
theorem e_common (cr : Int → Int) (ck : I2 Int) (hs : I3 Bool) (lz : Int → Int) (oa : I2 Int) (on oe : Int → Int) (a n b m : Int) : ev (Gtop cr ck hs lz oa on oe) 1 29 [px a n, px b m] = (T_common cr ck hs lz oa on oe a n b m).opt := by kernel_rfl
end Go.Sx.Mk


/- Layer 2, by value: the reference's functions on prefixes. -/
namespace Go.Sx.Mk
open Go.Proofs Go.RowKit
noncomputable def T_bit (a i : Int) : GT SV := GT.br (decide (IntKind.u64.wrap (IntKind.i64.wrap ((31 : Int) - i)) < (0 : Int))) GT.stop
    (GT.leaf
      (SV.int IntKind.i64
        ((IntKind.i64.wrap
              (a.fdiv ((2 : Int) ^ min (IntKind.u64.wrap (IntKind.i64.wrap ((31 : Int) - i))).toNat (32 : Nat)))).tmod
          (2 : Int))))
theorem e_bit (a i : Int) : ev G0 1 34 [.int .u32 a, .int .i64 i] = (T_bit a i).opt := by kernel_rfl
noncomputable def T_one (i : Int) : GT SV := GT.br (decide (IntKind.u64.wrap (IntKind.i64.wrap ((31 : Int) - i)) < (0 : Int))) GT.stop
    (GT.leaf
      (SV.int IntKind.u32
        (IntKind.u32.wrap
          ((1 : Int) * (2 : Int) ^ min (IntKind.u64.wrap (IntKind.i64.wrap ((31 : Int) - i))).toNat (32 : Nat)))))
theorem e_one (i : Int) : ev G0 1 38 [.int .i64 i] = (T_one i).opt := by kernel_rfl
def bitV (a i : Int) : Int := (IntKind.wrap .i64 (a.fdiv (2 ^ min (IntKind.wrap .u64 (IntKind.wrap .i64 (31 - i))).toNat 32))).tmod 2
def oneV (i : Int) : Int := IntKind.wrap .u32 (1 * 2 ^ min (IntKind.wrap .u64 (IntKind.wrap .i64 (31 - i))).toNat 32)
theorem wrap_u64_pos (n : Int) : ¬ (IntKind.wrap .u64 n < 0) := by
  simp [IntKind.wrap, IntKind.signed, IntKind.bits]
  omega
theorem S_bit : SummT Try.prog 34 (sgUI fun a i => .leaf (.int .i64 (bitV a i))) := sgUI.summ (evFn_summ (facts G0_ok) 1 34) (fun a i sv h => by
  refine (e_bit a i).trans (Eq.trans ?_ h)
  unfold T_bit bitV
  rw [decide_eq_false (wrap_u64_pos _)]; rfl)
theorem S_one : SummT Try.prog 38 (sgI fun i => .leaf (.int .u32 (oneV i))) := sgI.summ (evFn_summ (facts G0_ok) 1 38) (fun i sv h => by
  refine (e_one i).trans (Eq.trans ?_ h)
  unfold T_one oneV
  rw [decide_eq_false (wrap_u64_pos _)]; rfl)
def Gbit (bt : I2 Int) (on : Int → Int) : FuncId → Option (List SV → GT SV)
  | 34 => some (sgUI fun a i => .leaf (.int .i64 (bt a i)))
  | 38 => some (sgI fun i => .leaf (.int .u32 (on i)))
  | _ => none
theorem Gbit_ok : ∀ g s, Gbit bitV oneV g = some s → SummT Try.prog g s := fun g s h => by
  unfold Gbit at h
  split at h
  · cases h; exact S_bit
  · cases h; exact S_one
  · cases h
noncomputable def bodyrc : Code := bodyOf 15 [0,1,0,1,1]
def liverc : List (Nat × Option (List CK)) := [(1, none), (3, none)]
def outrc : List (Nat × Option (List CK)) := [(2, none)]
def mkrc (a : Int) (n : Int) (i : Int) : St := ⟨sel 23 [1, 3] [.ptr 0 0, .int .i64 i], [.cells [.int .u32 a, .int .i64 n]]⟩
def finrc (s : SV) : St := ⟨sel 23 [2] [s], []⟩
structure Xrc where
  a : Int
  n : Int
  i : Int
def Xrc.st (x : Xrc) : St := mkrc x.a x.n x.i
def pickrc : List SV → List Blk → Option Xrc
  | [.ptr 0 0, .int .i64 i], [.cells [.int .u32 a, .int .i64 n]] => some ⟨a, n, i⟩
  | _, _ => none
theorem pickrc_ok : ∀ vals mem x, pickrc vals mem = some x → x.st = ⟨sel 23 [1, 3] vals, mem⟩ := by
  intro vals mem x h
  unfold pickrc at h
  split at h
  · cases h; rfl
  · cases h
theorem step_rc (bt : I2 Int) (on : Int → Int) (again : St → Option (E × St)) (a n i : Int) : step Try.prog (Gbit bt on) ents [] 1 bodyrc liverc outrc again (mkrc a n i) = sure (decide (i < (32 : Int)))
    (sure (bt a i == (1 : Int)) (some (E.ret, finrc (SV.int IntKind.i64 (21 : Int))))
      (again (mkrc a n (IntKind.i64.wrap (i + (1 : Int))))))
    (some (E.brk (0 : Nat), finrc SV.poison)) := by kernel_rfl
noncomputable def bodyro : Code := bodyOf 20 [0,1,0,1,1,1]
def livero : List (Nat × Option (List CK)) := [(0, none), (1, none), (4, none), (6, none), (7, none)]
def outro : List (Nat × Option (List CK)) := [(4, none), (6, none)]
def mkro (a : Int) (n : Int) (z0 : Int) (z1 : Int) (pa : Int) (pn : Int) (i : Int) : St := ⟨sel 33 [0, 1, 4, 6, 7] [.int .u32 a, .int .i64 n, .ptr 0 0, .ptr 1 0, .int .i64 i], [.cells [.int .u32 z0, .int .i64 z1], .cells [.int .u32 pa, .int .i64 pn]]⟩
def finro (z0 : Int) (z1 : Int) (pa : Int) (pn : Int) : St := ⟨sel 33 [4, 6] [.ptr 0 0, .ptr 1 0], [.cells [.int .u32 z0, .int .i64 z1], .cells [.int .u32 pa, .int .i64 pn]]⟩
structure Xro where
  a : Int
  n : Int
  z0 : Int
  z1 : Int
  pa : Int
  pn : Int
  i : Int
def Xro.st (x : Xro) : St := mkro x.a x.n x.z0 x.z1 x.pa x.pn x.i
def pickro : List SV → List Blk → Option Xro
  | [.int .u32 a, .int .i64 n, .ptr 0 0, .ptr 1 0, .int .i64 i], [.cells [.int .u32 z0, .int .i64 z1], .cells [.int .u32 pa, .int .i64 pn]] => some ⟨a, n, z0, z1, pa, pn, i⟩
  | _, _ => none
theorem pickro_ok : ∀ vals mem x, pickro vals mem = some x → x.st = ⟨sel 33 [0, 1, 4, 6, 7] vals, mem⟩ := by
  intro vals mem x h
  unfold pickro at h
  split at h
  · cases h; rfl
  · cases h
theorem step_ro (bt : I2 Int) (on : Int → Int) (again : St → Option (E × St)) (a n z0 z1 pa pn i : Int) : step Try.prog (Gbit bt on) ents [] 1 bodyro livero outro again (mkro a n z0 z1 pa pn i) = sure (decide (i < n))
    (sure (bt a i == (1 : Int))
      (again (mkro a n z0 z1 (IntKind.u32.wrap (pa + on i)) pn (IntKind.i64.wrap (i + (1 : Int)))))
      (again (mkro a n z0 z1 pa pn (IntKind.i64.wrap (i + (1 : Int))))))
    (some (E.brk (0 : Nat), finro z0 z1 pa pn)) := by kernel_rfl
noncomputable def bodyrr : Code := bodyOf 22 [0,1,0,1,1,1,1]
def liverr : List (Nat × Option (List CK)) := [(2, none), (5, none), (6, none)]
def outrr : List (Nat × Option (List CK)) := [(2, none), (5, none)]
def mkrr (z0 : Int) (z1 : Int) (lo : Int) (hi : Int) (i : Int) : St := ⟨sel 31 [2, 5, 6] [.ptr 0 0, .ptr 1 0, .int .i64 i], [.cells [.int .u32 z0, .int .u32 z1], .cells [.int .u32 lo, .int .u32 hi]]⟩
def finrr (z0 : Int) (z1 : Int) (lo : Int) (hi : Int) : St := ⟨sel 31 [2, 5] [.ptr 0 0, .ptr 1 0], [.cells [.int .u32 z0, .int .u32 z1], .cells [.int .u32 lo, .int .u32 hi]]⟩
structure Xrr where
  z0 : Int
  z1 : Int
  lo : Int
  hi : Int
  i : Int
def Xrr.st (x : Xrr) : St := mkrr x.z0 x.z1 x.lo x.hi x.i
def pickrr : List SV → List Blk → Option Xrr
  | [.ptr 0 0, .ptr 1 0, .int .i64 i], [.cells [.int .u32 z0, .int .u32 z1], .cells [.int .u32 lo, .int .u32 hi]] => some ⟨z0, z1, lo, hi, i⟩
  | _, _ => none
theorem pickrr_ok : ∀ vals mem x, pickrr vals mem = some x → x.st = ⟨sel 31 [2, 5, 6] vals, mem⟩ := by
  intro vals mem x h
  unfold pickrr at h
  split at h
  · cases h; rfl
  · cases h
theorem step_rr (bt : I2 Int) (on : Int → Int) (again : St → Option (E × St)) (z0 z1 lo hi i : Int) : step Try.prog (Gbit bt on) ents [] 1 bodyrr liverr outrr again (mkrr z0 z1 lo hi i) = sure (decide (i < (32 : Int)))
    (again (mkrr z0 z1 lo (IntKind.u32.wrap (hi + on i)) (IntKind.i64.wrap (i + (1 : Int)))))
    (some (E.brk (0 : Nat), finrr z0 z1 lo hi)) := by kernel_rfl
noncomputable def bodyrh : Code := bodyOf 25 [0,1,0,1,1]
def liverh : List (Nat × Option (List CK)) := [(1, none), (2, none), (5, none)]
def outrh : List (Nat × Option (List CK)) := [(4, none)]
def mkrh (a : Int) (n : Int) (x : Int) (i : Int) : St := ⟨sel 23 [1, 2, 5] [.int .u32 x, .ptr 0 0, .int .i64 i], [.cells [.int .u32 a, .int .i64 n]]⟩
def finrh (s : SV) : St := ⟨sel 23 [4] [s], []⟩
structure Xrh where
  a : Int
  n : Int
  x : Int
  i : Int
def Xrh.st (x : Xrh) : St := mkrh x.a x.n x.x x.i
def pickrh : List SV → List Blk → Option Xrh
  | [.int .u32 x, .ptr 0 0, .int .i64 i], [.cells [.int .u32 a, .int .i64 n]] => some ⟨a, n, x, i⟩
  | _, _ => none
theorem pickrh_ok : ∀ vals mem x, pickrh vals mem = some x → x.st = ⟨sel 23 [1, 2, 5] vals, mem⟩ := by
  intro vals mem x h
  unfold pickrh at h
  split at h
  · cases h; rfl
  · cases h
theorem step_rh (bt : I2 Int) (on : Int → Int) (again : St → Option (E × St)) (a n x i : Int) : step Try.prog (Gbit bt on) ents [] 1 bodyrh liverh outrh again (mkrh a n x i) = sure (decide (i < n))
    (sure (bt a i != bt x i) (some (E.ret, finrh (SV.bool false)))
      (again (mkrh a n x (IntKind.i64.wrap (i + (1 : Int))))))
    (some (E.brk (0 : Nat), finrh SV.poison)) := by kernel_rfl
end Go.Sx.Mk


/- Layer 2, by value: the reference's functions on prefixes, what they answer. -/
namespace Go.Sx.Mk
open Go.Proofs Go.RowKit
def anyB (bt : I2 Int) (a : Int) : Nat → Bool
  | 0 => false
  | k + 1 => (bt a (32 - (k + 1 : Nat)) == 1) || anyB bt a k
theorem next_i {t : Int} {k : Nat} (h : -1000 ≤ t ∧ t ≤ 1000) (hk : k ≤ 1000) : IntKind.wrap .i64 (t - ((k + 1 : Nat) : Int) + 1) = t - (k : Int) := by rw [wrap_i64 (by omega) (by omega)]; omega
theorem run_rc (bt : I2 Int) (on : Int → Int) (a n : Int) : ∀ (k : Nat), k ≤ 32 →
    loopN (step Try.prog (Gbit bt on) ents [] 1 bodyrc liverc outrc) (k + 1) (mkrc a n (32 - (k : Nat))) = some (if anyB bt a k then (.ret, finrc (.int .i64 21)) else (.brk 0, finrc .poison))
  | 0, _ => by
    show step _ _ _ _ _ _ _ _ _ _ = _
    rw [step_rc]
    simp [anyB, sure]
  | k + 1, hk => by
    show step _ _ _ _ _ _ _ _ (loopN _ (k + 1)) _ = _
    rw [step_rc, next_i (by omega) (by omega), run_rc bt on a n k (by omega)]
    have hl : decide (32 - ((k + 1 : Nat) : Int) < 32) = true := decide_eq_true (by omega)
    rw [hl]
    simp only [anyB]
    rcases Bool.eq_false_or_eq_true (bt a (32 - ((k + 1 : Nat) : Int)) == 1) with hb | hb
    · simp only [hb, sure, Bool.true_or, if_true]
    · simp only [hb, sure, Bool.false_or]
def okN (n : Int) : Bool := decide (0 ≤ n ∧ n ≤ 32)
theorem okN_k {n : Int} (h : okN n = true) : ∃ k : Nat, n = (k : Int) ∧ k ≤ 32 := by
  have := of_decide_eq_true h
  obtain ⟨k, rfl, hk⟩ := nat_of (n := n) (b := 33) (by omega)
  exact ⟨k, rfl, by omega⟩
def anyV (a n : Int) : Bool := anyB bitV a (32 - n).toNat
theorem looprc : LoopOK Try.prog bodyrc (fun st => (sumT 23 [1, 3] pickrc (fun x => .when (x.i == x.n && okN x.n) (.br (anyV x.a x.n) (.leaf (.ret, finrc (.int .i64 21))) (.leaf (.brk 0, finrc .poison)))) st).opt) := by
  refine loop_two (imp := []) (facts Gbit_ok) 0 1 bodyrc (lpOK_none _) liverc outrc 23 [1, 3] pickrc Xrc.st (fun x => x.i == x.n && okN x.n) (fun x => anyV x.a x.n) _ _ pickrc_ok ?_
  intro x h1 _
  rw [Bool.and_eq_true] at h1
  obtain ⟨k, hk, hk2⟩ := okN_k h1.2
  have h5 := run_rc bitV oneV x.a x.n (32 - k) (by omega)
  refine ⟨32 - k + 1, ?_⟩
  unfold Xrc.st anyV
  rw [eq_of_beq h1.1]
  have e1 : (32 : Int) - ((32 - k : Nat) : Int) = x.n := by omega
  have e2 : (32 - x.n).toNat = 32 - k := by omega
  rw [e1] at h5
  rw [e2]
  exact h5
def annrc (av : I2 Bool) : Ann := ⟨liverc, 0, some (sumT 23 [1, 3] pickrc (fun x => .when (x.i == x.n && okN x.n) (.br (av x.a x.n) (.leaf (.ret, finrc (.int .i64 21))) (.leaf (.brk 0, finrc .poison)))))⟩
noncomputable def T_rchk (bt : I2 Int) (on : Int → Int) (av : I2 Bool) (a n : Int) : GT SV := GT.br (decide (n < (0 : Int))) (GT.leaf (SV.int IntKind.i64 (20 : Int)))
    (GT.br (decide ((32 : Int) < n)) (GT.leaf (SV.int IntKind.i64 (20 : Int)))
      (GT.br (n == n && decide ((0 : Int) ≤ n ∧ n ≤ (32 : Int)))
        (GT.br (av a n) (GT.leaf (SV.int IntKind.i64 (21 : Int))) (GT.leaf (SV.int IntKind.i64 (0 : Int)))) GT.stop))
theorem e_rchk (bt : I2 Int) (on : Int → Int) (av : I2 Bool) (a n : Int) : evFn Try.prog (Gbit bt on) ents [] (lpL [(15, [0, 1, 0, 1, 1], annrc av)]) 1 15 [px a n] = (T_rchk bt on av a n).opt := by kernel_rfl
def sumB (bt : I2 Int) (on : Int → Int) (a n : Int) : Nat → Int → Int
  | 0, p => p
  | k + 1, p => sumB bt on a n k (sure (bt a (n - (k + 1 : Nat)) == 1) (IntKind.wrap .u32 (p + on (n - (k + 1 : Nat)))) p)
theorem run_ro (bt : I2 Int) (on : Int → Int) (a n z0 z1 pn : Int) (hn : 0 ≤ n ∧ n ≤ 32) : ∀ (k : Nat) (pa : Int), k ≤ 32 →
    loopN (step Try.prog (Gbit bt on) ents [] 1 bodyro livero outro) (k + 1) (mkro a n z0 z1 pa pn (n - (k : Nat))) = some (.brk 0, finro z0 z1 (sumB bt on a n k pa) pn)
  | 0, pa, _ => by
    show step _ _ _ _ _ _ _ _ _ _ = _
    rw [step_ro]
    simp [sumB, sure]
  | k + 1, pa, hk => by
    show step _ _ _ _ _ _ _ _ (loopN _ (k + 1)) _ = _
    rw [step_ro, next_i (by omega) (by omega)]
    have hl : decide (n - ((k + 1 : Nat) : Int) < n) = true := decide_eq_true (by omega)
    have ih := fun pa => run_ro bt on a n z0 z1 pn hn k pa (by omega)
    rw [hl]
    simp only [sure, sumB]
    cases (bt a (n - ((k + 1 : Nat) : Int)) == 1) <;> exact ih _
def sumV (a n p : Int) : Int := sumB bitV oneV a n n.toNat p
theorem loopro : LoopOK Try.prog bodyro (fun st => (sumT 33 [0, 1, 4, 6, 7] pickro (fun x => .when (x.i == 0 && okN x.n) (.leaf (.brk 0, finro x.z0 x.z1 (sumV x.a x.n x.pa) x.pn))) st).opt) := by
  refine loop_one (imp := []) (facts Gbit_ok) 0 1 bodyro (lpOK_none _) livero outro 33 [0, 1, 4, 6, 7] pickro Xro.st (fun x => x.i == 0 && okN x.n) _ pickro_ok ?_
  intro x h1 _
  rw [Bool.and_eq_true] at h1
  obtain ⟨k, hk, hk2⟩ := okN_k h1.2
  have h5 := run_ro bitV oneV x.a x.n x.z0 x.z1 x.pn (by omega) k x.pa (by omega)
  refine ⟨k + 1, ?_⟩
  unfold Xro.st sumV
  rw [eq_of_beq h1.1]
  have e1 : x.n - (k : Int) = 0 := by omega
  have e2 : x.n.toNat = k := by omega
  rw [e1] at h5
  rw [e2]
  exact h5
def annro (sv : I3 Int) : Ann := ⟨livero, 0, some (sumT 33 [0, 1, 4, 6, 7] pickro (fun x => .when (x.i == 0 && okN x.n) (.leaf (.brk 0, finro x.z0 x.z1 (sv x.a x.n x.pa) x.pn))))⟩
noncomputable def T_rof (bt : I2 Int) (on : Int → Int) (sv : I3 Int) (a n : Int) : GT SV := GT.br (decide (n < (0 : Int)))
    (GT.leaf
      (SV.tup [SV.agg [SV.int IntKind.u32 (0 : Int), SV.int IntKind.i64 (0 : Int)], SV.int IntKind.i64 (20 : Int)]))
    (GT.br (decide ((32 : Int) < n))
      (GT.leaf
        (SV.tup [SV.agg [SV.int IntKind.u32 (0 : Int), SV.int IntKind.i64 (0 : Int)], SV.int IntKind.i64 (20 : Int)]))
      (GT.br ((0 : Int) == (0 : Int) && decide ((0 : Int) ≤ n ∧ n ≤ (32 : Int)))
        (GT.leaf
          (SV.tup [SV.agg [SV.int IntKind.u32 (sv a n (0 : Int)), SV.int IntKind.i64 n], SV.int IntKind.i64 (0 : Int)]))
        GT.stop))
theorem e_rof (bt : I2 Int) (on : Int → Int) (sv : I3 Int) (a n : Int) : evFn Try.prog (Gbit bt on) ents [] (lpL [(20, [0, 1, 0, 1, 1, 1], annro sv)]) 1 20 [.int .u32 a, .int .i64 n] = (T_rof bt on sv a n).opt := by kernel_rfl
def onesB (on : Int → Int) : Nat → Int → Int
  | 0, h => h
  | k + 1, h => onesB on k (IntKind.wrap .u32 (h + on (32 - (k + 1 : Nat))))
theorem run_rr (bt : I2 Int) (on : Int → Int) (z0 z1 lo : Int) : ∀ (k : Nat) (hi : Int), k ≤ 32 →
    loopN (step Try.prog (Gbit bt on) ents [] 1 bodyrr liverr outrr) (k + 1) (mkrr z0 z1 lo hi (32 - (k : Nat))) = some (.brk 0, finrr z0 z1 lo (onesB on k hi))
  | 0, hi, _ => by
    show step _ _ _ _ _ _ _ _ _ _ = _
    rw [step_rr]
    simp [onesB, sure]
  | k + 1, hi, hk => by
    show step _ _ _ _ _ _ _ _ (loopN _ (k + 1)) _ = _
    rw [step_rr, next_i (by omega) (by omega)]
    have hl : decide (32 - ((k + 1 : Nat) : Int) < 32) = true := decide_eq_true (by omega)
    rw [hl]
    exact run_rr bt on z0 z1 lo k _ (by omega)
def onesV (n hi : Int) : Int := onesB oneV (32 - n).toNat hi
theorem looprr_r : LoopOK Try.prog bodyrr (fun st => (sumT 31 [2, 5, 6] pickrr (fun x => .when (okN x.i) (.leaf (.brk 0, finrr x.z0 x.z1 x.lo (onesV x.i x.hi)))) st).opt) := by
  refine loop_one (imp := []) (facts Gbit_ok) 0 1 bodyrr (lpOK_none _) liverr outrr 31 [2, 5, 6] pickrr Xrr.st (fun x => okN x.i) _ pickrr_ok ?_
  intro x h1 _
  obtain ⟨k, hk, hk2⟩ := okN_k h1
  have h5 := run_rr bitV oneV x.z0 x.z1 x.lo (32 - k) x.hi (by omega)
  refine ⟨32 - k + 1, ?_⟩
  unfold Xrr.st onesV
  have e1 : (32 : Int) - ((32 - k : Nat) : Int) = x.i := by omega
  have e2 : (32 - x.i).toNat = 32 - k := by omega
  rw [e1] at h5
  rw [e2]
  exact h5
def annrr (ov : I2 Int) : Ann := ⟨liverr, 0, some (sumT 31 [2, 5, 6] pickrr (fun x => .when (okN x.i) (.leaf (.brk 0, finrr x.z0 x.z1 x.lo (ov x.i x.hi)))))⟩
theorem Gx : True := trivial
def likeB (bt : I2 Int) (a x n : Int) : Nat → Bool
  | 0 => true
  | k + 1 => !(bt a (n - (k + 1 : Nat)) != bt x (n - (k + 1 : Nat))) && likeB bt a x n k
theorem run_rh (bt : I2 Int) (on : Int → Int) (a n x : Int) (hn : 0 ≤ n ∧ n ≤ 32) : ∀ (k : Nat), k ≤ 32 →
    loopN (step Try.prog (Gbit bt on) ents [] 1 bodyrh liverh outrh) (k + 1) (mkrh a n x (n - (k : Nat))) = some (if likeB bt a x n k then (.brk 0, finrh .poison) else (.ret, finrh (.bool false)))
  | 0, _ => by
    show step _ _ _ _ _ _ _ _ _ _ = _
    rw [step_rh]
    simp [likeB, sure]
  | k + 1, hk => by
    show step _ _ _ _ _ _ _ _ (loopN _ (k + 1)) _ = _
    rw [step_rh, next_i (by omega) (by omega), run_rh bt on a n x hn k (by omega)]
    have hl : decide (n - ((k + 1 : Nat) : Int) < n) = true := decide_eq_true (by omega)
    rw [hl]
    simp only [likeB]
    rcases Bool.eq_false_or_eq_true (bt a (n - ((k + 1 : Nat) : Int)) != bt x (n - ((k + 1 : Nat) : Int))) with hb | hb
    · simp only [hb, sure, Bool.not_true, Bool.false_and, if_neg, Bool.false_eq_true, not_false_eq_true]
    · simp only [hb, sure, Bool.not_false, Bool.true_and]
def likeV (a x n : Int) : Bool := likeB bitV a x n n.toNat
theorem looprh_r : LoopOK Try.prog bodyrh (fun st => (sumT 23 [1, 2, 5] pickrh (fun x => .when (x.i == 0 && okN x.n) (.br (likeV x.a x.x x.n) (.leaf (.brk 0, finrh .poison)) (.leaf (.ret, finrh (.bool false))))) st).opt) := by
  refine loop_two (imp := []) (facts Gbit_ok) 0 1 bodyrh (lpOK_none _) liverh outrh 23 [1, 2, 5] pickrh Xrh.st (fun x => x.i == 0 && okN x.n) (fun x => likeV x.a x.x x.n) _ _ pickrh_ok ?_
  intro x h1 _
  rw [Bool.and_eq_true] at h1
  obtain ⟨k, hk, hk2⟩ := okN_k h1.2
  have h5 := run_rh bitV oneV x.a x.n x.x (by omega) k (by omega)
  refine ⟨k + 1, ?_⟩
  unfold Xrh.st likeV
  rw [eq_of_beq h1.1]
  have e1 : x.n - (k : Int) = 0 := by omega
  have e2 : x.n.toNat = k := by omega
  rw [e1] at h5
  rw [e2]
  exact h5
def annrh (lv : I3 Bool) : Ann := ⟨liverh, 0, some (sumT 23 [1, 2, 5] pickrh (fun x => .when (x.i == 0 && okN x.n) (.br (lv x.a x.x x.n) (.leaf (.brk 0, finrh .poison)) (.leaf (.ret, finrh (.bool false))))))⟩
theorem at_one {f0 : Nat} {p0 : List Nat} {ann : Ann} (h : LpAt f0 p0 ann) : ∀ x ∈ [(f0, p0, ann)], LpAt x.1 x.2.1 x.2.2 := by
  intro x hx
  rw [List.mem_singleton] at hx
  subst hx
  exact h
def chkR (a n : Int) : Int := sure (badN n) 20 (sure (anyV a n) 21 0)
theorem S_rchk : SummT Try.prog 15 (sgP fun a n => .leaf (.int .i64 (chkR a n))) := sgP.summ (evFn_summ (factsL Gbit_ok [(15, [0, 1, 0, 1, 1], annrc anyV)] (at_one (fun s h => by cases h; exact looprc))) 1 15) (fun a n sv h => by
  refine (e_rchk bitV oneV anyV a n).trans (Eq.trans ?_ h)
  unfold T_rchk chkR badN
  by_cases h1 : n < 0
  · rw [decide_eq_true h1]; rfl
  · by_cases h2 : 32 < n
    · rw [decide_eq_false h1, decide_eq_true h2]; rfl
    · have hok : decide (0 ≤ n ∧ n ≤ 32) = true := decide_eq_true (by omega)
      rw [decide_eq_false h1, decide_eq_false h2, hok, BEq.rfl]
      cases anyV a n <;> rfl)
theorem chkR_ok {a n : Int} (h : chkR a n = 0) : okN n = true := by
  unfold chkR at h
  cases hb : badN n with
  | true => rw [hb] at h; cases h
  | false => exact decide_eq_true (badN_no hb)
def rofA (a n : Int) : Int := sure (badN n) 0 (sumV a n 0)
theorem S_rof : SummT Try.prog 20 (sgUI fun a n => .leaf (.tup [px (rofA a n) (ofN n), .int .i64 (ofE n)])) := sgUI.summ (evFn_summ (factsL Gbit_ok [(20, [0, 1, 0, 1, 1, 1], annro sumV)] (at_one (fun s h => by cases h; exact loopro))) 1 20) (fun a n sv h => by
  refine (e_rof bitV oneV sumV a n).trans (Eq.trans ?_ h)
  unfold T_rof rofA ofN ofE badN
  by_cases h1 : n < 0
  · rw [decide_eq_true h1]; rfl
  · by_cases h2 : 32 < n
    · rw [decide_eq_false h1, decide_eq_true h2]; rfl
    · have hok : decide (0 ≤ n ∧ n ≤ 32) = true := decide_eq_true (by omega)
      rw [decide_eq_false h1, decide_eq_false h2, hok]; rfl)
def Gr (bt : I2 Int) (on : Int → Int) (ck : I2 Int) : FuncId → Option (List SV → GT SV)
  | 34 => some (sgUI fun a i => .leaf (.int .i64 (bt a i)))
  | 38 => some (sgI fun i => .leaf (.int .u32 (on i)))
  | 15 => some (sgP fun a n => .leaf (.int .i64 (ck a n)))
  | _ => none
theorem Gr_ok : ∀ g s, Gr bitV oneV chkR g = some s → SummT Try.prog g s := fun g s h => by
  unfold Gr at h
  split at h
  · cases h; exact S_bit
  · cases h; exact S_one
  · cases h; exact S_rchk
  · cases h
noncomputable def T_rrun (bt : I2 Int) (on : Int → Int) (ck : I2 Int) (ov : I2 Int) (a n : Int) : GT SV := GT.br (ck a n != (0 : Int))
    (GT.leaf
      (SV.tup [SV.agg [SV.int IntKind.u32 (0 : Int), SV.int IntKind.u32 (0 : Int)], SV.int IntKind.i64 (ck a n)]))
    (GT.br (decide ((0 : Int) ≤ n ∧ n ≤ (32 : Int)))
      (GT.leaf (SV.tup [SV.agg [SV.int IntKind.u32 a, SV.int IntKind.u32 (ov n a)], SV.int IntKind.i64 (0 : Int)]))
      GT.stop)
theorem e_rrun (bt : I2 Int) (on : Int → Int) (ck : I2 Int) (ov : I2 Int) (a n : Int) : evFn Try.prog (Gr bt on ck) ents [] (lpL [(22, [0, 1, 0, 1, 1, 1, 1], annrr ov)]) 1 22 [px a n] = (T_rrun bt on ck ov a n).opt := by kernel_rfl
noncomputable def T_rhas (bt : I2 Int) (on : Int → Int) (ck : I2 Int) (lv : I3 Bool) (a n x : Int) : GT SV := GT.br (ck a n != (0 : Int)) (GT.leaf (SV.bool false))
    (GT.br ((0 : Int) == (0 : Int) && decide ((0 : Int) ≤ n ∧ n ≤ (32 : Int)))
      (GT.br (lv a x n) (GT.leaf (SV.bool true)) (GT.leaf (SV.bool false))) GT.stop)
theorem e_rhas (bt : I2 Int) (on : Int → Int) (ck : I2 Int) (lv : I3 Bool) (a n x : Int) : evFn Try.prog (Gr bt on ck) ents [] (lpL [(25, [0, 1, 0, 1, 1], annrh lv)]) 1 25 [px a n, .int .u32 x] = (T_rhas bt on ck lv a n x).opt := by kernel_rfl
noncomputable def T_rhalves (bt : I2 Int) (on : Int → Int) (ck : I2 Int) (a n : Int) : GT SV := GT.br (ck a n != (0 : Int))
    (GT.leaf
      (SV.tup
        [SV.agg [SV.int IntKind.u32 (0 : Int), SV.int IntKind.i64 (0 : Int)],
          SV.agg [SV.int IntKind.u32 (0 : Int), SV.int IntKind.i64 (0 : Int)], SV.int IntKind.i64 (ck a n)]))
    (GT.br (n == (32 : Int))
      (GT.leaf
        (SV.tup
          [SV.agg [SV.int IntKind.u32 (0 : Int), SV.int IntKind.i64 (0 : Int)],
            SV.agg [SV.int IntKind.u32 (0 : Int), SV.int IntKind.i64 (0 : Int)], SV.int IntKind.i64 (22 : Int)]))
      (GT.leaf
        (SV.tup
          [SV.agg [SV.int IntKind.u32 a, SV.int IntKind.i64 (IntKind.i64.wrap (n + (1 : Int)))],
            SV.agg
              [SV.int IntKind.u32 (IntKind.u32.wrap (a + on n)), SV.int IntKind.i64 (IntKind.i64.wrap (n + (1 : Int)))],
            SV.int IntKind.i64 (0 : Int)])))
theorem e_rhalves (bt : I2 Int) (on : Int → Int) (ck : I2 Int) (a n : Int) : ev (Gr bt on ck) 1 24 [px a n] = (T_rhalves bt on ck a n).opt := by kernel_rfl
noncomputable def T_rcmp (bt : I2 Int) (on : Int → Int) (ck : I2 Int) (a n b m : Int) : GT SV := GT.br (decide (a < b)) (GT.leaf (SV.int IntKind.i64 (-1 : Int)))
    (GT.br (a == b)
      (GT.br (decide (n < m)) (GT.leaf (SV.int IntKind.i64 (-1 : Int)))
        (GT.br (a == b && (n == m && true)) (GT.leaf (SV.int IntKind.i64 (0 : Int)))
          (GT.leaf (SV.int IntKind.i64 (1 : Int)))))
      (GT.br (a == b && (n == m && true)) (GT.leaf (SV.int IntKind.i64 (0 : Int)))
        (GT.leaf (SV.int IntKind.i64 (1 : Int)))))
theorem e_rcmp (bt : I2 Int) (on : Int → Int) (ck : I2 Int) (a n b m : Int) : ev (Gr bt on ck) 1 32 [px a n, px b m] = (T_rcmp bt on ck a n b m).opt := by kernel_rfl
def rrunHi (a n : Int) : Int := sure (chkR a n != 0) 0 (onesV n a)
def rrunLo (a n : Int) : Int := sure (chkR a n != 0) 0 a
theorem Gr_loop {f0 : Nat} {p0 : List Nat} {ann : Ann} (h : LpAt f0 p0 ann) : Facts Try.prog (Gr bitV oneV chkR) ents (lpL [(f0, p0, ann)]) := factsL Gr_ok _ (at_one h)
theorem S_rrun : SummT Try.prog 22 (sgP fun a n => .leaf (.tup [.agg [.int .u32 (rrunLo a n), .int .u32 (rrunHi a n)], .int .i64 (chkR a n)])) := sgP.summ (evFn_summ (Gr_loop (ann := annrr onesV) (fun s h => by cases h; exact looprr_r)) 1 22) (fun a n sv h => by
  refine (e_rrun bitV oneV chkR onesV a n).trans (Eq.trans ?_ h)
  unfold T_rrun rrunLo rrunHi
  cases hc : (chkR a n != 0) with
  | true => rfl
  | false =>
    have h0 := ne_of hc rfl
    rw [decide_eq_true (of_decide_eq_true (chkR_ok h0)), h0]; rfl)
def hasR (a n x : Int) : Bool := sure (chkR a n != 0) false (likeV a x n)
theorem S_rhas : SummT Try.prog 25 (sgPU fun a n x => .leaf (.bool (hasR a n x))) := sgPU.summ (evFn_summ (Gr_loop (ann := annrh likeV) (fun s h => by cases h; exact looprh_r)) 1 25) (fun a n x sv h => by
  refine (e_rhas bitV oneV chkR likeV a n x).trans (Eq.trans ?_ h)
  unfold T_rhas hasR
  cases hc : (chkR a n != 0) with
  | true => rfl
  | false =>
    have h0 := ne_of hc rfl
    have hk : decide (0 ≤ n ∧ n ≤ 32) = true := chkR_ok h0
    rw [hk]
    cases likeV a x n <;> rfl)
def rhhA (a n : Int) : Int := sure (chkR a n != 0) 0 (sure (n == 32) 0 (IntKind.wrap .u32 (a + oneV n)))
def rhlA (a n : Int) : Int := sure (chkR a n != 0) 0 (sure (n == 32) 0 a)
def rhN (a n : Int) : Int := sure (chkR a n != 0) 0 (sure (n == 32) 0 (IntKind.wrap .i64 (n + 1)))
def rhE (a n : Int) : Int := sure (chkR a n != 0) (chkR a n) (sure (n == 32) 22 0)
theorem S_rhalves : SummT Try.prog 24 (sgP fun a n => .leaf (.tup [px (rhlA a n) (rhN a n), px (rhhA a n) (rhN a n), .int .i64 (rhE a n)])) := sgP.summ (evFn_summ (facts Gr_ok) 1 24) (fun a n sv h => by
  refine (e_rhalves bitV oneV chkR a n).trans (Eq.trans ?_ h)
  unfold T_rhalves rhlA rhN rhhA rhE
  cases (chkR a n != 0) with
  | true => rfl
  | false => cases (n == 32) <;> rfl)
def rcmpV (a n b m : Int) : Int := sure (decide (a < b)) (-1) (sure (a == b) (sure (decide (n < m)) (-1) (sure (n == m) 0 1)) 1)
theorem S_rcmp : SummT Try.prog 32 (sgPP fun a n b m => .leaf (.int .i64 (rcmpV a n b m))) := sgPP.summ (evFn_summ (facts Gr_ok) 1 32) (fun a n b m sv h => by
  refine (e_rcmp bitV oneV chkR a n b m).trans (Eq.trans ?_ h)
  unfold T_rcmp rcmpV
  cases decide (a < b) <;> cases (a == b) <;> cases decide (n < m) <;> cases (n == m) <;> rfl)
end Go.Sx.Mk


/- Layer 2, by value: Within, Common; the laws PrefixChecks, PrefixPairs, PrefixNests. -/
namespace Go.Sx.Mk
open Go.Proofs Go.RowKit
def wiP (a n b m : Int) : Bool := chkP a n == 0 && (decide (m ≤ n) && hasP b m a)
theorem S_within : SummT Try.prog 17 (sgPP fun a n b m => .leaf (.bool (wiP a n b m))) := sgPP.summ (evFn_summ (facts Gtop_ok) 1 17) (fun a n b m sv h => by
  refine (e_within careV chkP hasP lzV ofA ofN ofE a n b m).trans (Eq.trans ?_ h)
  unfold T_within wiP
  cases (chkP a n == 0) <;> cases decide (m ≤ n) <;> rfl)
def cmN (a n b m : Int) : Int := imin (imin n m) (lzV (Go.bits .xor .u32 a b))
def cmA (a n b m : Int) : Int := sure (chkP a n != 0) 0 (sure (chkP b m != 0) 0 (ofA a (cmN a n b m)))
def cmL (a n b m : Int) : Int := sure (chkP a n != 0) 0 (sure (chkP b m != 0) 0 (ofN (cmN a n b m)))
def cmE (a n b m : Int) : Int := sure (chkP a n != 0) (chkP a n) (sure (chkP b m != 0) (chkP b m) (ofE (cmN a n b m)))
theorem S_common : SummT Try.prog 29 (sgPP fun a n b m => .leaf (.tup [px (cmA a n b m) (cmL a n b m), .int .i64 (cmE a n b m)])) := sgPP.summ (evFn_summ (facts Gtop_ok) 1 29) (fun a n b m sv h => by
  refine (e_common careV chkP hasP lzV ofA ofN ofE a n b m).trans (Eq.trans ?_ h)
  unfold T_common cmA cmL cmE cmN
  cases (chkP a n != 0) <;> cases (chkP b m != 0) <;> rfl)
def Grw (ck : I2 Int) (hs : I3 Bool) : FuncId → Option (List SV → GT SV)
  | 15 => some (sgP fun a n => .leaf (.int .i64 (ck a n)))
  | 25 => some (sgPU fun a n x => .leaf (.bool (hs a n x)))
  | _ => none
theorem Grw_ok : ∀ g s, Grw chkR hasR g = some s → SummT Try.prog g s := fun g s h => by
  unfold Grw at h
  split at h
  · cases h; exact S_rchk
  · cases h; exact S_rhas
  · cases h
noncomputable def T_rwithin (ck : I2 Int) (hs : I3 Bool) (a n b m : Int) : GT SV := GT.br (ck a n == (0 : Int))
    (GT.br (ck b m == (0 : Int)) (GT.br (decide (m ≤ n)) (GT.leaf (SV.bool (hs b m a))) (GT.leaf (SV.bool false)))
      (GT.leaf (SV.bool false)))
    (GT.leaf (SV.bool false))
theorem e_rwithin (ck : I2 Int) (hs : I3 Bool) (a n b m : Int) : ev (Grw ck hs) 1 31 [px a n, px b m] = (T_rwithin ck hs a n b m).opt := by kernel_rfl
def wiR (a n b m : Int) : Bool := chkR a n == 0 && (chkR b m == 0 && (decide (m ≤ n) && hasR b m a))
theorem S_rwithin : SummT Try.prog 31 (sgPP fun a n b m => .leaf (.bool (wiR a n b m))) := sgPP.summ (evFn_summ (facts Grw_ok) 1 31) (fun a n b m sv h => by
  refine (e_rwithin chkR hasR a n b m).trans (Eq.trans ?_ h)
  unfold T_rwithin wiR
  cases (chkR a n == 0) <;> cases (chkR b m == 0) <;> cases decide (m ≤ n) <;> rfl)
def Grc (ck : I2 Int) (oa : I2 Int) (on oe : Int → Int) (wi : I4 Bool) : FuncId → Option (List SV → GT SV)
  | 15 => some (sgP fun a n => .leaf (.int .i64 (ck a n)))
  | 20 => some (sgUI fun a n => .leaf (.tup [px (oa a n) (on n), .int .i64 (oe n)]))
  | 31 => some (sgPP fun a n b m => .leaf (.bool (wi a n b m)))
  | _ => none
theorem Grc_ok : ∀ g s, Grc chkR rofA ofN ofE wiR g = some s → SummT Try.prog g s := fun g s h => by
  unfold Grc at h
  split at h
  · cases h; exact S_rchk
  · cases h; exact S_rof
  · cases h; exact S_rwithin
  · cases h
noncomputable def bodyrm : Code := bodyOf 30 [0,1,0,1,1,1,1,1]
def liverm : List (Nat × Option (List CK)) := [(2, none), (3, none), (4, none), (8, none)]
def outrm : List (Nat × Option (List CK)) := [(4, none), (5, none)]
def mkrm (a : Int) (n : Int) (b : Int) (m : Int) (z0 : Int) (z1 : Int) (k : Int) : St := ⟨sel 44 [2, 3, 4, 8] [.ptr 0 0, .ptr 1 0, .ptr 2 0, .int .i64 k], [.cells [.int .u32 a, .int .i64 n], .cells [.int .u32 b, .int .i64 m], .cells [.int .u32 z0, .int .i64 z1]]⟩
def finrm (z0 : Int) (z1 : Int) (s : SV) : St := ⟨sel 44 [4, 5] [.ptr 0 0, s], [.cells [.int .u32 z0, .int .i64 z1]]⟩
structure Xrm where
  a : Int
  n : Int
  b : Int
  m : Int
  z0 : Int
  z1 : Int
  k : Int
def Xrm.st (x : Xrm) : St := mkrm x.a x.n x.b x.m x.z0 x.z1 x.k
def pickrm : List SV → List Blk → Option Xrm
  | [.ptr 0 0, .ptr 1 0, .ptr 2 0, .int .i64 k], [.cells [.int .u32 a, .int .i64 n], .cells [.int .u32 b, .int .i64 m], .cells [.int .u32 z0, .int .i64 z1]] => some ⟨a, n, b, m, z0, z1, k⟩
  | _, _ => none
theorem pickrm_ok : ∀ vals mem x, pickrm vals mem = some x → x.st = ⟨sel 44 [2, 3, 4, 8] vals, mem⟩ := by
  intro vals mem x h
  unfold pickrm at h
  split at h
  · cases h; rfl
  · cases h
theorem step_rm (ck : I2 Int) (oa : I2 Int) (on oe : Int → Int) (wi : I4 Bool) (again : St → Option (E × St)) (a n b m z0 z1 k : Int) : step Try.prog (Grc ck oa on oe wi) ents [] 1 bodyrm liverm outrm again (mkrm a n b m z0 z1 k) = sure (decide ((0 : Int) < k))
    (sure (wi a n (oa a k) (on k))
      (sure (wi b m (oa a k) (on k)) (some (E.ret, finrm (oa a k) (on k) (SV.int IntKind.i64 (0 : Int))))
        (again (mkrm a n b m z0 z1 (IntKind.i64.wrap (k - (1 : Int))))))
      (again (mkrm a n b m z0 z1 (IntKind.i64.wrap (k - (1 : Int))))))
    (some (E.brk (0 : Nat), finrm z0 z1 SV.poison)) := by kernel_rfl
def Gaw : FuncId → Option (List SV → GT SV)
  | 33 => some (sgI fun n => .when (decide (0 ≤ n ∧ n ≤ 32)) (.leaf (.int .u32 (careV n))))
  | 26 => some (sgP fun a n => .leaf (.int .i64 (chkP a n)))
  | 19 => some (sgUI fun a n => .leaf (.tup [px (ofA a n) (ofN n), .int .i64 (ofE n)]))
  | 18 => some (sgPU fun a n x => .leaf (.bool (hasP a n x)))
  | 17 => some (sgPP fun a n b m => .leaf (.bool (wiP a n b m)))
  | 23 => some (sgP fun a n => .leaf (.tup [px (hlA a n) (hlN a n), px (hhA a n) (hlN a n), .int .i64 (hE a n)]))
  | 16 => some (sgPP fun a n b m => .leaf (.int .i64 (cmpPV a n b m)))
  | _ => none
theorem Gaw_ok : ∀ g s, Gaw g = some s → SummT Try.prog g s := fun g s h => by
  unfold Gaw at h
  split at h
  · cases h; exact S_care
  · cases h; exact S_check
  · cases h; exact S_of
  · cases h; exact S_has
  · cases h; exact S_within
  · cases h; exact S_halves
  · cases h; exact S_cmp
  · cases h
theorem e_awake : ev Gaw 3 14 [] = some (.bool true) := by kernel_rfl
theorem S_awake : SummT Try.prog 14 (sg0 (.leaf (.bool true))) := sg0.summ (evFn_summ (facts Gaw_ok) 3 14) (fun sv h => e_awake.trans h)
def cmF (oa : I2 Int) (on : Int → Int) (wi : I4 Bool) (a n b m : Int) : Nat → Option Nat
  | 0 => none
  | k + 1 => match wi a n (oa a (k + 1 : Nat)) (on (k + 1 : Nat)) && wi b m (oa a (k + 1 : Nat)) (on (k + 1 : Nat)) with
    | true => some (k + 1)
    | false => cmF oa on wi a n b m k
def endrm (oa : I2 Int) (on : Int → Int) (a z0 z1 : Int) : Option Nat → E × St
  | some k => (.ret, finrm (oa a k) (on k) (.int .i64 0))
  | none => (.brk 0, finrm z0 z1 .poison)
theorem run_rm (ck : I2 Int) (oa : I2 Int) (on oe : Int → Int) (wi : I4 Bool) (a n b m z0 z1 : Int) : ∀ (k : Nat), k ≤ 32 →
    loopN (step Try.prog (Grc ck oa on oe wi) ents [] 1 bodyrm liverm outrm) (k + 1) (mkrm a n b m z0 z1 (k : Nat)) = some (endrm oa on a z0 z1 (cmF oa on wi a n b m k))
  | 0, _ => by
    show step _ _ _ _ _ _ _ _ _ _ = _
    rw [step_rm]
    simp [cmF, sure, endrm]
  | k + 1, hk => by
    show step _ _ _ _ _ _ _ _ (loopN _ (k + 1)) _ = _
    have hw : IntKind.wrap .i64 (((k + 1 : Nat) : Int) - 1) = (k : Int) := by rw [wrap_i64 (by omega) (by omega)]; omega
    rw [step_rm, hw, run_rm ck oa on oe wi a n b m z0 z1 k (by omega)]
    have hl : decide ((0 : Int) < ((k + 1 : Nat) : Int)) = true := decide_eq_true (by omega)
    simp only [cmF]
    rcases Bool.eq_false_or_eq_true (wi a n (oa a ((k + 1 : Nat) : Int)) (on ((k + 1 : Nat) : Int))) with h1 | h1
    · rcases Bool.eq_false_or_eq_true (wi b m (oa a ((k + 1 : Nat) : Int)) (on ((k + 1 : Nat) : Int))) with h2 | h2
      · simp only [hl, h1, h2, sure, Bool.and_self]; rfl
      · simp only [hl, h1, h2, sure, Bool.and_false]
    · simp only [hl, h1, sure, Bool.false_and]
def cmO (a n b m : Int) : Option Nat := cmF rofA ofN wiR a n b m 32
def cmS (a n b m : Int) : Bool := (cmO a n b m).isSome
def cmRA (a n b m : Int) : Int := rofA a ((cmO a n b m).getD 0)
def cmRN (a n b m : Int) : Int := ofN ((cmO a n b m).getD 0)
theorem looprm : LoopOK Try.prog bodyrm (fun st => (sumT 44 [2, 3, 4, 8] pickrm (fun x => .when (x.k == 32) (.br (cmS x.a x.n x.b x.m) (.leaf (.ret, finrm (cmRA x.a x.n x.b x.m) (cmRN x.a x.n x.b x.m) (.int .i64 0))) (.leaf (.brk 0, finrm x.z0 x.z1 .poison)))) st).opt) := by
  refine loop_two (imp := []) (facts Grc_ok) 0 1 bodyrm (lpOK_none _) liverm outrm 44 [2, 3, 4, 8] pickrm Xrm.st (fun x => x.k == 32) (fun x => cmS x.a x.n x.b x.m) _ _ pickrm_ok ?_
  intro x h1 _
  have h5 := run_rm chkR rofA ofN ofE wiR x.a x.n x.b x.m x.z0 x.z1 32 (by omega)
  refine ⟨33, ?_⟩
  unfold Xrm.st
  rw [eq_of_beq h1]
  refine h5.trans ?_
  unfold cmS cmRA cmRN cmO
  cases cmF rofA ofN wiR x.a x.n x.b x.m 32 <;> rfl
def annrm (cs : I4 Bool) (ca cn : I4 Int) : Ann := ⟨liverm, 0, some (sumT 44 [2, 3, 4, 8] pickrm (fun x => .when (x.k == 32) (.br (cs x.a x.n x.b x.m) (.leaf (.ret, finrm (ca x.a x.n x.b x.m) (cn x.a x.n x.b x.m) (.int .i64 0))) (.leaf (.brk 0, finrm x.z0 x.z1 .poison)))))⟩
noncomputable def T_rcm (ck : I2 Int) (oa : I2 Int) (on oe : Int → Int) (wi : I4 Bool) (cs : I4 Bool) (ca cn : I4 Int) (a n b m : Int) : GT SV := GT.br (ck a n != (0 : Int))
    (GT.leaf
      (SV.tup [SV.agg [SV.int IntKind.u32 (0 : Int), SV.int IntKind.i64 (0 : Int)], SV.int IntKind.i64 (ck a n)]))
    (GT.br (ck b m != (0 : Int))
      (GT.leaf
        (SV.tup [SV.agg [SV.int IntKind.u32 (0 : Int), SV.int IntKind.i64 (0 : Int)], SV.int IntKind.i64 (ck b m)]))
      (GT.br (cs a n b m)
        (GT.leaf
          (SV.tup
            [SV.agg [SV.int IntKind.u32 (ca a n b m), SV.int IntKind.i64 (cn a n b m)], SV.int IntKind.i64 (0 : Int)]))
        (GT.leaf
          (SV.tup
            [SV.agg [SV.int IntKind.u32 (0 : Int), SV.int IntKind.i64 (0 : Int)], SV.int IntKind.i64 (0 : Int)]))))
theorem e_rcm (ck : I2 Int) (oa : I2 Int) (on oe : Int → Int) (wi : I4 Bool) (cs : I4 Bool) (ca cn : I4 Int) (a n b m : Int) : evFn Try.prog (Grc ck oa on oe wi) ents [] (lpL [(30, [0, 1, 0, 1, 1, 1, 1, 1], annrm cs ca cn)]) 1 30 [px a n, px b m] = (T_rcm ck oa on oe wi cs ca cn a n b m).opt := by kernel_rfl
def rcmA (a n b m : Int) : Int := sure (chkR a n != 0) 0 (sure (chkR b m != 0) 0 (sure (cmS a n b m) (cmRA a n b m) 0))
def rcmL (a n b m : Int) : Int := sure (chkR a n != 0) 0 (sure (chkR b m != 0) 0 (sure (cmS a n b m) (cmRN a n b m) 0))
def rcmE (a n b m : Int) : Int := sure (chkR a n != 0) (chkR a n) (sure (chkR b m != 0) (chkR b m) 0)
theorem S_rcommon : SummT Try.prog 30 (sgPP fun a n b m => .leaf (.tup [px (rcmA a n b m) (rcmL a n b m), .int .i64 (rcmE a n b m)])) := sgPP.summ (evFn_summ (factsL Grc_ok [(30, [0, 1, 0, 1, 1, 1, 1, 1], annrm cmS cmRA cmRN)] (at_one (fun s h => by cases h; exact looprm))) 1 30) (fun a n b m sv h => by
  refine (e_rcm chkR rofA ofN ofE wiR cmS cmRA cmRN a n b m).trans (Eq.trans ?_ h)
  unfold T_rcm rcmA rcmL rcmE
  cases (chkR a n != 0) <;> cases (chkR b m != 0) <;> cases cmS a n b m <;> rfl)
def Glaw (ck cr : I2 Int) (oa ra : I2 Int) (on oe : Int → Int) (rl rh : I2 Int) (sl sh : I2 Int) (hs hr : I3 Bool) (hla hln hha he : I2 Int) (rla rln rha re : I2 Int) (wi wr : I4 Bool) (ca cl ce : I4 Int) (da dl de : I4 Int) (cv dv : I4 Int) : FuncId → Option (List SV → GT SV)
  | 14 => some (sg0 (.leaf (.bool true)))
  | 26 => some (sgP fun a n => .leaf (.int .i64 (ck a n)))
  | 15 => some (sgP fun a n => .leaf (.int .i64 (cr a n)))
  | 19 => some (sgUI fun a n => .leaf (.tup [px (oa a n) (on n), .int .i64 (oe n)]))
  | 20 => some (sgUI fun a n => .leaf (.tup [px (ra a n) (on n), .int .i64 (oe n)]))
  | 21 => some (sgP fun a n => .leaf (.tup [.agg [.int .u32 (rl a n), .int .u32 (rh a n)], .int .i64 (ck a n)]))
  | 22 => some (sgP fun a n => .leaf (.tup [.agg [.int .u32 (sl a n), .int .u32 (sh a n)], .int .i64 (cr a n)]))
  | 18 => some (sgPU fun a n x => .leaf (.bool (hs a n x)))
  | 25 => some (sgPU fun a n x => .leaf (.bool (hr a n x)))
  | 23 => some (sgP fun a n => .leaf (.tup [px (hla a n) (hln a n), px (hha a n) (hln a n), .int .i64 (he a n)]))
  | 24 => some (sgP fun a n => .leaf (.tup [px (rla a n) (rln a n), px (rha a n) (rln a n), .int .i64 (re a n)]))
  | 17 => some (sgPP fun a n b m => .leaf (.bool (wi a n b m)))
  | 31 => some (sgPP fun a n b m => .leaf (.bool (wr a n b m)))
  | 29 => some (sgPP fun a n b m => .leaf (.tup [px (ca a n b m) (cl a n b m), .int .i64 (ce a n b m)]))
  | 30 => some (sgPP fun a n b m => .leaf (.tup [px (da a n b m) (dl a n b m), .int .i64 (de a n b m)]))
  | 16 => some (sgPP fun a n b m => .leaf (.int .i64 (cv a n b m)))
  | 32 => some (sgPP fun a n b m => .leaf (.int .i64 (dv a n b m)))
  | _ => none
theorem Glaw_ok : ∀ g s, Glaw chkP chkR ofA rofA ofN ofE runLo runHi rrunLo rrunHi hasP hasR hlA hlN hhA hE rhlA rhN rhhA rhE wiP wiR cmA cmL cmE rcmA rcmL rcmE cmpPV rcmpV g = some s → SummT Try.prog g s := fun g s h => by
  unfold Glaw at h
  split at h
  · cases h; exact S_awake
  · cases h; exact S_check
  · cases h; exact S_rchk
  · cases h; exact S_of
  · cases h; exact S_rof
  · cases h; exact S_run
  · cases h; exact S_rrun
  · cases h; exact S_has
  · cases h; exact S_rhas
  · cases h; exact S_halves
  · cases h; exact S_rhalves
  · cases h; exact S_within
  · cases h; exact S_rwithin
  · cases h; exact S_common
  · cases h; exact S_rcommon
  · cases h; exact S_cmp
  · cases h; exact S_rcmp
  · cases h
end Go.Sx.Mk


/- Layer 2: plain laws of prefixes: a number of 32 bits, cut at a bit. -/
namespace Go.Sx.Mk
open Go.RowKit
def T32 : Nat := 4294967296
theorem b32_and {a b : Nat} (ha : a < T32) (hb : b < T32) : Go.bits .and .u32 a b = ((a &&& b : Nat) : Int) := by
  unfold T32 at ha hb
  have h : a &&& b < 4294967296 := Nat.lt_of_le_of_lt Nat.and_le_left ha
  show IntKind.wrap .u32 (((BitVec.ofInt 32 (a : Int) &&& BitVec.ofInt 32 (b : Int)).toNat : Nat) : Int) = _
  have : (BitVec.ofInt 32 (a : Int) &&& BitVec.ofInt 32 (b : Int)).toNat = a &&& b := by
    simp [BitVec.toNat_ofNat, Nat.mod_eq_of_lt ha, Nat.mod_eq_of_lt hb]
  rw [this]
  exact wrap_u32 (by omega) (by omega)
theorem b32_or {a b : Nat} (ha : a < T32) (hb : b < T32) : Go.bits .or .u32 a b = ((a ||| b : Nat) : Int) := by
  unfold T32 at ha hb
  have h : a ||| b < 4294967296 := Nat.or_lt_two_pow (n := 32) ha hb
  show IntKind.wrap .u32 (((BitVec.ofInt 32 (a : Int) ||| BitVec.ofInt 32 (b : Int)).toNat : Nat) : Int) = _
  have : (BitVec.ofInt 32 (a : Int) ||| BitVec.ofInt 32 (b : Int)).toNat = a ||| b := by
    simp [BitVec.toNat_ofNat, Nat.mod_eq_of_lt ha, Nat.mod_eq_of_lt hb]
  rw [this]
  exact wrap_u32 (by omega) (by omega)
theorem b32_xor {a b : Nat} (ha : a < T32) (hb : b < T32) : Go.bits .xor .u32 a b = ((a ^^^ b : Nat) : Int) := by
  unfold T32 at ha hb
  have h : a ^^^ b < 4294967296 := Nat.xor_lt_two_pow (n := 32) ha hb
  show IntKind.wrap .u32 (((BitVec.ofInt 32 (a : Int) ^^^ BitVec.ofInt 32 (b : Int)).toNat : Nat) : Int) = _
  have : (BitVec.ofInt 32 (a : Int) ^^^ BitVec.ofInt 32 (b : Int)).toNat = a ^^^ b := by
    simp [BitVec.toNat_ofNat, Nat.mod_eq_of_lt ha, Nat.mod_eq_of_lt hb]
  rw [this]
  exact wrap_u32 (by omega) (by omega)
theorem b32_andNot {a b : Nat} (ha : a < T32) (hb : b < T32) : Go.bits .andNot .u32 a b = ((a &&& (4294967295 - b) : Nat) : Int) := by
  unfold T32 at ha hb
  have h : a &&& (4294967295 - b) < 4294967296 := Nat.lt_of_le_of_lt Nat.and_le_left ha
  show IntKind.wrap .u32 (((BitVec.ofInt 32 (a : Int) &&& ~~~ BitVec.ofInt 32 (b : Int)).toNat : Nat) : Int) = _
  have : (BitVec.ofInt 32 (a : Int) &&& ~~~ BitVec.ofInt 32 (b : Int)).toNat = a &&& (4294967295 - b) := by
    simp [BitVec.toNat_ofNat, Nat.mod_eq_of_lt ha, Nat.mod_eq_of_lt hb]
  rw [this]
  exact wrap_u32 (by omega) (by omega)
theorem b32_ext {a b : Nat} (ha : a < T32) (hb : b < T32) (h : ∀ i, i < 32 → a.testBit i = b.testBit i) : a = b := by
  unfold T32 at ha hb
  refine Nat.eq_of_testBit_eq fun i => ?_
  by_cases hi : i < 32
  · exact h i hi
  · rw [Nat.testBit_lt_two_pow (Nat.lt_of_lt_of_le ha (Nat.pow_le_pow_right (n := 2) (by omega) (show 32 ≤ i by omega))), Nat.testBit_lt_two_pow (Nat.lt_of_lt_of_le hb (Nat.pow_le_pow_right (n := 2) (by omega) (show 32 ≤ i by omega)))]
/-- the lowest k bits -/
def low (k : Nat) : Nat := 2 ^ k - 1
theorem low_lt {k : Nat} (h : k ≤ 32) : low k < T32 := by
  have : 2 ^ k ≤ 2 ^ 32 := Nat.pow_le_pow_right (by omega) h
  unfold low T32; omega
/-- all but the lowest k bits -/
def hig (k : Nat) : Nat := 4294967295 - low k
theorem hig_lt (k : Nat) : hig k < T32 := by unfold hig T32; omega
theorem pow_le32 {k : Nat} (h : k ≤ 32) : 2 ^ k ≤ T32 := by
  have : 2 ^ k ≤ 2 ^ 32 := Nat.pow_le_pow_right (by omega) h
  unfold T32; omega
theorem low_bit (k i : Nat) : (low k).testBit i = decide (i < k) := Nat.testBit_two_pow_sub_one k i
theorem hig_bit {k i : Nat} (hk : k ≤ 32) (hi : i < 32) : (hig k).testBit i = !decide (i < k) := by
  have hp := pow_le32 hk
  have h0 : 0 < 2 ^ k := Nat.two_pow_pos k
  have : hig k = 2 ^ 32 - (low k + 1) := by unfold hig low; omega
  rw [this, Nat.testBit_two_pow_sub_succ (by have := low_lt hk; unfold T32 at this; omega), low_bit]
  simp [hi]
theorem care_eq {n : Nat} (h : n ≤ 32) : careV n = ((hig (32 - n) : Nat) : Int) := by
  have key : (List.range 33).all (fun n => careV (Int.ofNat n) == Int.ofNat (hig (32 - n))) = true := by kernel_rfl
  exact eq_of_beq (List.all_eq_true.1 key n (by simp; omega))
theorem and_hig {x k : Nat} (hx : x < T32) (hk : k ≤ 32) : x &&& hig k = x / 2 ^ k * 2 ^ k := by
  have hle : x / 2 ^ k * 2 ^ k < T32 := Nat.lt_of_le_of_lt (Nat.div_mul_le_self x (2 ^ k)) hx
  refine b32_ext (Nat.lt_of_le_of_lt Nat.and_le_left hx) hle fun i hi => ?_
  rw [Nat.testBit_and, hig_bit hk hi, Nat.testBit_mul_two_pow, Nat.testBit_div_two_pow]
  by_cases h : i < k
  · simp [h]; omega
  · have : k ≤ i := by omega
    simp [h, this]
theorem and_low (x k : Nat) : x &&& low k = x % 2 ^ k := Nat.and_two_pow_sub_one_eq_mod x k
theorem hig_compl {k : Nat} (hk : k ≤ 32) : 4294967295 - hig k = low k := by have := low_lt hk; unfold T32 at this; unfold hig; omega
theorem or_low {x k : Nat} (h : x % 2 ^ k = 0) : x ||| low k = x + low k := by
  obtain ⟨q, rfl⟩ : ∃ q, x = 2 ^ k * q := ⟨x / 2 ^ k, by have := Nat.div_add_mod x (2 ^ k); omega⟩
  have hp := Nat.two_pow_pos k
  rw [Nat.two_pow_add_eq_or_of_lt (by unfold low; omega)]
/-- a prefix that may be -/
def okP (a n : Nat) : Prop := n ≤ 32 ∧ a % 2 ^ (32 - n) = 0
instance (a n : Nat) : Decidable (okP a n) := by unfold okP; infer_instance
theorem u32_nat {n : Int} (h : U32 n) : ∃ m : Nat, n = (m : Int) ∧ m < T32 := nat_of (b := 4294967296) h
/-- what Check answers, plainly -/
def chkS (a : Nat) (n : Int) : Int := if 0 ≤ n ∧ n ≤ 32 then (if a % 2 ^ (32 - n.toNat) = 0 then 0 else 21) else 20
theorem chkP_eq {a : Nat} (ha : a < T32) (n : Int) : chkP a n = chkS a n := by
  unfold chkP chkS
  by_cases h1 : n < 0
  · rw [decide_eq_true h1, if_neg (by omega)]; rfl
  · by_cases h2 : 32 < n
    · rw [decide_eq_false h1, decide_eq_true h2, if_neg (by omega)]; rfl
    · obtain ⟨m, rfl, hm⟩ := nat_of (n := n) (b := 33) (by omega)
      rw [decide_eq_false h1, decide_eq_false h2, if_pos (by omega), care_eq (by omega), b32_andNot ha (hig_lt _), hig_compl (by omega), and_low, Int.toNat_natCast]
      by_cases h : a % 2 ^ (32 - m) = 0
      · rw [h]; rfl
      · rw [if_neg h]
        have : (((a % 2 ^ (32 - m) : Nat) : Int) != 0) = true := by
          generalize a % 2 ^ (32 - m) = q at h
          simpa using h
        rw [this]; rfl
theorem bitV_eq {a i : Nat} (ha : a < T32) (hi : i < 32) : bitV a i = if a.testBit (31 - i) then 1 else 0 := by
  unfold bitV
  have h1 : IntKind.wrap .i64 (31 - (i : Int)) = ((31 - i : Nat) : Int) := by rw [wrap_i64 (by omega) (by omega)]; omega
  have h2 : IntKind.wrap .u64 ((31 - i : Nat) : Int) = ((31 - i : Nat) : Int) := wrap_u64 (by omega) (by omega)
  have h3 : min (31 - i) 32 = 31 - i := by omega
  rw [h1, h2, Int.toNat_natCast, h3]
  have h4 : ((a : Int)).fdiv (2 ^ (31 - i)) = ((a / 2 ^ (31 - i) : Nat) : Int) := by
    rw [Int.fdiv_eq_ediv_of_nonneg _ (by have := Nat.two_pow_pos (31 - i); exact_mod_cast Nat.le_of_lt this)]
    exact_mod_cast rfl
  have hlt : a / 2 ^ (31 - i) ≤ a := Nat.div_le_self _ _
  unfold T32 at ha
  generalize hq : a / 2 ^ (31 - i) = q at h4 hlt
  rw [h4, wrap_i64 (by omega) (by omega), Int.tmod_eq_emod_of_nonneg (by omega)]
  subst hq
  have h5 : (a / 2 ^ (31 - i)) % 2 = (a.testBit (31 - i)).toNat := by rw [Nat.testBit_eq_decide_div_mod_eq]; rcases Nat.mod_two_eq_zero_or_one (a / 2 ^ (31 - i)) with h | h <;> simp [h]
  have h6 : (((a / 2 ^ (31 - i) : Nat) : Int)) % 2 = (((a / 2 ^ (31 - i)) % 2 : Nat) : Int) := by omega
  rw [h6, h5]
  cases a.testBit (31 - i) <;> rfl
theorem oneV_eq {i : Nat} (hi : i < 32) : oneV i = ((2 ^ (31 - i) : Nat) : Int) := by
  have key : (List.range 32).all (fun n => oneV (Int.ofNat n) == Int.ofNat (2 ^ (31 - n))) = true := by kernel_rfl
  exact eq_of_beq (List.all_eq_true.1 key i (by simpa using hi))
theorem idx {k : Nat} (hk : k + 1 ≤ 32) : (32 - ((k + 1 : Nat) : Int)) = ((32 - (k + 1) : Nat) : Int) := by omega
theorem idxn {n k : Nat} (hk : k + 1 ≤ n) : ((n : Int) - ((k + 1 : Nat) : Int)) = ((n - (k + 1) : Nat) : Int) := by omega
theorem anyB_eq {a : Nat} (ha : a < T32) : ∀ k : Nat, k ≤ 32 → (anyB bitV a k = false ↔ a % 2 ^ k = 0)
  | 0, _ => by simp [anyB, Nat.mod_one]
  | k + 1, hk => by
    have ih := anyB_eq ha k (by omega)
    unfold anyB
    rw [idx hk, bitV_eq ha (by omega), Bool.or_eq_false_iff, ih, show 31 - (32 - (k + 1)) = k by omega]
    have hm : a % 2 ^ (k + 1) = a % 2 ^ k + 2 ^ k * (a.testBit k).toNat := by
      rw [Nat.mod_pow_succ, Nat.testBit_eq_decide_div_mod_eq]
      congr 2
      rcases Nat.mod_two_eq_zero_or_one (a / 2 ^ k) with h | h <;> simp [h]
    have hp := Nat.two_pow_pos k
    rw [hm]
    cases a.testBit k <;> simp <;> omega
theorem chkR_eq {a : Nat} (ha : a < T32) (n : Int) : chkR a n = chkS a n := by
  unfold chkR chkS badN
  by_cases h : 0 ≤ n ∧ n ≤ 32
  · obtain ⟨m, rfl, hm⟩ := nat_of (n := n) (b := 33) (by omega)
    have e : (32 - (m : Int)).toNat = 32 - m := by omega
    have hA := anyB_eq ha (32 - m) (by omega)
    rw [if_pos h, decide_eq_false (by omega), decide_eq_false (by omega)]
    unfold anyV
    rw [e, Int.toNat_natCast]
    by_cases h0 : a % 2 ^ (32 - m) = 0
    · rw [if_pos h0, hA.2 h0]; rfl
    · rw [if_neg h0]
      have : anyB bitV a (32 - m) = true := by
        cases hb : anyB bitV a (32 - m) with
        | true => rfl
        | false => exact absurd (hA.1 hb) h0
      rw [this]; rfl
  · rw [if_neg h]
    by_cases h1 : n < 0
    · rw [decide_eq_true h1]; rfl
    · rw [decide_eq_false h1, decide_eq_true (by omega)]; rfl
theorem chk_eq {a : Nat} (ha : a < T32) (n : Int) : chkP a n = chkR a n := (chkP_eq ha n).trans (chkR_eq ha n).symm
theorem chkS_zero {a : Nat} {n : Int} (h : chkS a n = 0) : ∃ m : Nat, n = (m : Int) ∧ m ≤ 32 ∧ a % 2 ^ (32 - m) = 0 := by
  unfold chkS at h
  split at h
  · rename_i hn
    obtain ⟨m, rfl, hm⟩ := nat_of (n := n) (b := 33) (by omega)
    split at h
    · rename_i h0
      exact ⟨m, rfl, by omega, by simpa using h0⟩
    · cases h
  · cases h
end Go.Sx.Mk


/- Layer 2, by value: the laws PrefixChecks, PrefixPairs, PrefixNests. -/
namespace Go.Sx.Mk
open Go.Proofs Go.RowKit
noncomputable def T_checks (ck cr : I2 Int) (oa ra : I2 Int) (on oe : Int → Int) (rl rh : I2 Int) (sl sh : I2 Int) (hs hr : I3 Bool) (hla hln hha he : I2 Int) (rla rln rha re : I2 Int) (wi wr : I4 Bool) (ca cl ce : I4 Int) (da dl de : I4 Int) (cv dv : I4 Int) (a n x k : Int) : GT SV := GT.br (hs a n x == hr a n x)
    (GT.br (hs a n a == hr a n a)
      (GT.br (hs a n (sh a n) == hr a n (sh a n))
        (GT.br (hs a n (IntKind.u32.wrap (sh a n + (1 : Int))) == hr a n (IntKind.u32.wrap (sh a n + (1 : Int))))
          (GT.br (ck a n == cr a n)
            (GT.br (oa x k == ra x k && (on k == on k && true))
              (GT.br (oe k == oe k)
                (GT.br (rl a n == sl a n && (rh a n == sh a n && true))
                  (GT.br (ck a n == cr a n)
                    (GT.br (hla a n == rla a n && (hln a n == rln a n && true))
                      (GT.br (hha a n == rha a n && (hln a n == rln a n && true))
                        (GT.br (he a n == re a n) (GT.leaf (SV.bool true)) (GT.leaf (SV.bool false)))
                        (GT.leaf (SV.bool false)))
                      (GT.leaf (SV.bool false)))
                    (GT.leaf (SV.bool false)))
                  (GT.leaf (SV.bool false)))
                (GT.leaf (SV.bool false)))
              (GT.leaf (SV.bool false)))
            (GT.leaf (SV.bool false)))
          (GT.br (ck a n == cr a n)
            (GT.br (oa x k == ra x k && (on k == on k && true))
              (GT.br (oe k == oe k)
                (GT.br (rl a n == sl a n && (rh a n == sh a n && true))
                  (GT.br (ck a n == cr a n)
                    (GT.br (hla a n == rla a n && (hln a n == rln a n && true))
                      (GT.br (hha a n == rha a n && (hln a n == rln a n && true))
                        (GT.br (he a n == re a n) (GT.leaf (SV.bool false)) (GT.leaf (SV.bool false)))
                        (GT.leaf (SV.bool false)))
                      (GT.leaf (SV.bool false)))
                    (GT.leaf (SV.bool false)))
                  (GT.leaf (SV.bool false)))
                (GT.leaf (SV.bool false)))
              (GT.leaf (SV.bool false)))
            (GT.leaf (SV.bool false))))
        (GT.br (ck a n == cr a n)
          (GT.br (oa x k == ra x k && (on k == on k && true))
            (GT.br (oe k == oe k)
              (GT.br (rl a n == sl a n && (rh a n == sh a n && true))
                (GT.br (ck a n == cr a n)
                  (GT.br (hla a n == rla a n && (hln a n == rln a n && true))
                    (GT.br (hha a n == rha a n && (hln a n == rln a n && true))
                      (GT.br (he a n == re a n) (GT.leaf (SV.bool false)) (GT.leaf (SV.bool false)))
                      (GT.leaf (SV.bool false)))
                    (GT.leaf (SV.bool false)))
                  (GT.leaf (SV.bool false)))
                (GT.leaf (SV.bool false)))
              (GT.leaf (SV.bool false)))
            (GT.leaf (SV.bool false)))
          (GT.leaf (SV.bool false))))
      (GT.br (ck a n == cr a n)
        (GT.br (oa x k == ra x k && (on k == on k && true))
          (GT.br (oe k == oe k)
            (GT.br (rl a n == sl a n && (rh a n == sh a n && true))
              (GT.br (ck a n == cr a n)
                (GT.br (hla a n == rla a n && (hln a n == rln a n && true))
                  (GT.br (hha a n == rha a n && (hln a n == rln a n && true))
                    (GT.br (he a n == re a n) (GT.leaf (SV.bool false)) (GT.leaf (SV.bool false)))
                    (GT.leaf (SV.bool false)))
                  (GT.leaf (SV.bool false)))
                (GT.leaf (SV.bool false)))
              (GT.leaf (SV.bool false)))
            (GT.leaf (SV.bool false)))
          (GT.leaf (SV.bool false)))
        (GT.leaf (SV.bool false))))
    (GT.br (ck a n == cr a n)
      (GT.br (oa x k == ra x k && (on k == on k && true))
        (GT.br (oe k == oe k)
          (GT.br (rl a n == sl a n && (rh a n == sh a n && true))
            (GT.br (ck a n == cr a n)
              (GT.br (hla a n == rla a n && (hln a n == rln a n && true))
                (GT.br (hha a n == rha a n && (hln a n == rln a n && true))
                  (GT.br (he a n == re a n) (GT.leaf (SV.bool false)) (GT.leaf (SV.bool false)))
                  (GT.leaf (SV.bool false)))
                (GT.leaf (SV.bool false)))
              (GT.leaf (SV.bool false)))
            (GT.leaf (SV.bool false)))
          (GT.leaf (SV.bool false)))
        (GT.leaf (SV.bool false)))
      (GT.leaf (SV.bool false)))
theorem e_checks (ck cr : I2 Int) (oa ra : I2 Int) (on oe : Int → Int) (rl rh : I2 Int) (sl sh : I2 Int) (hs hr : I3 Bool) (hla hln hha he : I2 Int) (rla rln rha re : I2 Int) (wi wr : I4 Bool) (ca cl ce : I4 Int) (da dl de : I4 Int) (cv dv : I4 Int) (a n x k : Int) : ev (Glaw ck cr oa ra on oe rl rh sl sh hs hr hla hln hha he rla rln rha re wi wr ca cl ce da dl de cv dv) 1 5 [px a n, .int .u32 x, .int .i64 k] = (T_checks ck cr oa ra on oe rl rh sl sh hs hr hla hln hha he rla rln rha re wi wr ca cl ce da dl de cv dv a n x k).opt := by kernel_rfl
end Go.Sx.Mk


/- Layer 2: plain laws: the program's functions and the reference's answer alike. -/
namespace Go.Sx.Mk
open Go.RowKit
theorem div_eq_iff_bits {a x K : Nat} (ha : a < T32) (hx : x < T32) (hK : K ≤ 32) : a / 2 ^ K = x / 2 ^ K ↔ ∀ j, j < 32 - K → a.testBit (K + j) = x.testBit (K + j) := by
  constructor
  · intro h j _
    have := congrArg (fun y => y.testBit j) h
    simp only [Nat.testBit_div_two_pow] at this
    rw [Nat.add_comm]; exact this
  · intro h
    refine Nat.eq_of_testBit_eq fun j => ?_
    rw [Nat.testBit_div_two_pow, Nat.testBit_div_two_pow, Nat.add_comm j K]
    by_cases hj : j < 32 - K
    · exact h j hj
    · have e : ∀ y, y < T32 → y.testBit (K + j) = false := fun y hy => Nat.testBit_lt_two_pow (Nat.lt_of_lt_of_le hy (by
        have : 2 ^ 32 ≤ 2 ^ (K + j) := Nat.pow_le_pow_right (by omega) (by omega)
        unfold T32; omega))
      rw [e a ha, e x hx]
theorem likeB_eq {a x n : Nat} (ha : a < T32) (hx : x < T32) (hn : n ≤ 32) : ∀ k : Nat, k ≤ n → (likeB bitV a x n k = true ↔ ∀ j, j < k → a.testBit (32 - n + j) = x.testBit (32 - n + j))
  | 0, _ => by simp [likeB]
  | k + 1, hk => by
    have ih := likeB_eq ha hx hn k (by omega)
    unfold likeB
    rw [idxn hk, bitV_eq ha (by omega), bitV_eq hx (by omega), Bool.and_eq_true, ih, show 31 - (n - (k + 1)) = 32 - n + k by omega]
    constructor
    · rintro ⟨h1, h2⟩ j hj
      by_cases e : j = k
      · subst e
        revert h1
        cases a.testBit (32 - n + j) <;> cases x.testBit (32 - n + j) <;> simp
      · exact h2 j (by omega)
    · intro h
      refine ⟨?_, fun j hj => h j (by omega)⟩
      rw [h k (by omega)]
      simp
theorem likeV_eq {a x n : Nat} (ha : a < T32) (hx : x < T32) (hn : n ≤ 32) : likeV a x n = decide (a / 2 ^ (32 - n) = x / 2 ^ (32 - n)) := by
  unfold likeV
  rw [Int.toNat_natCast]
  have h := likeB_eq ha hx hn n (Nat.le_refl _)
  have h2 := div_eq_iff_bits ha hx (K := 32 - n) (by omega)
  rw [show 32 - (32 - n) = n by omega] at h2
  by_cases hd : a / 2 ^ (32 - n) = x / 2 ^ (32 - n)
  · rw [decide_eq_true hd, h.2 (h2.1 hd)]
  · rw [decide_eq_false hd]
    cases hb : likeB bitV a x n n with
    | false => rfl
    | true => exact absurd (h2.2 (h.1 hb)) hd
theorem cut_eq {a x K : Nat} (h : a % 2 ^ K = 0) : x / 2 ^ K * 2 ^ K = a ↔ a / 2 ^ K = x / 2 ^ K := by
  have hp := Nat.two_pow_pos K
  have ha := Nat.div_add_mod a (2 ^ K)
  rw [h, Nat.add_zero] at ha
  constructor
  · intro e; rw [← e, Nat.mul_div_cancel _ hp]
  · intro e; rw [← e, Nat.mul_comm]; exact ha
/-- what Has answers, plainly -/
theorem hasP_eq {a x : Nat} {n : Int} (ha : a < T32) (hx : x < T32) : hasP a n x = hasR a n x := by
  unfold hasP hasR
  rw [chkP_eq ha, chkR_eq ha]
  by_cases h : chkS a n = 0
  · obtain ⟨m, rfl, hm, h0⟩ := chkS_zero h
    rw [h, care_eq hm, b32_and hx (hig_lt _), and_hig hx (by omega), likeV_eq ha hx hm]
    have h1 := cut_eq (x := x) h0
    simp only [sure, BEq.rfl, Bool.true_and, bne_self_eq_false]
    by_cases e : a / 2 ^ (32 - m) = x / 2 ^ (32 - m)
    · rw [decide_eq_true e, h1.2 e]; simp
    · rw [decide_eq_false e]
      have : x / 2 ^ (32 - m) * 2 ^ (32 - m) ≠ a := fun h => e (h1.1 h)
      generalize x / 2 ^ (32 - m) * 2 ^ (32 - m) = q at this
      show ((q : Int) == (a : Int)) = sure false false (false : Bool)
      rw [beq_eq_false_iff_ne.2 (by exact_mod_cast this)]; rfl
  · have e1 : (chkS a n == 0) = false := by simpa using h
    have e2 : (chkS a n != 0) = true := by simpa using h
    rw [e1, e2]; rfl
theorem sumB_eq {a n : Nat} (ha : a < T32) (hn : n ≤ 32) : ∀ (k : Nat) (p : Nat), k ≤ n → p + (a / 2 ^ (32 - n)) % 2 ^ k * 2 ^ (32 - n) < T32 → sumB bitV oneV a n k p = ((p + (a / 2 ^ (32 - n)) % 2 ^ k * 2 ^ (32 - n) : Nat) : Int)
  | 0, p, _, _ => by simp [sumB, Nat.mod_one]
  | k + 1, p, hk, hlt => by
    unfold sumB
    have hi : n - (k + 1) < 32 := by omega
    rw [idxn hk, bitV_eq ha hi, oneV_eq hi, show 31 - (n - (k + 1)) = k + (32 - n) by omega]
    have hm : (a / 2 ^ (32 - n)) % 2 ^ (k + 1) = (a / 2 ^ (32 - n)) % 2 ^ k + 2 ^ k * (a.testBit (k + (32 - n))).toNat := by
      rw [Nat.mod_pow_succ, ← Nat.testBit_div_two_pow, Nat.testBit_eq_decide_div_mod_eq]
      congr 2
      rcases Nat.mod_two_eq_zero_or_one (a / 2 ^ (32 - n) / 2 ^ k) with h | h <;> simp [h]
    rw [hm, Nat.add_mul] at hlt ⊢
    rw [Nat.pow_add]
    cases hb : a.testBit (k + (32 - n)) with
    | false =>
      rw [hb] at hlt
      simp only [Bool.toNat_false, Nat.mul_zero, Nat.zero_mul, Nat.add_zero] at hlt ⊢
      exact sumB_eq ha hn k p (by omega) hlt
    | true =>
      rw [hb] at hlt
      simp only [Bool.toNat_true, Nat.mul_one] at hlt ⊢
      generalize hQ : 2 ^ k * 2 ^ (32 - n) = Q at hlt ⊢
      generalize hR : a / 2 ^ (32 - n) % 2 ^ k * 2 ^ (32 - n) = R at hlt ⊢
      have hw : IntKind.wrap .u32 ((p : Int) + ((Q : Nat) : Int)) = ((p + Q : Nat) : Int) := by
        unfold T32 at hlt
        rw [wrap_u32 (by omega) (by omega)]; omega
      show sumB bitV oneV a n k (IntKind.wrap .u32 ((p : Int) + ((Q : Nat) : Int))) = _
      rw [hw, sumB_eq ha hn k (p + Q) (by omega) (by rw [hR]; omega), hR]
      congr 1; omega
theorem sumV_eq {a n : Nat} (ha : a < T32) (hn : n ≤ 32) : sumV a n 0 = ((a / 2 ^ (32 - n) * 2 ^ (32 - n) : Nat) : Int) := by
  unfold sumV
  have hlt : a / 2 ^ (32 - n) < 2 ^ n := by
    rw [Nat.div_lt_iff_lt_mul (Nat.two_pow_pos _), ← Nat.pow_add, show n + (32 - n) = 32 by omega]
    exact ha
  have hle := Nat.div_mul_le_self a (2 ^ (32 - n))
  have := sumB_eq ha hn n 0 (Nat.le_refl _) (by rw [Nat.mod_eq_of_lt hlt]; omega)
  rw [Nat.mod_eq_of_lt hlt, Nat.zero_add] at this
  rw [Int.toNat_natCast]
  exact this
theorem ofA_nat {a n : Nat} (ha : a < T32) (hn : n ≤ 32) : ofA a n = ((a / 2 ^ (32 - n) * 2 ^ (32 - n) : Nat) : Int) := by
  unfold ofA badN
  rw [decide_eq_false (by omega), decide_eq_false (by omega), care_eq hn, b32_and ha (hig_lt _), and_hig ha (by omega)]; rfl
theorem ofA_eq {a : Nat} (ha : a < T32) (n : Int) : ofA a n = rofA a n := by
  unfold rofA
  cases hb : badN n with
  | true => unfold ofA; rw [hb]; rfl
  | false =>
    have h := badN_no hb
    obtain ⟨m, rfl, hm⟩ := nat_of (n := n) (b := 33) (by omega)
    rw [ofA_nat ha (by omega), sumV_eq ha (by omega)]; rfl
theorem onesB_eq : ∀ (k h : Nat), k ≤ 32 → h + low k < T32 → onesB oneV k h = ((h + low k : Nat) : Int)
  | 0, h, _, _ => by simp [onesB, low]
  | k + 1, h, hk, hlt => by
    unfold onesB
    have hp := Nat.two_pow_pos k
    have e : low (k + 1) = 2 ^ k + low k := by unfold low; rw [Nat.pow_succ]; omega
    rw [e] at hlt ⊢
    rw [idx hk, oneV_eq (by omega), show 31 - (32 - (k + 1)) = k by omega]
    generalize 2 ^ k = Q at *
    have hw : IntKind.wrap .u32 ((h : Int) + ((Q : Nat) : Int)) = ((h + Q : Nat) : Int) := by
      unfold T32 at hlt
      rw [wrap_u32 (by omega) (by omega)]; omega
    rw [hw, onesB_eq k (h + Q) (by omega) (by omega)]
    congr 1; omega
theorem top_lt {a K : Nat} (ha : a < T32) (hK : K ≤ 32) (h : a % 2 ^ K = 0) : a + low K < T32 := by
  have hp := Nat.two_pow_pos K
  obtain ⟨q, rfl⟩ : ∃ q, a = 2 ^ K * q := ⟨a / 2 ^ K, by have := Nat.div_add_mod a (2 ^ K); omega⟩
  have e : T32 = 2 ^ K * 2 ^ (32 - K) := by rw [← Nat.pow_add, show K + (32 - K) = 32 by omega]; rfl
  have hq : q < 2 ^ (32 - K) := by
    rw [e] at ha
    exact Nat.lt_of_mul_lt_mul_left ha
  have : 2 ^ K * (q + 1) ≤ T32 := by rw [e]; exact Nat.mul_le_mul_left _ hq
  unfold low
  rw [Nat.mul_succ] at this
  omega
theorem runHi_nat {a m : Nat} (ha : a < T32) (hm : m ≤ 32) (h0 : a % 2 ^ (32 - m) = 0) : runHi a m = ((a + low (32 - m) : Nat) : Int) := by
  have hc : chkP a m = 0 := by rw [chkP_eq ha]; unfold chkS; rw [if_pos (by omega), Int.toNat_natCast, if_pos h0]
  unfold runHi
  rw [hc, care_eq hm]
  have e : Go.bits .xor .u32 4294967295 ((hig (32 - m) : Nat) : Int) = ((low (32 - m) : Nat) : Int) := by
    have := b32_xor (a := 4294967295) (b := hig (32 - m)) (by unfold T32; omega) (hig_lt _)
    refine this.trans ?_
    congr 1
    refine b32_ext (Nat.xor_lt_two_pow (n := 32) (by omega) (hig_lt _)) (low_lt (by omega)) fun i hi => ?_
    rw [Nat.testBit_xor, hig_bit (by omega) hi, low_bit, show 4294967295 = 2 ^ 32 - 1 from rfl, Nat.testBit_two_pow_sub_one]
    simp [hi]
  rw [e, b32_or ha (low_lt (by omega)), or_low h0]; rfl
theorem runs_eq {a : Nat} (ha : a < T32) (n : Int) : runLo a n = rrunLo a n ∧ runHi a n = rrunHi a n := by
  have hcc := chk_eq ha n
  unfold runLo rrunLo
  rw [← hcc]
  refine ⟨rfl, ?_⟩
  by_cases h : chkP a n = 0
  · have hS : chkS a n = 0 := (chkP_eq ha n).symm.trans h
    obtain ⟨m, rfl, hm, h0⟩ := chkS_zero hS
    rw [runHi_nat ha hm h0]
    unfold rrunHi onesV
    rw [← hcc, h, show (32 - (m : Int)).toNat = 32 - m by omega, onesB_eq _ _ (by omega) (top_lt ha (by omega) h0)]; rfl
  · have e : (chkP a n != 0) = true := by simpa using h
    unfold runHi rrunHi
    rw [← hcc, e]; rfl
theorem rhN_eq {a : Nat} (ha : a < T32) (n : Int) : hlA a n = rhlA a n ∧ hlN a n = rhN a n ∧ hE a n = rhE a n := by
  have hcc := chk_eq ha n
  unfold hlA rhlA hlN rhN hE rhE
  rw [hcc]
  exact ⟨rfl, rfl, rfl⟩
theorem half_nat {a m : Nat} (ha : a < T32) (hm : m < 32) (h0 : a % 2 ^ (32 - m) = 0) : hhA a m = ((a + 2 ^ (31 - m) : Nat) : Int) ∧ a + 2 ^ (31 - m) < T32 ∧ (a ||| 2 ^ (31 - m)) = a + 2 ^ (31 - m) := by
  have hc : chkP a m = 0 := by rw [chkP_eq ha]; unfold chkS; rw [if_pos (by omega), Int.toNat_natCast, if_pos h0]
  have key : (List.range 32).all (fun n => IntKind.wrap .u32 (1 * 2 ^ (min (IntKind.wrap .i64 (31 - Int.ofNat n)).toNat 32)) == Int.ofNat (2 ^ (31 - n))) = true := by kernel_rfl
  have h1 : IntKind.wrap .u32 (1 * 2 ^ (min (IntKind.wrap .i64 (31 - (m : Int))).toNat 32)) = ((2 ^ (31 - m) : Nat) : Int) := eq_of_beq (List.all_eq_true.1 key m (by simpa using hm))
  have hlt : 2 ^ (31 - m) < T32 := by
    have : 2 ^ (31 - m) ≤ 2 ^ 31 := Nat.pow_le_pow_right (by omega) (by omega)
    unfold T32; omega
  have hor : a ||| 2 ^ (31 - m) = a + 2 ^ (31 - m) := by
    obtain ⟨q, rfl⟩ : ∃ q, a = 2 ^ (32 - m) * q := ⟨a / 2 ^ (32 - m), by have := Nat.div_add_mod a (2 ^ (32 - m)); omega⟩
    rw [Nat.two_pow_add_eq_or_of_lt]
    exact Nat.pow_lt_pow_right (by omega) (by omega)
  have hb : a + 2 ^ (31 - m) < T32 := by rw [← hor]; exact Nat.or_lt_two_pow (n := 32) ha hlt
  refine ⟨?_, hb, hor⟩
  unfold hhA
  have e32 : ((m : Int) == 32) = false := by simp; omega
  rw [hc, e32, h1, b32_or ha hlt, hor]; rfl
theorem hhA_eq {a : Nat} (ha : a < T32) (n : Int) : hhA a n = rhhA a n := by
  have hcc := chk_eq ha n
  by_cases h : chkP a n = 0
  · have hS : chkS a n = 0 := (chkP_eq ha n).symm.trans h
    obtain ⟨m, rfl, hm, h0⟩ := chkS_zero hS
    by_cases e : m = 32
    · subst e
      unfold hhA rhhA
      rw [← hcc, h]; rfl
    · obtain ⟨h1, h2, _⟩ := half_nat ha (by omega) h0
      have e32 : ((m : Int) == 32) = false := by simp; omega
      rw [h1]
      unfold rhhA
      rw [← hcc, h, e32, oneV_eq (by omega)]
      generalize 2 ^ (31 - m) = Q at h2 ⊢
      unfold T32 at h2
      show _ = IntKind.wrap .u32 ((a : Int) + (Q : Int))
      rw [wrap_u32 (by omega) (by omega)]; omega
  · have e : (chkP a n != 0) = true := by simpa using h
    unfold hhA rhhA
    rw [← hcc, e]; rfl
theorem checks {a x : Nat} {n k : Int} (ha : a < T32) (hx : x < T32) : (T_checks chkP chkR ofA rofA ofN ofE runLo runHi rrunLo rrunHi hasP hasR hlA hlN hhA hE rhlA rhN rhhA rhE wiP wiR cmA cmL cmE rcmA rcmL rcmE cmpPV rcmpV a n x k).opt = some (.bool true) := by
  obtain ⟨r1, r2⟩ := runs_eq ha n
  obtain ⟨h1, h2, h3⟩ := rhN_eq ha n
  have hh := hhA_eq ha n
  have hsh : ∃ s : Nat, rrunHi a n = (s : Int) ∧ s < T32 := by
    rw [← r2]
    by_cases h : chkP a n = 0
    · have hS : chkS a n = 0 := (chkP_eq ha n).symm.trans h
      obtain ⟨m, rfl, hm, h0⟩ := chkS_zero hS
      exact ⟨_, runHi_nat ha hm h0, top_lt ha (by omega) h0⟩
    · have e : (chkP a n != 0) = true := by simpa using h
      refine ⟨0, ?_, by unfold T32; omega⟩
      unfold runHi
      rw [e]; rfl
  obtain ⟨s, hs, hs2⟩ := hsh
  have hw : ∃ t : Nat, IntKind.wrap .u32 ((s : Int) + 1) = (t : Int) ∧ t < T32 := by
    have : 0 ≤ IntKind.wrap .u32 ((s : Int) + 1) ∧ IntKind.wrap .u32 ((s : Int) + 1) < 4294967296 := by
      simp [IntKind.wrap, IntKind.signed, IntKind.bits]; omega
    exact u32_nat this
  obtain ⟨t, ht, ht2⟩ := hw
  unfold T_checks
  rw [hs, ht, hasP_eq ha hx, hasP_eq ha ha, hasP_eq ha hs2, hasP_eq ha ht2, chk_eq ha n, ofA_eq hx k, r1, r2, h1, h2, h3, hh, hs]
  simp only [BEq.rfl, Bool.and_true, Bool.true_and]
  rfl
noncomputable def evChecks (svs : List SV) : Option SV := ev (Glaw chkP chkR ofA rofA ofN ofE runLo runHi rrunLo rrunHi hasP hasR hlA hlN hhA hE rhlA rhN rhhA rhE wiP wiR cmA cmL cmE rcmA rcmL rcmE cmpPV rcmpV) 1 5 svs
theorem LChecks.summ : Summ Go.Proofs.Try.prog 5 evChecks := evFn_summ (facts Glaw_ok) 1 5
theorem LChecks.ok (a n x k : Int) (ha : U32 a) (hn : I64 n) (hx : U32 x) (hk : I64 k) : evChecks [px a n, .int .u32 x, .int .i64 k] = some (.bool true) := by
  obtain ⟨a, rfl, ha'⟩ := u32_nat ha
  obtain ⟨x, rfl, hx'⟩ := u32_nat hx
  exact (e_checks chkP chkR ofA rofA ofN ofE runLo runHi rrunLo rrunHi hasP hasR hlA hlN hhA hE rhlA rhN rhhA rhE wiP wiR cmA cmL cmE rcmA rcmL rcmE cmpPV rcmpV a n x k).trans (checks ha' hx')
end Go.Sx.Mk


/- Layer 2, by value: the law PrefixPairs. -/
namespace Go.Sx.Mk
open Go.Proofs Go.RowKit
noncomputable def T_pairs (ck cr : I2 Int) (oa ra : I2 Int) (on oe : Int → Int) (rl rh : I2 Int) (sl sh : I2 Int) (hs hr : I3 Bool) (hla hln hha he : I2 Int) (rla rln rha re : I2 Int) (wi wr : I4 Bool) (ca cl ce : I4 Int) (da dl de : I4 Int) (cv dv : I4 Int) (a n b m : Int) : GT SV := GT.br (wi a n b m == wr a n b m)
    (GT.br (wi b m a n == wr b m a n)
      (GT.br (wi a n a n == wr a n a n)
        (GT.br (cv a n b m == dv a n b m)
          (GT.br (cv b m a n == dv b m a n)
            (GT.br (cv a n a n == (0 : Int))
              (GT.br (ca a n b m == da a n b m && (cl a n b m == dl a n b m && true))
                (GT.br (ce a n b m == de a n b m)
                  (GT.br (ca b m a n == da b m a n && (cl b m a n == dl b m a n && true))
                    (GT.br (ce b m a n == de b m a n) (GT.leaf (SV.bool true)) (GT.leaf (SV.bool false)))
                    (GT.leaf (SV.bool false)))
                  (GT.leaf (SV.bool false)))
                (GT.leaf (SV.bool false)))
              (GT.br (ca a n b m == da a n b m && (cl a n b m == dl a n b m && true))
                (GT.br (ce a n b m == de a n b m)
                  (GT.br (ca b m a n == da b m a n && (cl b m a n == dl b m a n && true))
                    (GT.br (ce b m a n == de b m a n) (GT.leaf (SV.bool false)) (GT.leaf (SV.bool false)))
                    (GT.leaf (SV.bool false)))
                  (GT.leaf (SV.bool false)))
                (GT.leaf (SV.bool false))))
            (GT.br (ca a n b m == da a n b m && (cl a n b m == dl a n b m && true))
              (GT.br (ce a n b m == de a n b m)
                (GT.br (ca b m a n == da b m a n && (cl b m a n == dl b m a n && true))
                  (GT.br (ce b m a n == de b m a n) (GT.leaf (SV.bool false)) (GT.leaf (SV.bool false)))
                  (GT.leaf (SV.bool false)))
                (GT.leaf (SV.bool false)))
              (GT.leaf (SV.bool false))))
          (GT.br (ca a n b m == da a n b m && (cl a n b m == dl a n b m && true))
            (GT.br (ce a n b m == de a n b m)
              (GT.br (ca b m a n == da b m a n && (cl b m a n == dl b m a n && true))
                (GT.br (ce b m a n == de b m a n) (GT.leaf (SV.bool false)) (GT.leaf (SV.bool false)))
                (GT.leaf (SV.bool false)))
              (GT.leaf (SV.bool false)))
            (GT.leaf (SV.bool false))))
        (GT.br (cv a n b m == dv a n b m)
          (GT.br (cv b m a n == dv b m a n)
            (GT.br (cv a n a n == (0 : Int))
              (GT.br (ca a n b m == da a n b m && (cl a n b m == dl a n b m && true))
                (GT.br (ce a n b m == de a n b m)
                  (GT.br (ca b m a n == da b m a n && (cl b m a n == dl b m a n && true))
                    (GT.br (ce b m a n == de b m a n) (GT.leaf (SV.bool false)) (GT.leaf (SV.bool false)))
                    (GT.leaf (SV.bool false)))
                  (GT.leaf (SV.bool false)))
                (GT.leaf (SV.bool false)))
              (GT.br (ca a n b m == da a n b m && (cl a n b m == dl a n b m && true))
                (GT.br (ce a n b m == de a n b m)
                  (GT.br (ca b m a n == da b m a n && (cl b m a n == dl b m a n && true))
                    (GT.br (ce b m a n == de b m a n) (GT.leaf (SV.bool false)) (GT.leaf (SV.bool false)))
                    (GT.leaf (SV.bool false)))
                  (GT.leaf (SV.bool false)))
                (GT.leaf (SV.bool false))))
            (GT.br (ca a n b m == da a n b m && (cl a n b m == dl a n b m && true))
              (GT.br (ce a n b m == de a n b m)
                (GT.br (ca b m a n == da b m a n && (cl b m a n == dl b m a n && true))
                  (GT.br (ce b m a n == de b m a n) (GT.leaf (SV.bool false)) (GT.leaf (SV.bool false)))
                  (GT.leaf (SV.bool false)))
                (GT.leaf (SV.bool false)))
              (GT.leaf (SV.bool false))))
          (GT.br (ca a n b m == da a n b m && (cl a n b m == dl a n b m && true))
            (GT.br (ce a n b m == de a n b m)
              (GT.br (ca b m a n == da b m a n && (cl b m a n == dl b m a n && true))
                (GT.br (ce b m a n == de b m a n) (GT.leaf (SV.bool false)) (GT.leaf (SV.bool false)))
                (GT.leaf (SV.bool false)))
              (GT.leaf (SV.bool false)))
            (GT.leaf (SV.bool false)))))
      (GT.br (cv a n b m == dv a n b m)
        (GT.br (cv b m a n == dv b m a n)
          (GT.br (cv a n a n == (0 : Int))
            (GT.br (ca a n b m == da a n b m && (cl a n b m == dl a n b m && true))
              (GT.br (ce a n b m == de a n b m)
                (GT.br (ca b m a n == da b m a n && (cl b m a n == dl b m a n && true))
                  (GT.br (ce b m a n == de b m a n) (GT.leaf (SV.bool false)) (GT.leaf (SV.bool false)))
                  (GT.leaf (SV.bool false)))
                (GT.leaf (SV.bool false)))
              (GT.leaf (SV.bool false)))
            (GT.br (ca a n b m == da a n b m && (cl a n b m == dl a n b m && true))
              (GT.br (ce a n b m == de a n b m)
                (GT.br (ca b m a n == da b m a n && (cl b m a n == dl b m a n && true))
                  (GT.br (ce b m a n == de b m a n) (GT.leaf (SV.bool false)) (GT.leaf (SV.bool false)))
                  (GT.leaf (SV.bool false)))
                (GT.leaf (SV.bool false)))
              (GT.leaf (SV.bool false))))
          (GT.br (ca a n b m == da a n b m && (cl a n b m == dl a n b m && true))
            (GT.br (ce a n b m == de a n b m)
              (GT.br (ca b m a n == da b m a n && (cl b m a n == dl b m a n && true))
                (GT.br (ce b m a n == de b m a n) (GT.leaf (SV.bool false)) (GT.leaf (SV.bool false)))
                (GT.leaf (SV.bool false)))
              (GT.leaf (SV.bool false)))
            (GT.leaf (SV.bool false))))
        (GT.br (ca a n b m == da a n b m && (cl a n b m == dl a n b m && true))
          (GT.br (ce a n b m == de a n b m)
            (GT.br (ca b m a n == da b m a n && (cl b m a n == dl b m a n && true))
              (GT.br (ce b m a n == de b m a n) (GT.leaf (SV.bool false)) (GT.leaf (SV.bool false)))
              (GT.leaf (SV.bool false)))
            (GT.leaf (SV.bool false)))
          (GT.leaf (SV.bool false)))))
    (GT.br (cv a n b m == dv a n b m)
      (GT.br (cv b m a n == dv b m a n)
        (GT.br (cv a n a n == (0 : Int))
          (GT.br (ca a n b m == da a n b m && (cl a n b m == dl a n b m && true))
            (GT.br (ce a n b m == de a n b m)
              (GT.br (ca b m a n == da b m a n && (cl b m a n == dl b m a n && true))
                (GT.br (ce b m a n == de b m a n) (GT.leaf (SV.bool false)) (GT.leaf (SV.bool false)))
                (GT.leaf (SV.bool false)))
              (GT.leaf (SV.bool false)))
            (GT.leaf (SV.bool false)))
          (GT.br (ca a n b m == da a n b m && (cl a n b m == dl a n b m && true))
            (GT.br (ce a n b m == de a n b m)
              (GT.br (ca b m a n == da b m a n && (cl b m a n == dl b m a n && true))
                (GT.br (ce b m a n == de b m a n) (GT.leaf (SV.bool false)) (GT.leaf (SV.bool false)))
                (GT.leaf (SV.bool false)))
              (GT.leaf (SV.bool false)))
            (GT.leaf (SV.bool false))))
        (GT.br (ca a n b m == da a n b m && (cl a n b m == dl a n b m && true))
          (GT.br (ce a n b m == de a n b m)
            (GT.br (ca b m a n == da b m a n && (cl b m a n == dl b m a n && true))
              (GT.br (ce b m a n == de b m a n) (GT.leaf (SV.bool false)) (GT.leaf (SV.bool false)))
              (GT.leaf (SV.bool false)))
            (GT.leaf (SV.bool false)))
          (GT.leaf (SV.bool false))))
      (GT.br (ca a n b m == da a n b m && (cl a n b m == dl a n b m && true))
        (GT.br (ce a n b m == de a n b m)
          (GT.br (ca b m a n == da b m a n && (cl b m a n == dl b m a n && true))
            (GT.br (ce b m a n == de b m a n) (GT.leaf (SV.bool false)) (GT.leaf (SV.bool false)))
            (GT.leaf (SV.bool false)))
          (GT.leaf (SV.bool false)))
        (GT.leaf (SV.bool false))))
theorem e_pairs (ck cr : I2 Int) (oa ra : I2 Int) (on oe : Int → Int) (rl rh : I2 Int) (sl sh : I2 Int) (hs hr : I3 Bool) (hla hln hha he : I2 Int) (rla rln rha re : I2 Int) (wi wr : I4 Bool) (ca cl ce : I4 Int) (da dl de : I4 Int) (cv dv : I4 Int) (a n b m : Int) : ev (Glaw ck cr oa ra on oe rl rh sl sh hs hr hla hln hha he rla rln rha re wi wr ca cl ce da dl de cv dv) 1 8 [px a n, px b m] = (T_pairs ck cr oa ra on oe rl rh sl sh hs hr hla hln hha he rla rln rha re wi wr ca cl ce da dl de cv dv a n b m).opt := by kernel_rfl
end Go.Sx.Mk


/- Layer 2: plain laws: Within, Common, Compare. -/
namespace Go.Sx.Mk
open Go.RowKit
theorem len8 : ∀ z : Nat, z < 256 → ∃ l : Nat, strAt8 (z : Int) = (l : Int) ∧ l ≤ 8 ∧ ∀ j, j ≤ 8 → (z < 2 ^ j ↔ l ≤ j) := by
  intro z hz
  have key : (List.range 256).all (fun z => decide (0 ≤ strAt8 (Int.ofNat z) ∧ strAt8 (Int.ofNat z) ≤ 8) && (List.range 9).all fun j => decide (z < 2 ^ j) == decide (strAt8 (Int.ofNat z) ≤ Int.ofNat j)) = true := by kernel_rfl
  have h := List.all_eq_true.1 key z (by simpa using hz)
  rw [Bool.and_eq_true] at h
  have h1 := of_decide_eq_true h.1
  obtain ⟨l, hl, hl2⟩ := nat_of (n := strAt8 (Int.ofNat z)) (b := 9) (by omega)
  refine ⟨l, hl, by omega, fun j hj => ?_⟩
  have h2 := List.all_eq_true.1 h.2 j (by simp; omega)
  rw [hl] at h2
  have h3 : decide (z < 2 ^ j) = decide ((l : Int) ≤ Int.ofNat j) := eq_of_beq h2
  have h4 : ((l : Int) ≤ Int.ofNat j) ↔ l ≤ j := by show (l : Int) ≤ (j : Int) ↔ _; omega
  rw [← h4]
  exact decide_eq_decide.1 h3
theorem blen {x s : Nat} (hz : x / 2 ^ s < 256) (hs : s ≤ 24) (h1 : s = 0 ∨ 1 ≤ x / 2 ^ s) : ∃ l : Nat, strAt8 ((x / 2 ^ s : Nat) : Int) = (l : Int) ∧ l ≤ 8 ∧ ∀ t, t ≤ 32 → (x < 2 ^ t ↔ s + l ≤ t) := by
  obtain ⟨l, e, h8, hj⟩ := len8 _ hz
  refine ⟨l, e, h8, fun t ht => ?_⟩
  by_cases hts : t < s
  · have hz1 : 1 ≤ x / 2 ^ s := by rcases h1 with h | h <;> omega
    have h0 := (hj 0 (by omega))
    have hx : 2 ^ s ≤ x := by
      have := Nat.div_mul_le_self x (2 ^ s)
      have h2 : 2 ^ s * 1 ≤ x / 2 ^ s * 2 ^ s := by rw [Nat.mul_comm]; exact Nat.mul_le_mul_right _ hz1
      omega
    have hlt : 2 ^ t ≤ 2 ^ s := Nat.pow_le_pow_right (by omega) (by omega)
    constructor
    · intro h; omega
    · intro h; omega
  · have e2 : 2 ^ t = 2 ^ (t - s) * 2 ^ s := by rw [← Nat.pow_add]; congr 1; omega
    rw [e2, ← Nat.div_lt_iff_lt_mul (Nat.two_pow_pos s)]
    by_cases h8t : t - s ≤ 8
    · rw [hj _ h8t]; omega
    · have : 2 ^ 8 ≤ 2 ^ (t - s) := Nat.pow_le_pow_right (by omega) (by omega)
      constructor
      · intro _; omega
      · intro _; omega
theorem fdiv_nat (x d : Nat) : ((x : Int)).fdiv (d : Int) = ((x / d : Nat) : Int) := by
  rw [Int.fdiv_eq_ediv_of_nonneg _ (by omega)]
  exact_mod_cast rfl
theorem tabV_nat {z l : Nat} (hz : z < 256) (h : strAt8 (z : Int) = (l : Int)) (hl : l ≤ 8) : tabV (z : Int) = (l : Int) := by
  unfold tabV
  rw [wrap_u8 (by omega) (by omega), h, wrap_i64 (by omega) (by omega)]
theorem lz_prop {x : Nat} (hx : x < T32) : ∃ L : Nat, lzV x = (L : Int) ∧ L ≤ 32 ∧ ∀ k, k ≤ 32 → (k ≤ L ↔ x < 2 ^ (32 - k)) := by
  unfold T32 at hx
  have fin : ∀ (s l : Nat), s + l ≤ 32 → (∀ t, t ≤ 32 → (x < 2 ^ t ↔ s + l ≤ t)) → ∃ L : Nat, IntKind.wrap .i64 (32 - IntKind.wrap .i64 ((s : Int) + (l : Int))) = (L : Int) ∧ L ≤ 32 ∧ ∀ k, k ≤ 32 → (k ≤ L ↔ x < 2 ^ (32 - k)) := by
    intro s l hsl h
    refine ⟨32 - (s + l), ?_, by omega, fun k hk => ?_⟩
    · rw [wrap_i64 (n := (s : Int) + (l : Int)) (by omega) (by omega), wrap_i64 (by omega) (by omega)]; omega
    · rw [h _ (by omega)]; omega
  unfold lzV
  have d1 : ((x : Int)).fdiv 65536 = ((x / 65536 : Nat) : Int) := fdiv_nat x 65536
  have d2 : ((x : Int)).fdiv 256 = ((x / 256 : Nat) : Int) := fdiv_nat x 256
  rw [d1, d2]
  have d3 : (((x / 65536 : Nat) : Int)).fdiv 256 = ((x / 65536 / 256 : Nat) : Int) := fdiv_nat _ 256
  rw [d3]
  by_cases h1 : (65536 : Int) ≤ x
  · rw [decide_eq_true h1]
    by_cases h2 : (256 : Int) ≤ ((x / 65536 : Nat) : Int)
    · rw [decide_eq_true h2]
      have e : x / 65536 / 256 = x / 2 ^ 24 := by rw [Nat.div_div_eq_div_mul]
      rw [e]
      obtain ⟨l, g1, g2, g3⟩ := blen (x := x) (s := 24) (by omega) (by omega) (by right; omega)
      have := fin 24 l (by omega) g3
      rw [← tabV_nat (by omega) g1 g2] at this
      exact this
    · rw [decide_eq_false h2]
      have e : x / 65536 = x / 2 ^ 16 := rfl
      rw [e] at h2 ⊢
      obtain ⟨l, g1, g2, g3⟩ := blen (x := x) (s := 16) (by omega) (by omega) (by right; omega)
      have := fin 16 l (by omega) g3
      rw [← tabV_nat (by omega) g1 g2] at this
      exact this
  · rw [decide_eq_false h1]
    by_cases h2 : (256 : Int) ≤ x
    · rw [decide_eq_true h2]
      have e : x / 256 = x / 2 ^ 8 := rfl
      rw [e]
      obtain ⟨l, g1, g2, g3⟩ := blen (x := x) (s := 8) (by omega) (by omega) (by right; omega)
      have := fin 8 l (by omega) g3
      rw [← tabV_nat (by omega) g1 g2] at this
      exact this
    · rw [decide_eq_false h2]
      obtain ⟨l, g1, g2, g3⟩ := blen (x := x) (s := 0) (by simp; omega) (by omega) (by left; rfl)
      have := fin 0 l (by omega) g3
      have e : x / 2 ^ 0 = x := by simp
      rw [e] at g1
      rw [← tabV_nat (by omega) g1 g2] at this
      exact this
theorem xor_lt_iff {a b K : Nat} (ha : a < T32) (hb : b < T32) (hK : K ≤ 32) : a ^^^ b < 2 ^ K ↔ a / 2 ^ K = b / 2 ^ K := by
  rw [div_eq_iff_bits ha hb hK]
  constructor
  · intro h j _
    have := Nat.testBit_lt_two_pow (Nat.lt_of_lt_of_le h (Nat.pow_le_pow_right (n := 2) (by omega) (show K ≤ K + j by omega)))
    rw [Nat.testBit_xor] at this
    revert this
    cases a.testBit (K + j) <;> cases b.testBit (K + j) <;> simp
  · intro h
    refine Nat.lt_pow_two_of_testBit _ fun i hi => ?_
    rw [Nat.testBit_xor]
    by_cases h32 : i < 32
    · have := h (i - K) (by omega)
      rw [show K + (i - K) = i by omega] at this
      rw [this]; simp
    · have e : ∀ y, y < T32 → y.testBit i = false := fun y hy => Nat.testBit_lt_two_pow (Nat.lt_of_lt_of_le hy (by
        have : 2 ^ 32 ≤ 2 ^ i := Nat.pow_le_pow_right (by omega) (by omega)
        unfold T32; omega))
      rw [e a ha, e b hb]; rfl
theorem wi_eq {a b : Nat} (ha : a < T32) (hb : b < T32) (n m : Int) : wiP a n b m = wiR a n b m := by
  unfold wiP wiR
  rw [hasP_eq hb ha, chk_eq ha]
  cases h : (chkR a n == 0) with
  | false => rfl
  | true =>
    unfold hasR
    cases h2 : (chkR b m != 0) with
    | true =>
      have : (chkR b m == 0) = false := by simpa using h2
      rw [this]; simp [sure]
    | false =>
      have : (chkR b m == 0) = true := by simpa using h2
      rw [this]; simp [sure]
theorem cmp_eq (a n b m : Int) : cmpPV a n b m = rcmpV a n b m := by
  unfold cmpPV rcmpV orV cmpV
  by_cases h1 : a < b
  · rw [decide_eq_true h1]; rfl
  · rw [decide_eq_false h1]
    by_cases h2 : b < a
    · have e : (a == b) = false := by rw [beq_eq_false_iff_ne]; omega
      rw [decide_eq_true h2, e]; rfl
    · have e : (a == b) = true := by rw [beq_iff_eq]; omega
      rw [decide_eq_false h2, e]
      by_cases h3 : n < m
      · rw [decide_eq_true h3]; rfl
      · rw [decide_eq_false h3]
        by_cases h4 : m < n
        · have e : (n == m) = false := by rw [beq_eq_false_iff_ne]; omega
          rw [decide_eq_true h4, e]; rfl
        · have e : (n == m) = true := by rw [beq_iff_eq]; omega
          rw [decide_eq_false h4, e]; rfl
theorem cmp_self (a n : Int) : cmpPV a n a n = 0 := by
  rw [cmp_eq]; unfold rcmpV
  rw [decide_eq_false (by omega), decide_eq_false (by omega)]
  simp [sure]
theorem chk_cut {a k : Nat} (ha : a < T32) (hk : k ≤ 32) : a / 2 ^ (32 - k) * 2 ^ (32 - k) < T32 ∧ chkR ((a / 2 ^ (32 - k) * 2 ^ (32 - k) : Nat) : Int) k = 0 := by
  have hlt : a / 2 ^ (32 - k) * 2 ^ (32 - k) < T32 := Nat.lt_of_le_of_lt (Nat.div_mul_le_self a (2 ^ (32 - k))) ha
  refine ⟨hlt, ?_⟩
  rw [chkR_eq hlt]
  unfold chkS
  rw [if_pos (by omega), Int.toNat_natCast, Nat.mul_mod_left, if_pos rfl]
theorem ofN_nat {k : Nat} (hk : k ≤ 32) : ofN k = (k : Int) := by
  unfold ofN badN
  rw [decide_eq_false (by omega), decide_eq_false (by omega)]; rfl
theorem wiR_cut {a b m k : Nat} (ha : a < T32) (hb : b < T32) (hk : k ≤ 32) (hcb : chkR b m = 0) : wiR b m (rofA a k) (ofN k) = (decide (k ≤ m) && decide (a / 2 ^ (32 - k) = b / 2 ^ (32 - k))) := by
  obtain ⟨c1, c2⟩ := chk_cut ha hk
  rw [← ofA_eq ha, ofA_nat ha hk, ofN_nat hk]
  unfold wiR hasR
  rw [hcb, c2, likeV_eq c1 hb hk, Nat.mul_div_cancel _ (Nat.two_pow_pos _)]
  have e : decide ((k : Int) ≤ (m : Int)) = decide (k ≤ m) := decide_eq_decide.2 (by omega)
  rw [e]; rfl
theorem cmF_eq {a b n m N : Nat} (hN : N ≤ 32) (h : ∀ k : Nat, k ≤ 32 → (wiR a n (rofA a k) (ofN k) && wiR b m (rofA a k) (ofN k)) = decide (k ≤ N)) : ∀ k : Nat, k ≤ 32 → cmF rofA ofN wiR a n b m k = if min k N = 0 then none else some (min k N)
  | 0, _ => by simp [cmF]
  | k + 1, hk => by
    unfold cmF
    rw [h (k + 1) hk, cmF_eq hN h k (by omega)]
    by_cases hkN : k + 1 ≤ N
    · rw [decide_eq_true hkN, Nat.min_eq_left hkN]; simp
    · rw [decide_eq_false hkN]
      have e1 : min (k + 1) N = N := by omega
      have e2 : min k N = N := by omega
      rw [e1, e2]
theorem imin_nat (a b : Nat) : imin (a : Int) (b : Int) = ((min a b : Nat) : Int) := by
  unfold imin
  split <;> omega
theorem common_eq {a b : Nat} (ha : a < T32) (hb : b < T32) (n m : Int) : cmA a n b m = rcmA a n b m ∧ cmL a n b m = rcmL a n b m ∧ cmE a n b m = rcmE a n b m := by
  unfold cmA rcmA cmL rcmL cmE rcmE
  rw [chk_eq ha, chk_eq hb]
  by_cases h1 : chkR a n = 0
  · by_cases h2 : chkR b m = 0
    · obtain ⟨n, rfl, hn, _⟩ := chkS_zero ((chkR_eq ha n).symm.trans h1)
      obtain ⟨m, rfl, hm, _⟩ := chkS_zero ((chkR_eq hb m).symm.trans h2)
      have hxor : a ^^^ b < T32 := Nat.xor_lt_two_pow (n := 32) ha hb
      obtain ⟨L, e1, e2, e3⟩ := lz_prop hxor
      have hcm : cmN a n b m = ((min (min n m) L : Nat) : Int) := by
        unfold cmN
        rw [b32_xor ha hb, e1, imin_nat, imin_nat]
      have hw : ∀ k : Nat, k ≤ 32 → (wiR a n (rofA a k) (ofN k) && wiR b m (rofA a k) (ofN k)) = decide (k ≤ min (min n m) L) := by
        intro k hk
        rw [wiR_cut ha ha hk h1, wiR_cut ha hb hk h2, decide_eq_true (rfl : a / 2 ^ (32 - k) = a / 2 ^ (32 - k)), Bool.and_true]
        have := e3 k hk
        rw [xor_lt_iff ha hb (by omega)] at this
        by_cases c1 : k ≤ n <;> by_cases c2 : k ≤ m <;> by_cases c3 : k ≤ L <;> simp [c1, c2, c3, this.1, ← this] <;> omega
      have hF := cmF_eq (by omega) hw 32 (by omega)
      have hmin : min 32 (min (min n m) L) = min (min n m) L := by omega
      rw [hmin] at hF
      rw [h1, h2, hcm]
      unfold cmS cmRA cmRN cmO
      rw [hF]
      have hN : min (min n m) L ≤ 32 := by omega
      clear hcm hmin hw
      generalize min (min n m) L = N at hN hF ⊢
      by_cases h0 : N = 0
      · subst h0
        rw [if_pos rfl]
        have : a / 2 ^ 32 = 0 := Nat.div_eq_of_lt ha
        have e : ofA a ((0 : Nat) : Int) = 0 := by rw [ofA_nat ha (by omega), this]; simp
        refine ⟨?_, rfl, rfl⟩
        show ofA a ((0 : Nat) : Int) = 0
        exact e
      · rw [if_neg h0]
        refine ⟨?_, ?_, ?_⟩
        · exact ofA_eq ha N
        · rfl
        · show ofE (N : Int) = 0
          unfold ofE badN
          rw [decide_eq_false (by omega), decide_eq_false (by omega)]; rfl
    · have e : (chkR b m != 0) = true := by simpa using h2
      rw [h1, e]; exact ⟨rfl, rfl, rfl⟩
  · have e : (chkR a n != 0) = true := by simpa using h1
    rw [e]; exact ⟨rfl, rfl, rfl⟩
theorem pairs {a b : Nat} (ha : a < T32) (hb : b < T32) (n m : Int) : (T_pairs chkP chkR ofA rofA ofN ofE runLo runHi rrunLo rrunHi hasP hasR hlA hlN hhA hE rhlA rhN rhhA rhE wiP wiR cmA cmL cmE rcmA rcmL rcmE cmpPV rcmpV a n b m).opt = some (.bool true) := by
  obtain ⟨c1, c2, c3⟩ := common_eq ha hb n m
  obtain ⟨d1, d2, d3⟩ := common_eq hb ha m n
  unfold T_pairs
  rw [wi_eq ha hb, wi_eq hb ha, wi_eq ha ha, cmp_eq a n b m, cmp_eq b m a n, cmp_self, c1, c2, c3, d1, d2, d3]
  simp only [BEq.rfl, Bool.and_true]
  rfl
noncomputable def evPairs (svs : List SV) : Option SV := ev (Glaw chkP chkR ofA rofA ofN ofE runLo runHi rrunLo rrunHi hasP hasR hlA hlN hhA hE rhlA rhN rhhA rhE wiP wiR cmA cmL cmE rcmA rcmL rcmE cmpPV rcmpV) 1 8 svs
theorem LPairs.summ : Summ Go.Proofs.Try.prog 8 evPairs := evFn_summ (facts Glaw_ok) 1 8
theorem LPairs.ok (a n b m : Int) (ha : U32 a) (hn : I64 n) (hb : U32 b) (hm : I64 m) : evPairs [px a n, px b m] = some (.bool true) := by
  obtain ⟨a, rfl, ha'⟩ := u32_nat ha
  obtain ⟨b, rfl, hb'⟩ := u32_nat hb
  exact (e_pairs chkP chkR ofA rofA ofN ofE runLo runHi rrunLo rrunHi hasP hasR hlA hlN hhA hE rhlA rhN rhhA rhE wiP wiR cmA cmL cmE rcmA rcmL rcmE cmpPV rcmpV a n b m).trans (pairs ha' hb' n m)
end Go.Sx.Mk


/- Layer 2, by value: Less of the program. -/
namespace Go.Sx.Mk
open Go.Proofs Go.RowKit
def Gls (cr : Int → Int) (ck : I2 Int) (wi : I4 Bool) : FuncId → Option (List SV → GT SV)
  | 33 => some (sgI fun n => .when (decide (0 ≤ n ∧ n ≤ 32)) (.leaf (.int .u32 (cr n))))
  | 26 => some (sgP fun a n => .leaf (.int .i64 (ck a n)))
  | 17 => some (sgPP fun a n b m => .leaf (.bool (wi a n b m)))
  | _ => none
theorem Gls_ok : ∀ g s, Gls careV chkP wiP g = some s → SummT Try.prog g s := fun g s h => by
  unfold Gls at h
  split at h
  · cases h; exact S_care
  · cases h; exact S_check
  · cases h; exact S_within
  · cases h
noncomputable def bodyla : Code := bodyOf 10 [0,1,0,1,1,1]
def livela : List (Nat × Option (List CK)) := [(3, none), (5, some ([.i .u32, .i .i64])), (6, some ([.i .u32, .i .i64])), (7, none)]
def outla : List (Nat × Option (List CK)) := [(5, some ([.i .u32, .i .i64])), (6, some ([.i .u32, .i .i64]))]
def mkla (b : Int) (m : Int) (lo : List Row) (hi : List Row) (k : Int) : St := ⟨sel 81 [3, 5, 6, 7] [.ptr 0 0, .vw 1, .vw 2, .int .i64 k], [.cells [.int .u32 b, .int .i64 m], .vec true [.i .u32, .i .i64] lo none, .vec true [.i .u32, .i .i64] hi none]⟩
def finla (lo : List Row) (hi : List Row) : St := ⟨sel 81 [5, 6] [.vw 0, .vw 1], [.vec true [.i .u32, .i .i64] lo none, .vec true [.i .u32, .i .i64] hi none]⟩
structure Xla where
  b : Int
  m : Int
  lo : List Row
  hi : List Row
  k : Int
def Xla.st (x : Xla) : St := mkla x.b x.m x.lo x.hi x.k
def pickla : List SV → List Blk → Option Xla
  | [.ptr 0 0, .vw 1, .vw 2, .int .i64 k], [.cells [.int .u32 b, .int .i64 m], .vec true [.i .u32, .i .i64] lo none, .vec true [.i .u32, .i .i64] hi none] => some ⟨b, m, lo, hi, k⟩
  | _, _ => none
theorem pickla_ok : ∀ vals mem x, pickla vals mem = some x → x.st = ⟨sel 81 [3, 5, 6, 7] vals, mem⟩ := by
  intro vals mem x h
  unfold pickla at h
  split at h
  · cases h; rfl
  · cases h
theorem step_la (cr : Int → Int) (ck : I2 Int) (wi : I4 Bool) (again : St → Option (E × St)) (b m : Int) (lo hi : List Row) (k : Int) : step Try.prog (Gls cr ck wi) ents [] 1 bodyla livela outla again (mkla b m lo hi k) = sure (decide (k ≤ m))
    (sure (decide (IntKind.i64.wrap ((32 : Int) - k) < (0 : Int))) none
      (sure (decide ((0 : Int) ≤ k ∧ k ≤ (32 : Int)))
        (sure
          (decide
            (bits BinOp.xor IntKind.u32 (bits BinOp.and IntKind.u32 b (cr k))
                (IntKind.u32.wrap ((1 : Int) * (2 : Int) ^ min (IntKind.i64.wrap ((32 : Int) - k)).toNat (32 : Nat))) <
              b))
          (sure (decide (lo.length + (1 : Nat) < (4000000000 : Nat)))
            (again
              (mkla b m
                (lo ++
                  [[bits BinOp.xor IntKind.u32 (bits BinOp.and IntKind.u32 b (cr k))
                        (IntKind.u32.wrap
                          ((1 : Int) * (2 : Int) ^ min (IntKind.i64.wrap ((32 : Int) - k)).toNat (32 : Nat))),
                      k]])
                hi (IntKind.i64.wrap (k + (1 : Int)))))
            none)
          (sure (decide (hi.length + (1 : Nat) < (4000000000 : Nat)))
            (again
              (mkla b m lo
                (hi ++
                  [[bits BinOp.xor IntKind.u32 (bits BinOp.and IntKind.u32 b (cr k))
                        (IntKind.u32.wrap
                          ((1 : Int) * (2 : Int) ^ min (IntKind.i64.wrap ((32 : Int) - k)).toNat (32 : Nat))),
                      k]])
                (IntKind.i64.wrap (k + (1 : Int)))))
            none))
        none))
    (some (E.brk (1 : Nat), finla lo hi)) := by kernel_rfl
noncomputable def bodylb : Code := bodyOf 10 [0,1,0,1,1,1,1]
def livelb : List (Nat × Option (List CK)) := [(5, some ([.i .u32, .i .i64])), (6, some ([.i .u32, .i .i64])), (10, none)]
def outlb : List (Nat × Option (List CK)) := [(5, some ([.i .u32, .i .i64]))]
def mklb (lo : List Row) (hi : List Row) (k : Int) : St := ⟨sel 81 [5, 6, 10] [.vw 0, .vw 1, .int .i64 k], [.vec true [.i .u32, .i .i64] lo none, .vec true [.i .u32, .i .i64] hi none]⟩
def finlb (lo : List Row) : St := ⟨sel 81 [5] [.vw 0], [.vec true [.i .u32, .i .i64] lo none]⟩
structure Xlb where
  lo : List Row
  hi : List Row
  k : Int
def Xlb.st (x : Xlb) : St := mklb x.lo x.hi x.k
def picklb : List SV → List Blk → Option Xlb
  | [.vw 0, .vw 1, .int .i64 k], [.vec true [.i .u32, .i .i64] lo none, .vec true [.i .u32, .i .i64] hi none] => some ⟨lo, hi, k⟩
  | _, _ => none
theorem picklb_ok : ∀ vals mem x, picklb vals mem = some x → x.st = ⟨sel 81 [5, 6, 10] vals, mem⟩ := by
  intro vals mem x h
  unfold picklb at h
  split at h
  · cases h; rfl
  · cases h
theorem step_lb (cr : Int → Int) (ck : I2 Int) (wi : I4 Bool) (again : St → Option (E × St)) (lo hi : List Row) (k : Int) : step Try.prog (Gls cr ck wi) ents [] 1 bodylb livelb outlb again (mklb lo hi k) = sure (decide ((0 : Int) ≤ k))
    (sure (decide ((0 : Int) ≤ k ∧ k < (↑hi.length : Int)))
      (sure (decide (lo.length + (1 : Nat) < (4000000000 : Nat)))
        (again
          (mklb
            (lo ++
              [[List.getD (hi.getD k.toNat []) (0 : Nat) (0 : Int),
                  List.getD (hi.getD k.toNat []) ((0 : Nat) + (1 : Nat)) (0 : Int)]])
            hi (IntKind.i64.wrap (k - (1 : Int)))))
        none)
      none)
    (some (E.brk (3 : Nat), finlb lo)) := by kernel_rfl
def bitP (k : Int) : Int := IntKind.wrap .u32 (1 * 2 ^ min (IntKind.wrap .i64 (32 - k)).toNat 32)
/-- the address of a piece -/
def qA (cr : Int → Int) (b k : Int) : Int := Go.bits .xor .u32 (Go.bits .and .u32 b (cr k)) (bitP k)
def lowF (cr : Int → Int) (b m : Int) : Nat → List Row
  | 0 => []
  | r + 1 => match decide (qA cr b (m - r) < b) with
    | true => [qA cr b (m - r), m - r] :: lowF cr b m r
    | false => lowF cr b m r
def higF (cr : Int → Int) (b m : Int) : Nat → List Row
  | 0 => []
  | r + 1 => match decide (qA cr b (m - r) < b) with
    | true => higF cr b m r
    | false => [qA cr b (m - r), m - r] :: higF cr b m r
theorem run_la (cr : Int → Int) (ck : I2 Int) (wi : I4 Bool) (b m : Int) (hm : 0 ≤ m ∧ m ≤ 32) : ∀ (r : Nat) (lo hi : List Row), (r : Int) ≤ m + 1 → lo.length + r ≤ 100 → hi.length + r ≤ 100 →
    loopN (step Try.prog (Gls cr ck wi) ents [] 1 bodyla livela outla) (r + 1) (mkla b m lo hi (m + 1 - (r : Nat))) = some (.brk 1, finla (lo ++ lowF cr b m r) (hi ++ higF cr b m r))
  | 0, lo, hi, _, _, _ => by
    show step _ _ _ _ _ _ _ _ _ _ = _
    rw [step_la]
    have h : decide (m + 1 - ((0 : Nat) : Int) ≤ m) = false := decide_eq_false (by omega)
    rw [h]
    simp [lowF, higF, sure]
  | r + 1, lo, hi, hr, h1, h2 => by
    show step _ _ _ _ _ _ _ _ (loopN _ (r + 1)) _ = _
    have ek : m + 1 - ((r + 1 : Nat) : Int) = m - (r : Int) := by omega
    rw [ek, step_la]
    have g1 : decide (m - (r : Int) ≤ m) = true := decide_eq_true (by omega)
    have g2 : decide (IntKind.wrap .i64 (32 - (m - (r : Int))) < 0) = false := decide_eq_false (by rw [wrap_i64 (by omega) (by omega)]; omega)
    have g3 : decide (0 ≤ m - (r : Int) ∧ m - (r : Int) ≤ 32) = true := decide_eq_true (by omega)
    have g4 : decide (lo.length + 1 < 4000000000) = true := decide_eq_true (by omega)
    have g5 : decide (hi.length + 1 < 4000000000) = true := decide_eq_true (by omega)
    have hw : IntKind.wrap .i64 (m - (r : Int) + 1) = m + 1 - (r : Int) := by rw [wrap_i64 (by omega) (by omega)]; omega
    have hq : Go.bits .xor .u32 (Go.bits .and .u32 b (cr (m - (r : Int)))) (IntKind.wrap .u32 (1 * 2 ^ min (IntKind.wrap .i64 (32 - (m - (r : Int)))).toNat 32)) = qA cr b (m - (r : Int)) := rfl
    have ih := fun lo hi h1 h2 => run_la cr ck wi b m hm r lo hi (by omega) h1 h2
    rw [hq, hw]
    simp only [g1, g2, g3, g4, g5, lowF, higF]
    rcases Bool.eq_false_or_eq_true (decide (qA cr b (m - (r : Int)) < b)) with hb | hb
    · simp only [hb, sure]
      exact (ih _ _ (by simp; omega) (by omega)).trans (by simp)
    · simp only [hb, sure]
      exact (ih _ _ (by omega) (by simp; omega)).trans (by simp)
def pair2 (r : Row) : Row := [r.getD 0 0, r.getD 1 0]
theorem run_lb (cr : Int → Int) (ck : I2 Int) (wi : I4 Bool) (hi : List Row) : ∀ (k : Nat) (lo : List Row), k ≤ hi.length → hi.length ≤ 100 → lo.length + k ≤ 300 →
    loopN (step Try.prog (Gls cr ck wi) ents [] 1 bodylb livelb outlb) (k + 1) (mklb lo hi ((k : Int) - 1)) = some (.brk 3, finlb (lo ++ ((hi.take k).map pair2).reverse))
  | 0, lo, _, _, _ => by
    show step _ _ _ _ _ _ _ _ _ _ = _
    rw [step_lb]
    simp [sure]
  | k + 1, lo, hk, hh, hl => by
    show step _ _ _ _ _ _ _ _ (loopN _ (k + 1)) _ = _
    have ek : ((k + 1 : Nat) : Int) - 1 = (k : Int) := by omega
    rw [ek, step_lb]
    have g1 : decide ((0 : Int) ≤ (k : Int)) = true := decide_eq_true (by omega)
    have g2 : decide ((0 : Int) ≤ (k : Int) ∧ (k : Int) < (hi.length : Int)) = true := decide_eq_true (by omega)
    have g3 : decide (lo.length + 1 < 4000000000) = true := decide_eq_true (by omega)
    have hw : IntKind.wrap .i64 ((k : Int) - 1) = (k : Int) - 1 := wrap_i64 (by omega) (by omega)
    have ih := run_lb cr ck wi hi k (lo ++ [pair2 (hi.getD k [])]) (by omega) hh (by simp; omega)
    rw [hw]
    simp only [g1, g2, g3, sure, Int.toNat_natCast]
    refine ih.trans ?_
    have e : hi.take (k + 1) = hi.take k ++ [hi.getD k []] := by
      rw [List.take_succ_eq_append_getElem (by omega)]
      simp [List.getD_eq_getElem?_getD, show k < hi.length by omega]
    rw [e]
    simp
theorem lowF_len (cr : Int → Int) (b m : Int) : ∀ r : Nat, (lowF cr b m r).length ≤ r
  | 0 => Nat.le_refl _
  | r + 1 => by
    have ih := lowF_len cr b m r
    unfold lowF
    split
    · simp; omega
    · omega
theorem higF_len (cr : Int → Int) (b m : Int) : ∀ r : Nat, (higF cr b m r).length ≤ r
  | 0 => Nat.le_refl _
  | r + 1 => by
    have ih := higF_len cr b m r
    unfold higF
    split
    · omega
    · simp; omega
def lowV (b m k : Int) : List Row := lowF careV b m (m + 1 - k).toNat
def higV (b m k : Int) : List Row := higF careV b m (m + 1 - k).toNat
def okla (m k : Int) : Bool := decide (0 ≤ k ∧ k ≤ m + 1 ∧ 0 ≤ m ∧ m ≤ 32)
theorem loopla : LoopOK Try.prog bodyla (fun st => (sumT 81 [3, 5, 6, 7] pickla (fun x => .when (isNil x.lo && (isNil x.hi && okla x.m x.k)) (.leaf (.brk 1, finla (lowV x.b x.m x.k) (higV x.b x.m x.k)))) st).opt) := by
  refine loop_one (imp := []) (facts Gls_ok) 0 1 bodyla (lpOK_none _) livela outla 81 [3, 5, 6, 7] pickla Xla.st (fun x => isNil x.lo && (isNil x.hi && okla x.m x.k)) _ pickla_ok ?_
  intro x h1 _
  simp only [Bool.and_eq_true] at h1
  obtain ⟨hl, hh, hok⟩ := h1
  have hok' := of_decide_eq_true hok
  obtain ⟨r, hr⟩ := Int.eq_ofNat_of_zero_le (show 0 ≤ x.m + 1 - x.k by omega)
  have h5 := run_la careV chkP wiP x.b x.m (by omega) r x.lo x.hi (by omega) (by rw [isNil_eq hl]; simp; omega) (by rw [isNil_eq hh]; simp; omega)
  refine ⟨r + 1, ?_⟩
  unfold Xla.st lowV higV
  have e1 : x.m + 1 - (r : Int) = x.k := by omega
  have e2 : (x.m + 1 - x.k).toNat = r := by omega
  rw [e1] at h5
  rw [e2]
  rw [isNil_eq hl, isNil_eq hh] at h5 ⊢
  exact h5
def annla (lv hv : I3 (List Row)) : Ann := ⟨livela, 0, some (sumT 81 [3, 5, 6, 7] pickla (fun x => .when (isNil x.lo && (isNil x.hi && okla x.m x.k)) (.leaf (.brk 1, finla (lv x.b x.m x.k) (hv x.b x.m x.k)))))⟩
def oklb (lo hi : List Row) (k : Int) : Bool := decide (k = (hi.length : Int) - 1 ∧ hi.length ≤ 100 ∧ lo.length ≤ 100)
def revV (lo hi : List Row) : List Row := lo ++ (hi.map pair2).reverse
theorem looplb : LoopOK Try.prog bodylb (fun st => (sumT 81 [5, 6, 10] picklb (fun x => .when (oklb x.lo x.hi x.k) (.leaf (.brk 3, finlb (revV x.lo x.hi)))) st).opt) := by
  refine loop_one (imp := []) (facts Gls_ok) 0 1 bodylb (lpOK_none _) livelb outlb 81 [5, 6, 10] picklb Xlb.st (fun x => oklb x.lo x.hi x.k) _ picklb_ok ?_
  intro x h1 _
  obtain ⟨hk, hh, hl⟩ := of_decide_eq_true h1
  have h5 := run_lb careV chkP wiP x.hi x.hi.length x.lo (Nat.le_refl _) hh (by omega)
  refine ⟨x.hi.length + 1, ?_⟩
  unfold Xlb.st revV
  rw [hk]
  rw [List.take_length] at h5
  exact h5
def annlb (ok : List Row → List Row → Int → Bool) (rv : List Row → List Row → List Row) : Ann := ⟨livelb, 0, some (sumT 81 [5, 6, 10] picklb (fun x => .when (ok x.lo x.hi x.k) (.leaf (.brk 3, finlb (rv x.lo x.hi)))))⟩
noncomputable def T_less (cr : Int → Int) (ck : I2 Int) (wi : I4 Bool) (lv hv : I3 (List Row)) (ok : List Row → List Row → Int → Bool) (rv : List Row → List Row → List Row) (a n b m : Int) : GT SV := GT.br (ck a n != (0 : Int)) (GT.leaf (SV.rows [CK.i IntKind.u32, CK.i IntKind.i64] []))
    (GT.br (ck b m != (0 : Int)) (GT.leaf (SV.rows [CK.i IntKind.u32, CK.i IntKind.i64] []))
      (GT.br (wi a n b m) (GT.leaf (SV.rows [CK.i IntKind.u32, CK.i IntKind.i64] []))
        (GT.br (!wi b m a n) (GT.leaf (SV.rows [CK.i IntKind.u32, CK.i IntKind.i64] [[a, n]]))
          (GT.br
            (true &&
              (true &&
                decide
                  ((0 : Int) ≤ IntKind.i64.wrap (n + (1 : Int)) ∧
                    IntKind.i64.wrap (n + (1 : Int)) ≤ m + (1 : Int) ∧ (0 : Int) ≤ m ∧ m ≤ (32 : Int))))
            (GT.br
              (ok (lv b m (IntKind.i64.wrap (n + (1 : Int)))) (hv b m (IntKind.i64.wrap (n + (1 : Int))))
                (IntKind.i64.wrap ((↑(hv b m (IntKind.i64.wrap (n + (1 : Int)))).length : Int) - (1 : Int))))
              (GT.leaf
                (SV.rows [CK.i IntKind.u32, CK.i IntKind.i64]
                  (rv (lv b m (IntKind.i64.wrap (n + (1 : Int)))) (hv b m (IntKind.i64.wrap (n + (1 : Int)))))))
              GT.stop)
            GT.stop))))
theorem e_less (cr : Int → Int) (ck : I2 Int) (wi : I4 Bool) (lv hv : I3 (List Row)) (ok : List Row → List Row → Int → Bool) (rv : List Row → List Row → List Row) (a n b m : Int) : evFn Try.prog (Gls cr ck wi) ents [] (lpL [(10, [0, 1, 0, 1, 1, 1], annla lv hv), (10, [0, 1, 0, 1, 1, 1, 1], annlb ok rv)]) 1 10 [px a n, px b m] = (T_less cr ck wi lv hv ok rv a n b m).opt := by kernel_rfl
end Go.Sx.Mk


/- Layer 2, by value: Less of the program, what it answers; the law PrefixSplits. -/
namespace Go.Sx.Mk
open Go.Proofs Go.RowKit
def lessP (a n b m : Int) : List Row := sure (chkP a n != 0) [] (sure (chkP b m != 0) [] (sure (wiP a n b m) [] (sure (!wiP b m a n) [[a, n]] (revV (lowV b m (n + 1)) (higV b m (n + 1))))))
theorem at_two {f0 f1 : Nat} {p0 p1 : List Nat} {a0 a1 : Ann} (h : LpAt f0 p0 a0) (h' : LpAt f1 p1 a1) : ∀ x ∈ [(f0, p0, a0), (f1, p1, a1)], LpAt x.1 x.2.1 x.2.2 := by
  intro x hx
  rcases List.mem_cons.1 hx with rfl | hx
  · exact h
  · rw [List.mem_singleton] at hx; subst hx; exact h'
theorem S_less : SummT Try.prog 10 (sgPP fun a n b m => .leaf (.rows [.i .u32, .i .i64] (lessP a n b m))) := sgPP.summ (evFn_summ (factsL Gls_ok [(10, [0, 1, 0, 1, 1, 1], annla lowV higV), (10, [0, 1, 0, 1, 1, 1, 1], annlb oklb revV)] (at_two (fun s h => by cases h; exact loopla) (fun s h => by cases h; exact looplb))) 1 10) (fun a n b m sv h => by
  refine (e_less careV chkP wiP lowV higV oklb revV a n b m).trans (Eq.trans ?_ h)
  unfold T_less lessP
  cases h1 : (chkP a n != 0) with
  | true => rfl
  | false =>
    cases h2 : (chkP b m != 0) with
    | true => rfl
    | false =>
      cases h3 : wiP a n b m with
      | true => rfl
      | false =>
        cases h4 : wiP b m a n with
        | false => rfl
        | true =>
          have g1 := chkP_ok (ne_of h1 rfl)
          have g2 := chkP_ok (ne_of h2 rfl)
          have g3 : n ≤ m := by
            unfold wiP at h4
            simp only [Bool.and_eq_true, decide_eq_true_eq] at h4
            exact h4.2.1
          have hw : IntKind.wrap .i64 (n + 1) = n + 1 := wrap_i64 (by omega) (by omega)
          have hlen1 : (lowV b m (n + 1)).length ≤ 100 := Nat.le_trans (lowF_len _ _ _ _) (by omega)
          have hlen2 : (higV b m (n + 1)).length ≤ 100 := Nat.le_trans (higF_len _ _ _ _) (by omega)
          have hw2 : IntKind.wrap .i64 (((higV b m (n + 1)).length : Int) - 1) = ((higV b m (n + 1)).length : Int) - 1 := wrap_i64 (by omega) (by omega)
          have hok : oklb (lowV b m (n + 1)) (higV b m (n + 1)) (((higV b m (n + 1)).length : Int) - 1) = true := decide_eq_true ⟨rfl, hlen2, hlen1⟩
          rw [hw, hw2, hok, decide_eq_true (show 0 ≤ n + 1 ∧ n + 1 ≤ m + 1 ∧ 0 ≤ m ∧ m ≤ 32 by omega)]
          rfl)
def Gsp (ck cr : I2 Int) (hs : I3 Bool) (wi : I4 Bool) (cv : I4 Int) (ls : I4 (List Row)) : FuncId → Option (List SV → GT SV)
  | 14 => some (sg0 (.leaf (.bool true)))
  | 26 => some (sgP fun a n => .leaf (.int .i64 (ck a n)))
  | 15 => some (sgP fun a n => .leaf (.int .i64 (cr a n)))
  | 18 => some (sgPU fun a n x => .leaf (.bool (hs a n x)))
  | 17 => some (sgPP fun a n b m => .leaf (.bool (wi a n b m)))
  | 16 => some (sgPP fun a n b m => .leaf (.int .i64 (cv a n b m)))
  | 10 => some (sgPP fun a n b m => .leaf (.rows [.i .u32, .i .i64] (ls a n b m)))
  | _ => none
theorem Gsp_ok : ∀ g s, Gsp chkP chkR hasP wiP cmpPV lessP g = some s → SummT Try.prog g s := fun g s h => by
  unfold Gsp at h
  split at h
  · cases h; exact S_awake
  · cases h; exact S_check
  · cases h; exact S_rchk
  · cases h; exact S_has
  · cases h; exact S_within
  · cases h; exact S_cmp
  · cases h; exact S_less
  · cases h
noncomputable def bodysp : Code := bodyOf 4 [0,1,0,1,1,1,1]
def livesp : List (Nat × Option (List CK)) := [(2, none), (3, none), (4, none), (7, some ([.i .u32, .i .i64])), (8, none), (9, none)]
def outsp : List (Nat × Option (List CK)) := [(2, none), (3, none), (4, none), (6, none), (7, some ([.i .u32, .i .i64])), (8, none)]
def mksp (x : Int) (a : Int) (n : Int) (b : Int) (m : Int) (l : List Row) (c : Int) (i : Int) : St := ⟨sel 111 [2, 3, 4, 7, 8, 9] [.int .u32 x, .ptr 0 0, .ptr 1 0, .vw 2, .int .i64 c, .int .i64 i], [.cells [.int .u32 a, .int .i64 n], .cells [.int .u32 b, .int .i64 m], .vec true [.i .u32, .i .i64] l none]⟩
def finsp (x : Int) (a : Int) (n : Int) (b : Int) (m : Int) (l : List Row) (c : Int) (s : SV) : St := ⟨sel 111 [2, 3, 4, 6, 7, 8] [.int .u32 x, .ptr 0 0, .ptr 1 0, s, .vw 2, .int .i64 c], [.cells [.int .u32 a, .int .i64 n], .cells [.int .u32 b, .int .i64 m], .vec true [.i .u32, .i .i64] l none]⟩
structure Xsp where
  x : Int
  a : Int
  n : Int
  b : Int
  m : Int
  l : List Row
  c : Int
  i : Int
def Xsp.st (x : Xsp) : St := mksp x.x x.a x.n x.b x.m x.l x.c x.i
def picksp : List SV → List Blk → Option Xsp
  | [.int .u32 x, .ptr 0 0, .ptr 1 0, .vw 2, .int .i64 c, .int .i64 i], [.cells [.int .u32 a, .int .i64 n], .cells [.int .u32 b, .int .i64 m], .vec true [.i .u32, .i .i64] l none] => some ⟨x, a, n, b, m, l, c, i⟩
  | _, _ => none
theorem picksp_ok : ∀ vals mem x, picksp vals mem = some x → x.st = ⟨sel 111 [2, 3, 4, 7, 8, 9] vals, mem⟩ := by
  intro vals mem x h
  unfold picksp at h
  split at h
  · cases h; rfl
  · cases h
theorem step_sp (ck cr : I2 Int) (hs : I3 Bool) (wi : I4 Bool) (cv : I4 Int) (ls : I4 (List Row)) (again : St → Option (E × St)) (x a n b m : Int) (l : List Row) (c i : Int) : step Try.prog (Gsp ck cr hs wi cv ls) ents [] 1 bodysp livesp outsp again (mksp x a n b m l c i) = sure (decide (i < (↑l.length : Int)))
    (sure (decide ((0 : Int) < i))
      (sure
        (decide ((0 : Int) ≤ IntKind.i64.wrap (i - (1 : Int)) ∧ IntKind.i64.wrap (i - (1 : Int)) < (↑l.length : Int)))
        (sure (decide ((0 : Int) ≤ i ∧ i < (↑l.length : Int)))
          (sure
            (decide
              ((0 : Int) ≤
                cv (List.getD (l.getD (IntKind.i64.wrap (i - (1 : Int))).toNat []) (0 : Nat) (0 : Int))
                  (List.getD (l.getD (IntKind.i64.wrap (i - (1 : Int))).toNat []) ((0 : Nat) + (1 : Nat)) (0 : Int))
                  (List.getD (l.getD i.toNat []) (0 : Nat) (0 : Int))
                  (List.getD (l.getD i.toNat []) ((0 : Nat) + (1 : Nat)) (0 : Int))))
            (some (E.ret, finsp x a n b m l c (SV.bool false)))
            (sure (decide ((0 : Int) ≤ i ∧ i < (↑l.length : Int)))
              (sure
                (!wi (List.getD (l.getD i.toNat []) (0 : Nat) (0 : Int))
                    (List.getD (l.getD i.toNat []) ((0 : Nat) + (1 : Nat)) (0 : Int)) a n)
                (some (E.ret, finsp x a n b m l c (SV.bool false)))
                (sure (decide ((0 : Int) ≤ i ∧ i < (↑l.length : Int)))
                  (sure
                    (wi (List.getD (l.getD i.toNat []) (0 : Nat) (0 : Int))
                      (List.getD (l.getD i.toNat []) ((0 : Nat) + (1 : Nat)) (0 : Int)) b m)
                    (some (E.ret, finsp x a n b m l c (SV.bool false)))
                    (sure (decide ((0 : Int) ≤ i ∧ i < (↑l.length : Int)))
                      (sure
                        (wi b m (List.getD (l.getD i.toNat []) (0 : Nat) (0 : Int))
                          (List.getD (l.getD i.toNat []) ((0 : Nat) + (1 : Nat)) (0 : Int)))
                        (some (E.ret, finsp x a n b m l c (SV.bool false)))
                        (sure (decide ((0 : Int) ≤ i ∧ i < (↑l.length : Int)))
                          (sure
                            (hs (List.getD (l.getD i.toNat []) (0 : Nat) (0 : Int))
                              (List.getD (l.getD i.toNat []) ((0 : Nat) + (1 : Nat)) (0 : Int)) x)
                            (again
                              (mksp x a n b m l (IntKind.i64.wrap (c + (1 : Int))) (IntKind.i64.wrap (i + (1 : Int)))))
                            (again (mksp x a n b m l c (IntKind.i64.wrap (i + (1 : Int))))))
                          none))
                      none))
                  none))
              none))
          none)
        none)
      (sure (decide ((0 : Int) ≤ i ∧ i < (↑l.length : Int)))
        (sure
          (!wi (List.getD (l.getD i.toNat []) (0 : Nat) (0 : Int))
              (List.getD (l.getD i.toNat []) ((0 : Nat) + (1 : Nat)) (0 : Int)) a n)
          (some (E.ret, finsp x a n b m l c (SV.bool false)))
          (sure (decide ((0 : Int) ≤ i ∧ i < (↑l.length : Int)))
            (sure
              (wi (List.getD (l.getD i.toNat []) (0 : Nat) (0 : Int))
                (List.getD (l.getD i.toNat []) ((0 : Nat) + (1 : Nat)) (0 : Int)) b m)
              (some (E.ret, finsp x a n b m l c (SV.bool false)))
              (sure (decide ((0 : Int) ≤ i ∧ i < (↑l.length : Int)))
                (sure
                  (wi b m (List.getD (l.getD i.toNat []) (0 : Nat) (0 : Int))
                    (List.getD (l.getD i.toNat []) ((0 : Nat) + (1 : Nat)) (0 : Int)))
                  (some (E.ret, finsp x a n b m l c (SV.bool false)))
                  (sure (decide ((0 : Int) ≤ i ∧ i < (↑l.length : Int)))
                    (sure
                      (hs (List.getD (l.getD i.toNat []) (0 : Nat) (0 : Int))
                        (List.getD (l.getD i.toNat []) ((0 : Nat) + (1 : Nat)) (0 : Int)) x)
                      (again (mksp x a n b m l (IntKind.i64.wrap (c + (1 : Int))) (IntKind.i64.wrap (i + (1 : Int)))))
                      (again (mksp x a n b m l c (IntKind.i64.wrap (i + (1 : Int))))))
                    none))
                none))
            none))
        none))
    (some (E.brk (0 : Nat), finsp x a n b m l c SV.poison)) := by kernel_rfl
/-- is a piece as it should not be? -/
def badS (wi : I4 Bool) (cv : I4 Int) (a n b m : Int) (prev : Option Row) (r : Row) : Bool :=
  (match prev with
    | some p => decide (0 ≤ cv (p.getD 0 0) (p.getD 1 0) (r.getD 0 0) (r.getD 1 0))
    | none => false) || (!wi (r.getD 0 0) (r.getD 1 0) a n || (wi (r.getD 0 0) (r.getD 1 0) b m || wi b m (r.getD 0 0) (r.getD 1 0)))
def walkS (hs : I3 Bool) (wi : I4 Bool) (cv : I4 Int) (x a n b m : Int) : Option Row → List Row → Int → Bool × Int
  | _, [], c => (true, c)
  | prev, r :: rs, c => match badS wi cv a n b m prev r with
    | true => (false, c)
    | false => walkS hs wi cv x a n b m (some r) rs (match hs (r.getD 0 0) (r.getD 1 0) x with
      | true => c + 1
      | false => c)
def endsp (x a n b m : Int) (l : List Row) (y : Bool × Int) : E × St := if y.1 then (.brk 0, finsp x a n b m l y.2 .poison) else (.ret, finsp x a n b m l y.2 (.bool false))
theorem last_get (pre : List Row) (p r : Row) (rs : List Row) : ((pre ++ [p]) ++ r :: rs).getD pre.length [] = p := by simp [List.getD_eq_getElem?_getD]
theorem run_sp (ck cr : I2 Int) (hs : I3 Bool) (wi : I4 Bool) (cv : I4 Int) (ls : I4 (List Row)) (x a n b m : Int) : ∀ (rs pre : List Row) (c : Int), (pre ++ rs).length ≤ 1000 → 0 ≤ c → c ≤ pre.length →
    loopN (step Try.prog (Gsp ck cr hs wi cv ls) ents [] 1 bodysp livesp outsp) (rs.length + 1) (mksp x a n b m (pre ++ rs) c (pre.length : Nat)) = some (endsp x a n b m (pre ++ rs) (walkS hs wi cv x a n b m pre.getLast? rs c))
  | [], pre, c, _, _, _ => by
    show step _ _ _ _ _ _ _ _ _ _ = _
    rw [step_sp]
    have h : decide (((pre.length : Nat) : Int) < (((pre ++ []).length : Nat) : Int)) = false := decide_eq_false (by simp)
    rw [h]
    simp [walkS, sure, endsp]
  | r :: rs, pre, c, hlen, hc0, hc1 => by
    show step _ _ _ _ _ _ _ _ (loopN _ (rs.length + 1)) _ = _
    rw [step_sp]
    have hL : (pre ++ r :: rs).length = pre.length + rs.length + 1 := by simp; omega
    have hl : decide (((pre.length : Nat) : Int) < (((pre ++ r :: rs).length : Nat) : Int)) = true := decide_eq_true (by omega)
    have h1 : decide ((0 : Int) ≤ ((pre.length : Nat) : Int) ∧ ((pre.length : Nat) : Int) < (((pre ++ r :: rs).length : Nat) : Int)) = true := decide_eq_true (by omega)
    have h3 : IntKind.wrap .i64 (((pre.length : Nat) : Int) + 1) = (((pre ++ [r]).length : Nat) : Int) := by rw [wrap_i64 (by omega) (by omega)]; simp
    have h4 : IntKind.wrap .i64 (c + 1) = c + 1 := wrap_i64 (by omega) (by omega)
    have h5 : pre ++ r :: rs = (pre ++ [r]) ++ rs := by simp
    have ih := fun c h0 hc => run_sp ck cr hs wi cv ls x a n b m rs (pre ++ [r]) c (by rw [← h5]; exact hlen) h0 hc
    rw [← h5] at ih
    have hlast : (pre ++ [r]).getLast? = some r := by simp
    rw [hlast] at ih
    have hg : (pre ++ r :: rs).getD (((pre.length : Nat) : Int)).toNat [] = r := by simp [List.getD_eq_getElem?_getD]
    have e01 : (0 : Nat) + 1 = 1 := rfl
    rw [hg, h3, h4, e01]
    have tail : ∀ (prev : Option Row), (match prev with
        | some p => decide (0 ≤ cv (p.getD 0 0) (p.getD 1 0) (r.getD 0 0) (r.getD 1 0))
        | none => false) = false →
      sure (!wi (r.getD 0 0) (r.getD 1 0) a n) (some (E.ret, finsp x a n b m (pre ++ r :: rs) c (SV.bool false)))
        (sure (wi (r.getD 0 0) (r.getD 1 0) b m) (some (E.ret, finsp x a n b m (pre ++ r :: rs) c (SV.bool false)))
          (sure (wi b m (r.getD 0 0) (r.getD 1 0)) (some (E.ret, finsp x a n b m (pre ++ r :: rs) c (SV.bool false)))
            (sure (hs (r.getD 0 0) (r.getD 1 0) x)
              (loopN (step Try.prog (Gsp ck cr hs wi cv ls) ents [] 1 bodysp livesp outsp) (rs.length + 1) (mksp x a n b m (pre ++ r :: rs) (c + 1) (((pre ++ [r]).length : Nat) : Int)))
              (loopN (step Try.prog (Gsp ck cr hs wi cv ls) ents [] 1 bodysp livesp outsp) (rs.length + 1) (mksp x a n b m (pre ++ r :: rs) c (((pre ++ [r]).length : Nat) : Int)))))) =
      some (endsp x a n b m (pre ++ r :: rs) (walkS hs wi cv x a n b m prev (r :: rs) c)) := by
      intro prev hp
      unfold walkS badS
      rw [hp, Bool.false_or]
      rcases Bool.eq_false_or_eq_true (wi (r.getD 0 0) (r.getD 1 0) a n) with k1 | k1
      · rcases Bool.eq_false_or_eq_true (wi (r.getD 0 0) (r.getD 1 0) b m) with k2 | k2
        · simp only [k1, k2, sure, Bool.not_true, Bool.true_or, Bool.or_true, endsp]; rfl
        · rcases Bool.eq_false_or_eq_true (wi b m (r.getD 0 0) (r.getD 1 0)) with k3 | k3
          · simp only [k1, k2, k3, sure, Bool.not_true, Bool.true_or, Bool.or_true, endsp]; rfl
          · simp only [k1, k2, k3, sure, Bool.not_true, Bool.false_or, Bool.or_false]
            rcases Bool.eq_false_or_eq_true (hs (r.getD 0 0) (r.getD 1 0) x) with k4 | k4
            · simp only [k4]
              exact ih _ (by omega) (by simp; omega)
            · simp only [k4]
              exact ih _ (by omega) (by simp; omega)
      · simp only [k1, sure, Bool.not_false, Bool.true_or, endsp]; rfl
    rcases List.eq_nil_or_concat pre with hp | ⟨pre', p, hp⟩
    · have h0 : decide ((0 : Int) < ((pre.length : Nat) : Int)) = false := decide_eq_false (by rw [hp]; simp)
      have := tail none rfl
      simp only [hl, h1, h0]
      rw [hp] at this ⊢
      exact this
    · have hp' : pre.length = pre'.length + 1 := by rw [hp]; simp
      have h0 : decide ((0 : Int) < ((pre.length : Nat) : Int)) = true := decide_eq_true (by omega)
      have hw : IntKind.wrap .i64 (((pre.length : Nat) : Int) - 1) = ((pre'.length : Nat) : Int) := by rw [wrap_i64 (by omega) (by omega)]; omega
      have h6 : decide ((0 : Int) ≤ ((pre'.length : Nat) : Int) ∧ ((pre'.length : Nat) : Int) < (((pre ++ r :: rs).length : Nat) : Int)) = true := decide_eq_true (by omega)
      have h7 : (pre ++ r :: rs).getD (((pre'.length : Nat) : Int)).toNat [] = p := by rw [Int.toNat_natCast, hp]; simp [List.getD_eq_getElem?_getD]
      have h8 : pre.getLast? = some p := by rw [hp]; simp
      rw [hw, h7, h8]
      simp only [hl, h1, h0, h6]
      rcases Bool.eq_false_or_eq_true (decide (0 ≤ cv (p.getD 0 0) (p.getD 1 0) (r.getD 0 0) (r.getD 1 0))) with k0 | k0
      · simp only [k0, sure]
        unfold walkS badS
        simp only [k0, Bool.true_or, endsp]; rfl
      · have := tail (some p) k0
        rw [k0]
        exact this
def wsB (x a n b m : Int) (l : List Row) : Bool := (walkS hasP wiP cmpPV x a n b m none l 0).1
def wsC (x a n b m : Int) (l : List Row) : Int := (walkS hasP wiP cmpPV x a n b m none l 0).2
def oksp (l : List Row) : Bool := decide (l.length ≤ 1000)
theorem loopsp : LoopOK Try.prog bodysp (fun st => (sumT 111 [2, 3, 4, 7, 8, 9] picksp (fun y => .when (y.i == 0 && (y.c == 0 && oksp y.l)) (.br (wsB y.x y.a y.n y.b y.m y.l) (.leaf (.brk 0, finsp y.x y.a y.n y.b y.m y.l (wsC y.x y.a y.n y.b y.m y.l) .poison)) (.leaf (.ret, finsp y.x y.a y.n y.b y.m y.l (wsC y.x y.a y.n y.b y.m y.l) (.bool false))))) st).opt) := by
  refine loop_two (imp := []) (facts Gsp_ok) 0 1 bodysp (lpOK_none _) livesp outsp 111 [2, 3, 4, 7, 8, 9] picksp Xsp.st (fun y => y.i == 0 && (y.c == 0 && oksp y.l)) (fun y => wsB y.x y.a y.n y.b y.m y.l) _ _ picksp_ok ?_
  intro y h1 _
  simp only [Bool.and_eq_true, beq_iff_eq] at h1
  obtain ⟨hi, hc, hl⟩ := h1
  have h5 := run_sp chkP chkR hasP wiP cmpPV lessP y.x y.a y.n y.b y.m y.l [] 0 (by simpa using of_decide_eq_true hl) (by omega) (by simp)
  refine ⟨y.l.length + 1, ?_⟩
  unfold Xsp.st
  rw [hi, hc]
  exact h5
def annsp (wb : Int → Int → Int → Int → Int → List Row → Bool) (wc : Int → Int → Int → Int → Int → List Row → Int) : Ann := ⟨livesp, 0, some (sumT 111 [2, 3, 4, 7, 8, 9] picksp (fun y => .when (y.i == 0 && (y.c == 0 && oksp y.l)) (.br (wb y.x y.a y.n y.b y.m y.l) (.leaf (.brk 0, finsp y.x y.a y.n y.b y.m y.l (wc y.x y.a y.n y.b y.m y.l) .poison)) (.leaf (.ret, finsp y.x y.a y.n y.b y.m y.l (wc y.x y.a y.n y.b y.m y.l) (.bool false))))))⟩
noncomputable def T_splits (ck cr : I2 Int) (hs : I3 Bool) (wi : I4 Bool) (cv : I4 Int) (ls : I4 (List Row)) (wb : Int → Int → Int → Int → Int → List Row → Bool) (wc : Int → Int → Int → Int → Int → List Row → Int) (a n b m x : Int) : GT SV := GT.br (cr a n != (0 : Int))
    (GT.br ((↑(ls a n b m).length : Int) == (0 : Int)) (GT.leaf (SV.bool true)) (GT.leaf (SV.bool false)))
    (GT.br (cr b m != (0 : Int))
      (GT.br ((↑(ls a n b m).length : Int) == (0 : Int)) (GT.leaf (SV.bool true)) (GT.leaf (SV.bool false)))
      (GT.br ((0 : Int) == (0 : Int) && ((0 : Int) == (0 : Int) && decide ((ls a n b m).length ≤ (1000 : Nat))))
        (GT.br (wb x a n b m (ls a n b m))
          (GT.br (decide ((↑(ls a n b m).length : Int) ≤ (32 : Int)))
            (GT.br (wc x a n b m (ls a n b m) == (1 : Int))
              (GT.br (hs a n x)
                (GT.br (true == !hs b m x)
                  (GT.br (decide (wc x a n b m (ls a n b m) ≤ (1 : Int))) (GT.leaf (SV.bool true))
                    (GT.leaf (SV.bool false)))
                  (GT.leaf (SV.bool false)))
                (GT.leaf (SV.bool false)))
              (GT.br (hs a n x)
                (GT.br (false == !hs b m x)
                  (GT.br (decide (wc x a n b m (ls a n b m) ≤ (1 : Int))) (GT.leaf (SV.bool true))
                    (GT.leaf (SV.bool false)))
                  (GT.leaf (SV.bool false)))
                (GT.br (decide (wc x a n b m (ls a n b m) ≤ (1 : Int))) (GT.leaf (SV.bool true))
                  (GT.leaf (SV.bool false)))))
            (GT.leaf (SV.bool false)))
          (GT.leaf (SV.bool false)))
        GT.stop))
theorem e_splits (ck cr : I2 Int) (hs : I3 Bool) (wi : I4 Bool) (cv : I4 Int) (ls : I4 (List Row)) (wb : Int → Int → Int → Int → Int → List Row → Bool) (wc : Int → Int → Int → Int → Int → List Row → Int) (a n b m x : Int) : evFn Try.prog (Gsp ck cr hs wi cv ls) ents [10] (lpL [(4, [0, 1, 0, 1, 1, 1, 1], annsp wb wc)]) 1 4 [px a n, px b m, .int .u32 x] = (T_splits ck cr hs wi cv ls wb wc a n b m x).opt := by kernel_rfl
end Go.Sx.Mk


/- Layer 2: plain laws: what Less leaves. -/
namespace Go.Sx.Mk
open Go.RowKit
theorem chkP_nat {a n : Nat} (ha : a < T32) (h : okP a n) : chkP a n = 0 := by
  rw [chkP_eq ha]; unfold chkS
  rw [if_pos (by have := h.1; omega), Int.toNat_natCast, if_pos h.2]
theorem chkR_nat {a n : Nat} (ha : a < T32) (h : okP a n) : chkR a n = 0 := (chk_eq ha n).symm.trans (chkP_nat ha h)
theorem hasP_nat {a n x : Nat} (ha : a < T32) (hx : x < T32) (h : okP a n) : hasP a n x = decide (a / 2 ^ (32 - n) = x / 2 ^ (32 - n)) := by
  rw [hasP_eq ha hx]
  unfold hasR
  rw [chkR_nat ha h, likeV_eq ha hx h.1]; rfl
theorem wiP_nat {a n b m : Nat} (ha : a < T32) (hb : b < T32) (h1 : okP a n) (h2 : okP b m) : wiP a n b m = decide (m ≤ n ∧ a / 2 ^ (32 - m) = b / 2 ^ (32 - m)) := by
  unfold wiP
  rw [chkP_nat ha h1, hasP_nat hb ha h2]
  by_cases c1 : m ≤ n
  · have e : decide ((m : Int) ≤ (n : Int)) = true := decide_eq_true (by omega)
    rw [e]
    by_cases c2 : b / 2 ^ (32 - m) = a / 2 ^ (32 - m)
    · rw [decide_eq_true c2, decide_eq_true ⟨c1, c2.symm⟩]; rfl
    · rw [decide_eq_false c2, decide_eq_false (show ¬ (m ≤ n ∧ a / 2 ^ (32 - m) = b / 2 ^ (32 - m)) from fun h => c2 h.2.symm)]; rfl
  · have e : decide ((m : Int) ≤ (n : Int)) = false := decide_eq_false (by omega)
    rw [e, decide_eq_false (show ¬ (m ≤ n ∧ a / 2 ^ (32 - m) = b / 2 ^ (32 - m)) from fun h => c1 h.1)]; rfl
/-- the neighbour -/
def flip (B : Nat) : Nat := if B % 2 = 1 then B - 1 else B + 1
theorem flip_half (B : Nat) : flip B / 2 = B / 2 := by unfold flip; split <;> omega
theorem flip_ne (B : Nat) : flip B ≠ B := by unfold flip; split <;> omega
theorem flip_only {B x : Nat} (h : x / 2 = B / 2) (hn : x ≠ B) : x = flip B := by unfold flip; split <;> omega
theorem bitP_nat {k : Nat} (hk : 1 ≤ k) (h : k ≤ 32) : bitP k = ((2 ^ (32 - k) : Nat) : Int) := by
  have key : (List.range 33).all (fun k => k == 0 || bitP (Int.ofNat k) == Int.ofNat (2 ^ (32 - k))) = true := by kernel_rfl
  have := List.all_eq_true.1 key k (by simp; omega)
  have h0 : (k == 0) = false := by simp; omega
  rw [h0, Bool.false_or] at this
  exact eq_of_beq this
theorem xor_pow (B K : Nat) : (B * 2 ^ K) ^^^ 2 ^ K = flip B * 2 ^ K := by
  have e : flip B = B ^^^ 1 := by
    refine Nat.eq_of_testBit_eq fun i => ?_
    rw [Nat.testBit_xor]
    cases i with
    | zero =>
      simp only [Nat.testBit_zero]
      unfold flip
      split
      · rename_i h; have : (B - 1) % 2 = 0 := by omega
        rw [this, h]; rfl
      · rename_i h; have h0 : B % 2 = 0 := by omega
        have : (B + 1) % 2 = 1 := by omega
        rw [this, h0]; rfl
    | succ i =>
      rw [Nat.testBit_succ, Nat.testBit_succ, Nat.testBit_succ, flip_half]
      simp
  rw [e]
  refine Nat.eq_of_testBit_eq fun i => ?_
  rw [Nat.testBit_xor, Nat.testBit_mul_two_pow, Nat.testBit_mul_two_pow, Nat.testBit_two_pow]
  by_cases h : K ≤ i
  · simp only [h, decide_true, Bool.true_and, Nat.testBit_xor]
    congr 1
    have : Nat.testBit 1 (i - K) = decide (i - K = 0) := by
      rw [show (1 : Nat) = 2 ^ 0 from rfl, Nat.testBit_two_pow]
      exact decide_eq_decide.2 (by omega)
    rw [this]
    exact decide_eq_decide.2 (by omega)
  · simp [h]; omega
theorem qA_nat {b k : Nat} (hb : b < T32) (hk : 1 ≤ k) (h : k ≤ 32) : qA careV b k = ((flip (b / 2 ^ (32 - k)) * 2 ^ (32 - k) : Nat) : Int) ∧ flip (b / 2 ^ (32 - k)) * 2 ^ (32 - k) < T32 := by
  have hcut : b / 2 ^ (32 - k) * 2 ^ (32 - k) < T32 := Nat.lt_of_le_of_lt (Nat.div_mul_le_self b _) hb
  have hp : 2 ^ (32 - k) < T32 := by
    have : 2 ^ (32 - k) ≤ 2 ^ 31 := Nat.pow_le_pow_right (by omega) (by omega)
    unfold T32; omega
  have hx := xor_pow (b / 2 ^ (32 - k)) (32 - k)
  have hlt : (b / 2 ^ (32 - k) * 2 ^ (32 - k)) ^^^ 2 ^ (32 - k) < T32 := Nat.xor_lt_two_pow (n := 32) hcut hp
  refine ⟨?_, by rw [← hx]; exact hlt⟩
  unfold qA
  rw [care_eq h, b32_and hb (hig_lt _), and_hig hb (by omega), bitP_nat hk h, b32_xor hcut hp, hx]
/-- is the neighbour ahead? -/
theorem qA_below {b k : Nat} (hb : b < T32) (hk : 1 ≤ k) (h : k ≤ 32) : decide (qA careV b k < (b : Int)) = decide (b / 2 ^ (32 - k) % 2 = 1) := by
  rw [(qA_nat hb hk h).1]
  refine decide_eq_decide.2 ?_
  generalize hB : b / 2 ^ (32 - k) = B
  have hp := Nat.two_pow_pos (32 - k)
  have h1 := Nat.div_add_mod b (2 ^ (32 - k))
  have h2 := Nat.mod_lt b hp
  rw [hB] at h1
  generalize 2 ^ (32 - k) = Q at *
  unfold flip
  split
  · rename_i ho
    have : (B - 1) * Q + Q = Q * B := by
      have : B - 1 + 1 = B := by omega
      rw [← Nat.succ_mul, Nat.succ_eq_add_one, this, Nat.mul_comm]
    constructor
    · intro _; exact ho
    · intro _; omega
  · rename_i ho
    have : (B + 1) * Q = Q * B + Q := by rw [Nat.succ_mul, Nat.mul_comm]
    constructor
    · intro _; omega
    · intro h; exact absurd h ho
/-- the number of the pieces that have an address -/
def cntS (x : Int) : List Row → Int
  | [] => 0
  | r :: rs => sure (hasP (r.getD 0 0) (r.getD 1 0) x) 1 0 + cntS x rs
theorem cntS_append (x : Int) : ∀ l m : List Row, cntS x (l ++ m) = cntS x l + cntS x m
  | [], m => by simp [cntS]
  | r :: l, m => by simp only [List.cons_append, cntS, cntS_append x l m]; omega
theorem cntS_reverse (x : Int) : ∀ l : List Row, cntS x l.reverse = cntS x l
  | [] => rfl
  | r :: l => by rw [List.reverse_cons, cntS_append, cntS_reverse x l]; simp [cntS]; omega
theorem pair2_id : ∀ l : List Row, (∀ r ∈ l, ∃ y z : Int, r = [y, z]) → l.map pair2 = l
  | [], _ => rfl
  | r :: l, h => by
    obtain ⟨y, z, e⟩ := h r (by simp)
    rw [List.map_cons, pair2_id l (fun q hq => h q (by simp [hq])), e]
    rfl
/-- a piece as it should be -/
def goodS (a n b m : Int) (r : Row) : Prop := wiP (r.getD 0 0) (r.getD 1 0) a n = true ∧ wiP (r.getD 0 0) (r.getD 1 0) b m = false ∧ wiP b m (r.getD 0 0) (r.getD 1 0) = false
def ltS (p r : Row) : Prop := p.getD 0 0 < r.getD 0 0
theorem walkS_ok (x a n b m : Int) : ∀ (l : List Row) (prev : Option Row) (c : Int), (∀ r ∈ l, goodS a n b m r) → l.Pairwise ltS → (∀ p, prev = some p → ∀ r ∈ l, ltS p r) →
    walkS hasP wiP cmpPV x a n b m prev l c = (true, c + cntS x l)
  | [], prev, c, _, _, _ => by simp [walkS, cntS]
  | r :: rs, prev, c, hg, hs, hp => by
    obtain ⟨g1, g2, g3⟩ := hg r (by simp)
    rw [List.pairwise_cons] at hs
    have ih := fun c => walkS_ok x a n b m rs (some r) c (fun q hq => hg q (by simp [hq])) hs.2 (fun p hp q hq => by cases hp; exact hs.1 q hq)
    have hb : badS wiP cmpPV a n b m prev r = false := by
      unfold badS
      rw [g1, g2, g3]
      cases prev with
      | none => rfl
      | some p =>
        have hlt : p.getD 0 0 < r.getD 0 0 := hp p rfl r (by simp)
        have hc : cmpPV (p.getD 0 0) (p.getD 1 0) (r.getD 0 0) (r.getD 1 0) = -1 := by
          unfold cmpPV orV cmpV
          rw [decide_eq_true hlt]; rfl
        show (decide (0 ≤ cmpPV (p.getD 0 0) (p.getD 1 0) (r.getD 0 0) (r.getD 1 0)) || (!true || (false || false))) = false
        rw [hc]; rfl
    unfold walkS
    rw [hb]
    simp only [cntS]
    rw [ih]
    cases hasP (r.getD 0 0) (r.getD 1 0) x <;> simp [sure] <;> omega
/-- what is known of the pieces of a number of lengths -/
structure Parts (a n b m : Nat) (x : Nat) (K : Nat) (lo hi : List Row) : Prop where
  two : ∀ p, p ∈ lo ∨ p ∈ hi → ∃ y z : Int, p = [y, z]
  good : ∀ p, p ∈ lo ∨ p ∈ hi → goodS a n b m p
  loS : lo.Pairwise ltS
  hiS : hi.Pairwise fun p q => ltS q p
  loB : ∀ p ∈ lo, ((b / 2 ^ (K) * 2 ^ (K) : Nat) : Int) ≤ p.getD 0 0 ∧ p.getD 0 0 < b
  hiB : ∀ p ∈ hi, (b : Int) < p.getD 0 0 ∧ p.getD 0 0 < (((b / 2 ^ (K) + 1) * 2 ^ (K) : Nat) : Int)
  cnt : cntS x lo + cntS x hi = (if x / 2 ^ (K) = b / 2 ^ (K) then 1 else 0) - (if x / 2 ^ (32 - m) = b / 2 ^ (32 - m) then 1 else 0)
theorem parts {a n b m x : Nat} (ha : a < T32) (hb : b < T32) (hx : x < T32) (oa : okP a n) (ob : okP b m) (hab : a / 2 ^ (32 - n) = b / 2 ^ (32 - n)) : ∀ r : Nat, n + r ≤ m → Parts a n b m x (32 - m + r) (lowF careV b m r) (higF careV b m r)
  | 0, _ => by
    refine ⟨?_, ?_, ?_, ?_, ?_, ?_, ?_⟩ <;> simp [lowF, higF, cntS]
  | r + 1, hr => by
    have ih := parts ha hb hx oa ob hab r (by omega)
    have hm := ob.1
    obtain ⟨k, hk⟩ : ∃ k, k = m - r := ⟨_, rfl⟩
    have hK : 32 - k = 32 - m + r := by omega
    have ek : (m : Int) - (r : Int) = (k : Int) := by omega
    obtain ⟨q1, q2⟩ := qA_nat hb (k := k) (by omega) (by omega)
    have q3 := qA_below hb (k := k) (by omega) (by omega)
    rw [hK] at q1 q2 q3
    unfold lowF higF
    rw [ek, q3, q1]
    generalize hKK : 32 - m + r = K at *
    have hK1 : 32 - m + (r + 1) = K + 1 := by omega
    rw [hK1]
    have hp := Nat.two_pow_pos K
    generalize hBB : b / 2 ^ K = B at *
    have hB2 : b / 2 ^ (K + 1) = B / 2 := by rw [Nat.pow_succ, ← Nat.div_div_eq_div_mul, hBB]
    have hx2 : x / 2 ^ (K + 1) = x / 2 ^ K / 2 := by rw [Nat.pow_succ, ← Nat.div_div_eq_div_mul]
    have hmul : 2 ^ (K + 1) = 2 * 2 ^ K := by rw [Nat.pow_succ, Nat.mul_comm]
    have hdm := Nat.div_add_mod b (2 ^ K)
    have hml := Nat.mod_lt b hp
    rw [hBB] at hdm
    have ihlo := ih.loB
    have ihhi := ih.hiB
    have ihcnt := ih.cnt
    rw [hBB] at ihlo ihhi ihcnt
    -- the piece
    have hqd : flip B * 2 ^ K / 2 ^ K = flip B := Nat.mul_div_cancel _ hp
    have okq : okP (flip B * 2 ^ K) k := ⟨by omega, by rw [show 32 - k = K by omega]; exact Nat.mul_mod_left _ _⟩
    have hgood : goodS a n b m [((flip B * 2 ^ K : Nat) : Int), (k : Int)] := by
      refine ⟨?_, ?_, ?_⟩
      · show wiP ((flip B * 2 ^ K : Nat) : Int) (k : Int) a n = true
        rw [wiP_nat q2 ha okq oa, decide_eq_true_eq]
        refine ⟨by omega, ?_⟩
        obtain ⟨d, hd⟩ : ∃ d, 32 - n = K + (1 + d) := ⟨32 - n - K - 1, by omega⟩
        rw [hab, hd, Nat.pow_add, ← Nat.div_div_eq_div_mul, ← Nat.div_div_eq_div_mul, hqd, hBB, Nat.pow_add, ← Nat.div_div_eq_div_mul, ← Nat.div_div_eq_div_mul, Nat.pow_one, flip_half]
      · show wiP ((flip B * 2 ^ K : Nat) : Int) (k : Int) b m = false
        rw [wiP_nat q2 hb okq ob, decide_eq_false_iff_not]
        rintro ⟨h1, h2⟩
        have : 32 - m = K := by omega
        rw [this, hqd, hBB] at h2
        exact flip_ne B h2
      · show wiP b m ((flip B * 2 ^ K : Nat) : Int) (k : Int) = false
        rw [wiP_nat hb q2 ob okq, decide_eq_false_iff_not]
        rintro ⟨h1, h2⟩
        rw [show 32 - k = K by omega, hqd, hBB] at h2
        exact flip_ne B h2.symm
    have hhas : hasP ((flip B * 2 ^ K : Nat) : Int) (k : Int) x = decide (flip B = x / 2 ^ K) := by
      rw [hasP_nat q2 hx okq, show 32 - k = K by omega, hqd]
    have hcount : (sure (decide (flip B = x / 2 ^ K)) (1 : Int) 0) + ((if x / 2 ^ K = B then 1 else 0) - (if x / 2 ^ (32 - m) = b / 2 ^ (32 - m) then 1 else 0)) = (if x / 2 ^ (K + 1) = b / 2 ^ (K + 1) then 1 else 0) - (if x / 2 ^ (32 - m) = b / 2 ^ (32 - m) then 1 else 0) := by
      rw [hB2, hx2]
      have f1 := flip_half B
      have f2 := flip_ne B
      by_cases c1 : x / 2 ^ K / 2 = B / 2
      · rw [if_pos c1]
        by_cases c2 : x / 2 ^ K = B
        · rw [if_pos c2, decide_eq_false (by rw [c2]; exact f2)]; simp [sure]
        · rw [if_neg c2, decide_eq_true (flip_only c1 c2).symm]; simp [sure]; omega
      · rw [if_neg c1, if_neg (fun h => c1 (by rw [h])), decide_eq_false (fun h => c1 (by rw [← h, f1]))]; simp [sure]
    have ecut : b / 2 ^ (K + 1) * 2 ^ (K + 1) = (B / 2 * 2) * 2 ^ K := by rw [hB2, hmul, Nat.mul_assoc]
    have ecut1 : (b / 2 ^ (K + 1) + 1) * 2 ^ (K + 1) = (B / 2 * 2 + 2) * 2 ^ K := by rw [hB2, hmul, ← Nat.mul_assoc, Nat.add_mul]
    by_cases ho : B % 2 = 1
    · rw [decide_eq_true ho]
      have hfl : flip B = B / 2 * 2 := by unfold flip; rw [if_pos ho]; omega
      have hBe : B = B / 2 * 2 + 1 := by omega
      have hsz : B * 2 ^ K = flip B * 2 ^ K + 2 ^ K := by
        rw [hfl, ← Nat.succ_mul]
        congr 1
      refine ⟨?_, ?_, ?_, ih.hiS, ?_, ?_, ?_⟩
      · intro p hp'
        rcases hp' with hp' | hp'
        · rcases List.mem_cons.1 hp' with rfl | h
          · exact ⟨_, _, rfl⟩
          · exact ih.two p (.inl h)
        · exact ih.two p (.inr hp')
      · intro p hp'
        rcases hp' with hp' | hp'
        · rcases List.mem_cons.1 hp' with rfl | h
          · exact hgood
          · exact ih.good p (.inl h)
        · exact ih.good p (.inr hp')
      · rw [List.pairwise_cons]
        refine ⟨fun p hp' => ?_, ih.loS⟩
        have := (ihlo p hp').1
        show ((flip B * 2 ^ K : Nat) : Int) < p.getD 0 0
        omega
      · intro p hp'
        rw [ecut, ← hfl]
        rcases List.mem_cons.1 hp' with rfl | h
        · show ((flip B * 2 ^ K : Nat) : Int) ≤ ((flip B * 2 ^ K : Nat) : Int) ∧ ((flip B * 2 ^ K : Nat) : Int) < (b : Int)
          refine ⟨Int.le_refl _, ?_⟩
          have : 2 ^ K * B = B * 2 ^ K := Nat.mul_comm _ _
          omega
        · have := ihlo p h
          omega
      · intro p hp'
        rw [ecut1]
        have := ihhi p hp'
        have e : (B / 2 * 2 + 2) * 2 ^ K = (B + 1) * 2 ^ K := by congr 1; omega
        rw [e]
        exact this
      · show (sure (hasP ((flip B * 2 ^ K : Nat) : Int) (k : Int) x) (1 : Int) 0 + cntS x (lowF careV b m r)) + cntS x (higF careV b m r) = _
        rw [hhas, ← hcount, ← ihcnt]; omega
    · rw [decide_eq_false ho]
      have hfl : flip B = B + 1 := by unfold flip; rw [if_neg ho]
      have hBe : B = B / 2 * 2 := by omega
      have hsz : flip B * 2 ^ K = B * 2 ^ K + 2 ^ K := by rw [hfl, Nat.succ_mul]
      refine ⟨?_, ?_, ih.loS, ?_, ?_, ?_, ?_⟩
      · intro p hp'
        rcases hp' with hp' | hp'
        · exact ih.two p (.inl hp')
        · rcases List.mem_cons.1 hp' with rfl | h
          · exact ⟨_, _, rfl⟩
          · exact ih.two p (.inr h)
      · intro p hp'
        rcases hp' with hp' | hp'
        · exact ih.good p (.inl hp')
        · rcases List.mem_cons.1 hp' with rfl | h
          · exact hgood
          · exact ih.good p (.inr h)
      · rw [List.pairwise_cons]
        refine ⟨fun p hp' => ?_, ih.hiS⟩
        have := (ihhi p hp').2
        show p.getD 0 0 < ((flip B * 2 ^ K : Nat) : Int)
        rw [hfl]
        exact this
      · intro p hp'
        rw [ecut]
        have := ihlo p hp'
        have e : B / 2 * 2 * 2 ^ K = B * 2 ^ K := by rw [← hBe]
        rw [e]
        exact this
      · intro p hp'
        rw [ecut1]
        have e : (B / 2 * 2 + 2) * 2 ^ K = B * 2 ^ K + 2 ^ K + 2 ^ K := by rw [← hBe, Nat.add_mul]; omega
        rw [e]
        rcases List.mem_cons.1 hp' with rfl | h
        · show (b : Int) < ((flip B * 2 ^ K : Nat) : Int) ∧ ((flip B * 2 ^ K : Nat) : Int) < _
          have : 2 ^ K * B = B * 2 ^ K := Nat.mul_comm _ _
          omega
        · have := ihhi p h
          have e2 : (B + 1) * 2 ^ K = B * 2 ^ K + 2 ^ K := Nat.succ_mul _ _
          omega
      · show cntS x (lowF careV b m r) + (sure (hasP ((flip B * 2 ^ K : Nat) : Int) (k : Int) x) (1 : Int) 0 + cntS x (higF careV b m r)) = _
        rw [hhas, ← hcount, ← ihcnt]; omega
end Go.Sx.Mk


/- Layer 2: the plain law behind PrefixSplits. -/
namespace Go.Sx.Mk
open Go.RowKit
theorem parts_len (cr : Int → Int) (b m : Int) : ∀ r : Nat, (lowF cr b m r).length + (higF cr b m r).length = r
  | 0 => rfl
  | r + 1 => by
    have ih := parts_len cr b m r
    unfold lowF higF
    cases decide (qA cr b (m - r) < b) <;> simp <;> omega
theorem div_mono {x b K L : Nat} (h : x / 2 ^ K = b / 2 ^ K) (hKL : K ≤ L) : x / 2 ^ L = b / 2 ^ L := by
  obtain ⟨d, rfl⟩ := Nat.le.dest hKL
  rw [Nat.pow_add, ← Nat.div_div_eq_div_mul, ← Nat.div_div_eq_div_mul, h]
/-- what Less tells, and what the law's loop finds there -/
theorem less_in {a n b m x : Nat} (ha : a < T32) (hb : b < T32) (hx : x < T32) (oa : okP a n) (ob : okP b m) :
    (lessP a n b m).length ≤ 32 ∧ wsB x a n b m (lessP a n b m) = true ∧
      wsC x a n b m (lessP a n b m) = sure (hasP a n x) (sure (hasP b m x) 0 1) 0 := by
  have e1 : (chkP a n != 0) = false := by rw [chkP_nat ha oa]; rfl
  have e2 : (chkP b m != 0) = false := by rw [chkP_nat hb ob]; rfl
  unfold lessP wsB wsC
  rw [e1, e2, wiP_nat ha hb oa ob, wiP_nat hb ha ob oa, hasP_nat ha hx oa, hasP_nat hb hx ob]
  have ha32 := oa.1
  have hb32 := ob.1
  by_cases h1 : m ≤ n ∧ a / 2 ^ (32 - m) = b / 2 ^ (32 - m)
  · rw [decide_eq_true h1]
    refine ⟨by simp [sure], rfl, ?_⟩
    show (0 : Int) = _
    by_cases c : a / 2 ^ (32 - n) = x / 2 ^ (32 - n)
    · have : b / 2 ^ (32 - m) = x / 2 ^ (32 - m) := by rw [← h1.2]; exact div_mono c (by omega)
      rw [decide_eq_true this]; cases decide (a / 2 ^ (32 - n) = x / 2 ^ (32 - n)) <;> rfl
    · rw [decide_eq_false c]; rfl
  · rw [decide_eq_false h1]
    by_cases h2 : n ≤ m ∧ b / 2 ^ (32 - n) = a / 2 ^ (32 - n)
    · rw [decide_eq_true h2]
      have hP := parts ha hb hx oa ob h2.2.symm (m - n) (by omega)
      rw [show 32 - m + (m - n) = 32 - n by omega] at hP
      have er : ((m : Int) + 1 - ((n : Int) + 1)).toNat = m - n := by omega
      have hp2 : (higF careV b m (m - n)).map pair2 = higF careV b m (m - n) := pair2_id _ (fun r hr => hP.two r (.inr hr))
      have hlen := parts_len careV b m (m - n)
      show (revV (lowV b m ((n : Int) + 1)) (higV b m ((n : Int) + 1))).length ≤ 32 ∧ _
      unfold revV lowV higV
      rw [er, hp2]
      have hw := walkS_ok x a n b m (lowF careV b m (m - n) ++ (higF careV b m (m - n)).reverse) none 0 (fun r hr => by
          rcases List.mem_append.1 hr with h | h
          · exact hP.good r (.inl h)
          · exact hP.good r (.inr (List.mem_reverse.1 h))) (by
          rw [List.pairwise_append]
          refine ⟨hP.loS, List.pairwise_reverse.2 hP.hiS, fun p hp q hq => ?_⟩
          have k1 := (hP.loB p hp).2
          have k2 := (hP.hiB q (List.mem_reverse.1 hq)).1
          show p.getD 0 0 < q.getD 0 0
          omega) (fun p hp => by cases hp)
      refine ⟨by rw [List.length_append, List.length_reverse]; omega, ?_, ?_⟩
      · show (walkS hasP wiP cmpPV x a n b m none (lowF careV b m (m - n) ++ (higF careV b m (m - n)).reverse) 0).1 = true
        rw [hw]
      · show (walkS hasP wiP cmpPV x a n b m none (lowF careV b m (m - n) ++ (higF careV b m (m - n)).reverse) 0).2 = _
        rw [hw, cntS_append, cntS_reverse, hP.cnt, h2.2]
        by_cases c : a / 2 ^ (32 - n) = x / 2 ^ (32 - n)
        · rw [decide_eq_true c, if_pos c.symm]
          by_cases d : b / 2 ^ (32 - m) = x / 2 ^ (32 - m)
          · rw [decide_eq_true d, if_pos d.symm]; rfl
          · rw [decide_eq_false d, if_neg (fun h => d h.symm)]; rfl
        · rw [decide_eq_false c, if_neg (fun h => c h.symm)]
          have d : ¬ x / 2 ^ (32 - m) = b / 2 ^ (32 - m) := fun d => c (by rw [← h2.2]; exact (div_mono d (by omega)).symm)
          rw [if_neg d]; rfl
    · rw [decide_eq_false h2]
      have haa : wiP a n a n = true := by rw [wiP_nat ha ha oa oa, decide_eq_true ⟨Nat.le_refl _, rfl⟩]
      have g : goodS a n b m [(a : Int), (n : Int)] := ⟨haa, by
          show wiP a n b m = false
          rw [wiP_nat ha hb oa ob, decide_eq_false h1], by
          show wiP b m a n = false
          rw [wiP_nat hb ha ob oa, decide_eq_false h2]⟩
      have hw := walkS_ok x a n b m [[(a : Int), (n : Int)]] none 0 (fun r hr => by rw [List.mem_singleton] at hr; subst hr; exact g) (by simp) (fun p hp => by cases hp)
      refine ⟨by simp [sure], ?_, ?_⟩
      · show (walkS hasP wiP cmpPV x a n b m none [[(a : Int), (n : Int)]] 0).1 = true
        rw [hw]
      · show (walkS hasP wiP cmpPV x a n b m none [[(a : Int), (n : Int)]] 0).2 = _
        rw [hw]
        show 0 + (sure (hasP a n x) (1 : Int) 0 + 0) = _
        rw [hasP_nat ha hx oa]
        by_cases c : a / 2 ^ (32 - n) = x / 2 ^ (32 - n)
        · have d : ¬ b / 2 ^ (32 - m) = x / 2 ^ (32 - m) := by
            intro d
            by_cases hnm : n ≤ m
            · exact h2 ⟨hnm, by rw [c]; exact div_mono d (by omega)⟩
            · exact h1 ⟨by omega, by rw [d]; exact div_mono c (by omega)⟩
          rw [decide_eq_true c, decide_eq_false d]; rfl
        · rw [decide_eq_false c]; rfl
theorem splits {a b x : Nat} (ha : a < T32) (hb : b < T32) (hx : x < T32) (n m : Int) : (T_splits chkP chkR hasP wiP cmpPV lessP wsB wsC a n b m x).opt = some (.bool true) := by
  unfold T_splits
  by_cases h1 : chkR a n = 0
  · by_cases h2 : chkR b m = 0
    · obtain ⟨n, rfl, hn, hn0⟩ := chkS_zero ((chkR_eq ha n).symm.trans h1)
      obtain ⟨m, rfl, hm, hm0⟩ := chkS_zero ((chkR_eq hb m).symm.trans h2)
      obtain ⟨l1, l2, l3⟩ := less_in ha hb hx ⟨hn, hn0⟩ ⟨hm, hm0⟩
      rw [h1, h2, l2, l3]
      rw [decide_eq_true (show (lessP a n b m).length ≤ 1000 by omega), decide_eq_true (show ((lessP a n b m).length : Int) ≤ 32 by omega)]
      cases hasP a n x <;> cases hasP b m x <;> rfl
    · have e : (chkR b m != 0) = true := by simpa using h2
      have e' : (chkP b m != 0) = true := by rw [chk_eq hb]; exact e
      have hl : lessP a n b m = [] := by
        unfold lessP
        rw [e']
        cases (chkP a n != 0) <;> rfl
      rw [hl, h1, e]; rfl
  · have e : (chkR a n != 0) = true := by simpa using h1
    have e' : (chkP a n != 0) = true := by rw [chk_eq ha]; exact e
    have hl : lessP a n b m = [] := by
      unfold lessP
      rw [e']; rfl
    rw [hl, e]; rfl
noncomputable def evSplits (svs : List SV) : Option SV := evFn Go.Proofs.Try.prog (Gsp chkP chkR hasP wiP cmpPV lessP) ents [10] (lpL [(4, [0, 1, 0, 1, 1, 1, 1], annsp wsB wsC)]) 1 4 svs
theorem LSplits.summ : Summ Go.Proofs.Try.prog 4 evSplits := evFn_summ (factsL Gsp_ok _ (at_one (f0 := 4) (p0 := [0, 1, 0, 1, 1, 1, 1]) (ann := annsp wsB wsC) (fun s h => by cases h; exact loopsp))) 1 4
theorem LSplits.ok (a n b m x : Int) (ha : U32 a) (hn : I64 n) (hb : U32 b) (hm : I64 m) (hx : U32 x) : evSplits [px a n, px b m, .int .u32 x] = some (.bool true) := by
  obtain ⟨a, rfl, ha'⟩ := u32_nat ha
  obtain ⟨b, rfl, hb'⟩ := u32_nat hb
  obtain ⟨x, rfl, hx'⟩ := u32_nat hx
  exact (e_splits chkP chkR hasP wiP cmpPV lessP wsB wsC a n b m x).trans (splits ha' hb' hx' n m)
end Go.Sx.Mk


/- Layer 2, by value: same, spoil, Less of the reference; the law PrefixLess. -/
namespace Go.Sx.Mk
open Go.Proofs Go.RowKit
def sgRR (f : (List Row) → (List Row) → GT SV) : List SV → GT SV
  | [.rows [.i .u32, .i .i64] l, .rows [.i .u32, .i .i64] m] => f l m
  | _ => .stop
theorem sgRR.summ {P : Program} {g : FuncId} {s : List SV → Option SV} (h : Summ P g s) {f : (List Row) → (List Row) → GT SV} (hf : ∀ (l : List Row) (m : List Row) sv, (f l m).opt = some sv → s [.rows [.i .u32, .i .i64] l, .rows [.i .u32, .i .i64] m] = some sv) : SummT P g (sgRR f) := h.weaken (by
  intro svs sv h'
  unfold sgRR at h'
  split at h'
  · exact hf _ _ sv h'
  · cases h')
noncomputable def bodysm : Code := bodyOf 12 [0,1,0,1,1]
def livesm : List (Nat × Option (List CK)) := [(0, none), (1, none), (5, none)]
def outsm : List (Nat × Option (List CK)) := [(4, none)]
def mksm (l : List Row) (m : List Row) (n : Nat) (k : Nat) (i : Int) : St := ⟨sel 26 [0, 1, 5] [.vs 0 0 n, .vs 1 0 k, .int .i64 i], [.vec false [.i .u32, .i .i64] l none, .vec false [.i .u32, .i .i64] m none]⟩
def finsm (s : SV) : St := ⟨sel 26 [4] [s], []⟩
structure Xsm where
  l : List Row
  m : List Row
  n : Nat
  k : Nat
  i : Int
def Xsm.st (x : Xsm) : St := mksm x.l x.m x.n x.k x.i
def picksm : List SV → List Blk → Option Xsm
  | [.vs 0 0 n, .vs 1 0 k, .int .i64 i], [.vec false [.i .u32, .i .i64] l none, .vec false [.i .u32, .i .i64] m none] => some ⟨l, m, n, k, i⟩
  | _, _ => none
theorem picksm_ok : ∀ vals mem x, picksm vals mem = some x → x.st = ⟨sel 26 [0, 1, 5] vals, mem⟩ := by
  intro vals mem x h
  unfold picksm at h
  split at h
  · cases h; rfl
  · cases h
theorem step_sm (again : St → Option (E × St)) (l m : List Row) (n k : Nat) (i : Int) : step Try.prog G0 ents [] 1 bodysm livesm outsm again (mksm l m n k i) = sure (decide (i < (↑n : Int)))
    (sure (decide ((0 : Int) ≤ i ∧ i < (↑n : Int)))
      (sure (decide ((0 : Int) ≤ i ∧ i < (↑k : Int)))
        (sure
          (!(List.getD (l.getD ((0 : Nat) + i.toNat) []) (0 : Nat) (0 : Int) ==
                List.getD (m.getD ((0 : Nat) + i.toNat) []) (0 : Nat) (0 : Int) &&
              (List.getD (l.getD ((0 : Nat) + i.toNat) []) ((0 : Nat) + (1 : Nat)) (0 : Int) ==
                  List.getD (m.getD ((0 : Nat) + i.toNat) []) ((0 : Nat) + (1 : Nat)) (0 : Int) &&
                true)))
          (some (E.ret, finsm (SV.bool false))) (again (mksm l m n k (IntKind.i64.wrap (i + (1 : Int))))))
        none)
      none)
    (some (E.brk (0 : Nat), finsm SV.poison)) := by kernel_rfl
def eq2 (r s : Row) : Bool := r.getD 0 0 == s.getD 0 0 && (r.getD 1 0 == s.getD 1 0 && true)
def endsm (b : Bool) : E × St := if b then (.brk 0, finsm .poison) else (.ret, finsm (.bool false))
theorem run_sm : ∀ (rs rr pre prr : List Row), (pre ++ rs).length ≤ maxLen → prr.length = pre.length → rs.length = rr.length →
    loopN (step Try.prog G0 ents [] 1 bodysm livesm outsm) (rs.length + 1) (mksm (pre ++ rs) (prr ++ rr) (pre ++ rs).length (prr ++ rr).length (pre.length : Nat)) = some (endsm (sameF eq2 rs rr))
  | [], rr, pre, prr, _, _, _ => by
    show step _ _ _ _ _ _ _ _ _ _ = _
    rw [step_sm]
    simp [sameF, sure, endsm]
  | x :: rs, [], pre, prr, _, _, h => by simp at h
  | x :: rs, y :: rr, pre, prr, hlen, hp, h => by
    show step _ _ _ _ _ _ _ _ (loopN _ (rs.length + 1)) _ = _
    rw [step_sm]
    have hm : maxLen = 9223372036854775807 := rfl
    have hl : ((pre.length : Nat) : Int) < (((pre ++ x :: rs).length : Nat) : Int) := by simp; omega
    have h1 : (0 : Int) ≤ ((pre.length : Nat) : Int) ∧ ((pre.length : Nat) : Int) < (((pre ++ x :: rs).length : Nat) : Int) := ⟨by omega, hl⟩
    have h2 : (0 : Int) ≤ ((pre.length : Nat) : Int) ∧ ((pre.length : Nat) : Int) < (((prr ++ y :: rr).length : Nat) : Int) := ⟨by omega, by simp [hp]; omega⟩
    have h3 : IntKind.wrap .i64 (((pre.length : Nat) : Int) + 1) = (((pre ++ [x]).length : Nat) : Int) := by rw [wrap_i64 (by omega) (by omega)]; simp
    have h5 : pre ++ x :: rs = (pre ++ [x]) ++ rs := by simp
    have h5' : prr ++ y :: rr = (prr ++ [y]) ++ rr := by simp
    have ih := run_sm rs rr (pre ++ [x]) (prr ++ [y]) (by rw [← h5]; exact hlen) (by simp [hp]) (by simpa using h)
    rw [← h5, ← h5'] at ih
    rw [mid_get, mid_get' prr y rr _ hp.symm, h3]
    have he : ∀ b : Bool, (x.getD 0 0 == y.getD 0 0 && (x.getD (0 + 1) 0 == y.getD (0 + 1) 0 && true)) = eq2 x y := fun _ => rfl
    rw [he true]
    simp only [hl, h1, h2, decide_true, and_self, sure, sameF]
    cases eq2 x y with
    | true => rw [Bool.true_and]; exact ih
    | false => rfl
def csm (x : Xsm) : Bool := x.i == 0
def oksm (l m : List Row) (n k : Nat) : Bool := decide (n = l.length ∧ k = m.length ∧ l.length = m.length)
theorem loopsm : LoopOK Try.prog bodysm (fun st => (sumT 26 [0, 1, 5] picksm (fun x => .when (csm x && oksm x.l x.m x.n x.k) (.br (sameF eq2 x.l x.m) (.leaf (.brk 0, finsm .poison)) (.leaf (.ret, finsm (.bool false))))) st).opt) := by
  refine loop_two (imp := []) (facts G0_ok) 0 1 bodysm (lpOK_none _) livesm outsm 26 [0, 1, 5] picksm Xsm.st (fun x => csm x && oksm x.l x.m x.n x.k) (fun x => sameF eq2 x.l x.m) _ _ picksm_ok ?_
  intro x h1 hlen
  simp only [csm, oksm, Bool.and_eq_true, beq_iff_eq, decide_eq_true_eq] at h1
  obtain ⟨hi, hn, hk, he⟩ := h1
  have h5 := run_sm x.l x.m [] [] (by simpa using hlen 0 false _ x.l none rfl) rfl he
  refine ⟨x.l.length + 1, ?_⟩
  unfold Xsm.st
  rw [hi, hn, hk]
  exact h5
def annsm (ok : List Row → List Row → Nat → Nat → Bool) (sm : List Row → List Row → Bool) : Ann := ⟨livesm, 0, some (sumT 26 [0, 1, 5] picksm (fun x => .when (csm x && ok x.l x.m x.n x.k) (.br (sm x.l x.m) (.leaf (.brk 0, finsm .poison)) (.leaf (.ret, finsm (.bool false))))))⟩
noncomputable def T_sm (ok : List Row → List Row → Nat → Nat → Bool) (sm : List Row → List Row → Bool) (l m : List Row) : GT SV := GT.br ((↑l.length : Int) != (↑m.length : Int)) (GT.leaf (SV.bool false))
    (GT.br ((0 : Int) == (0 : Int) && ok l m l.length m.length)
      (GT.br (sm l m) (GT.leaf (SV.bool true)) (GT.leaf (SV.bool false))) GT.stop)
theorem e_sm (ok : List Row → List Row → Nat → Nat → Bool) (sm : List Row → List Row → Bool) (l m : List Row) : evFn Try.prog G0 ents [] (lpL [(12, [0, 1, 0, 1, 1], annsm ok sm)]) 1 12 [.rows [.i .u32, .i .i64] l, .rows [.i .u32, .i .i64] m] = (T_sm ok sm l m).opt := by kernel_rfl
def smV (l m : List Row) : Bool := !((l.length : Int) != (m.length : Int)) && sameF eq2 l m
theorem S_same : SummT Try.prog 12 (sgRR fun l m => .leaf (.bool (smV l m))) := sgRR.summ (evFn_summ (factsL G0_ok _ (at_one (f0 := 12) (p0 := [0, 1, 0, 1, 1]) (ann := annsm oksm (sameF eq2)) (fun s h => by cases h; exact loopsm))) 1 12) (fun l m sv h => by
  refine (e_sm oksm (sameF eq2) l m).trans ?_
  refine Eq.trans ?_ h
  unfold T_sm smV
  cases he : ((l.length : Int) != (m.length : Int)) with
  | true => rfl
  | false =>
    have h2 : (l.length : Int) = (m.length : Int) := by simpa using he
    have hok : oksm l m l.length m.length = true := decide_eq_true ⟨rfl, rfl, by omega⟩
    rw [hok]
    cases sameF eq2 l m <;> rfl)
/-! ### Less of the reference -/
def gdL (k : Int) (a n b : Int) : Bool := decide (33 - k ≤ n ∧ 0 ≤ a ∧ a < 4294967296 ∧ 0 ≤ b ∧ b < 4294967296)
def Grl (g : I3 Bool) (lr : I4 (List Row)) (cr : I2 Int) (wr : I4 Bool) (ha la : I2 Int) (hn he : I2 Int) : FuncId → Option (List SV → GT SV)
  | 11 => some (sgPP fun a n b m => .when (g a n b) (.leaf (.rows [.i .u32, .i .i64] (lr a n b m))))
  | 15 => some (sgP fun a n => .leaf (.int .i64 (cr a n)))
  | 31 => some (sgPP fun a n b m => .leaf (.bool (wr a n b m)))
  | 24 => some (sgP fun a n => .leaf (.tup [px (la a n) (hn a n), px (ha a n) (hn a n), .int .i64 (he a n)]))
  | _ => none
noncomputable def T_rless (g : I3 Bool) (lr : I4 (List Row)) (cr : I2 Int) (wr : I4 Bool) (ha la : I2 Int) (hn he : I2 Int) (a n b m : Int) : GT SV := GT.br (cr a n != (0 : Int)) (GT.leaf (SV.rows [CK.i IntKind.u32, CK.i IntKind.i64] []))
    (GT.br (cr b m != (0 : Int)) (GT.leaf (SV.rows [CK.i IntKind.u32, CK.i IntKind.i64] []))
      (GT.br (wr a n b m) (GT.leaf (SV.rows [CK.i IntKind.u32, CK.i IntKind.i64] []))
        (GT.br (!wr b m a n) (GT.leaf (SV.rows [CK.i IntKind.u32, CK.i IntKind.i64] [[a, n]]))
          (GT.br (g (la a n) (hn a n) b)
            (GT.br (decide ((0 : Nat) + (lr (la a n) (hn a n) b m).length < (4000000000 : Nat)))
              (GT.br (g (ha a n) (hn a n) b)
                (GT.br
                  (decide
                    (([] ++ lr (la a n) (hn a n) b m).length + (lr (ha a n) (hn a n) b m).length < (4000000000 : Nat)))
                  (GT.leaf
                    (SV.rows [CK.i IntKind.u32, CK.i IntKind.i64]
                      ([] ++ lr (la a n) (hn a n) b m ++ lr (ha a n) (hn a n) b m)))
                  GT.stop)
                GT.stop)
              GT.stop)
            GT.stop))))
theorem e_rless (g : I3 Bool) (lr : I4 (List Row)) (cr : I2 Int) (wr : I4 Bool) (ha la : I2 Int) (hn he : I2 Int) (a n b m : Int) : evFn Try.prog (Grl g lr cr wr ha la hn he) ents [11] nolp 1 11 [px a n, px b m] = (T_rless g lr cr wr ha la hn he a n b m).opt := by kernel_rfl
/-! ### spoil -/
noncomputable def bodyso : Code := bodyOf 13 [0,1,0]
def liveso : List (Nat × Option (List CK)) := [(0, none), (2, none)]
def outso : List (Nat × Option (List CK)) := [(0, none)]
def mkso (a : Int) (n : Int) (b : Int) (m : Int) (l : List Row) (r : List Row) (x : List Row) (y : List Row) (i : Int) : St := ⟨sel 24 [0, 2] [.vw 2, .int .i64 i], [.cells [.int .u32 a, .int .i64 n], .cells [.int .u32 b, .int .i64 m], .vec true [.i .u32, .i .i64] l none, .vec true [.i .u32, .i .i64] r none, .vec true [.i .u32, .i .i64] x none, .vec true [.i .u32, .i .i64] y none]⟩
def finso (a : Int) (n : Int) (b : Int) (m : Int) (l : List Row) (r : List Row) (x : List Row) (y : List Row) : St := ⟨sel 24 [0] [.vw 2], [.cells [.int .u32 a, .int .i64 n], .cells [.int .u32 b, .int .i64 m], .vec true [.i .u32, .i .i64] l none, .vec true [.i .u32, .i .i64] r none, .vec true [.i .u32, .i .i64] x none, .vec true [.i .u32, .i .i64] y none]⟩
structure Xso where
  a : Int
  n : Int
  b : Int
  m : Int
  l : List Row
  r : List Row
  x : List Row
  y : List Row
  i : Int
def Xso.st (x : Xso) : St := mkso x.a x.n x.b x.m x.l x.r x.x x.y x.i
def pickso : List SV → List Blk → Option Xso
  | [.vw 2, .int .i64 i], [.cells [.int .u32 a, .int .i64 n], .cells [.int .u32 b, .int .i64 m], .vec true [.i .u32, .i .i64] l none, .vec true [.i .u32, .i .i64] r none, .vec true [.i .u32, .i .i64] x none, .vec true [.i .u32, .i .i64] y none] => some ⟨a, n, b, m, l, r, x, y, i⟩
  | _, _ => none
theorem pickso_ok : ∀ vals mem x, pickso vals mem = some x → x.st = ⟨sel 24 [0, 2] vals, mem⟩ := by
  intro vals mem x h
  unfold pickso at h
  split at h
  · cases h; rfl
  · cases h
theorem step_so (again : St → Option (E × St)) (a n b m : Int) (l r x y : List Row) (i : Int) : stepP Try.prog G0 ents [] (fun _ _ => none) (fun _ => none) 6 1 bodyso liveso outso again (mkso a n b m l r x y i) = sure (decide (i < (↑l.length : Int)))
    (sure (decide ((0 : Int) ≤ i ∧ i < (↑l.length : Int)))
      (again
        (mkso a n b m (stR l i.toNat (0 : Nat) (2 : Nat) [(77 : Int), (77 : Int)]) r x y
          (IntKind.i64.wrap (i + (1 : Int)))))
      none)
    (some (E.brk (0 : Nat), finso a n b m l r x y)) := by kernel_rfl
def spR (r : Row) : Row := r.take 0 ++ [77, 77] ++ r.drop (0 + 2)
theorem run_so (a n b m : Int) (r x y : List Row) : ∀ (rs pre : List Row), (pre ++ rs).length ≤ maxLen →
    loopN (stepP Try.prog G0 ents [] (fun _ _ => none) (fun _ => none) 6 1 bodyso liveso outso) (rs.length + 1) (mkso a n b m (pre ++ rs) r x y (pre.length : Nat)) = some (.brk 0, finso a n b m (pre ++ rs.map spR) r x y)
  | [], pre, _ => by
    show stepP _ _ _ _ _ _ _ _ _ _ _ _ _ = _
    rw [step_so]
    simp [sure]
  | q :: rs, pre, hlen => by
    show stepP _ _ _ _ _ _ _ _ _ _ _ (loopN _ (rs.length + 1)) _ = _
    rw [step_so]
    have hm : maxLen = 9223372036854775807 := rfl
    have hl : ((pre.length : Nat) : Int) < (((pre ++ q :: rs).length : Nat) : Int) := by simp; omega
    have h1 : (0 : Int) ≤ ((pre.length : Nat) : Int) ∧ ((pre.length : Nat) : Int) < (((pre ++ q :: rs).length : Nat) : Int) := ⟨by omega, hl⟩
    have h3 : IntKind.wrap .i64 (((pre.length : Nat) : Int) + 1) = (((pre ++ [spR q]).length : Nat) : Int) := by rw [wrap_i64 (by omega) (by omega)]; simp
    have h5 : stR (pre ++ q :: rs) ((pre.length : Nat) : Int).toNat 0 2 [77, 77] = (pre ++ [spR q]) ++ rs := by
      unfold stR spR
      simp [List.getD_eq_getElem?_getD]
    have ih := run_so a n b m r x y rs (pre ++ [spR q]) (by simpa using hlen)
    rw [h5, h3]
    simp only [hl, h1, decide_true, and_self, sure]
    exact ih.trans (by simp)
def spL (l : List Row) : List Row := l.map spR
def cso (x : Xso) : Bool := x.i == 0
theorem loopso : LoopOKP Try.prog 6 bodyso (fun st => (sumT 24 [0, 2] pickso (fun x => .when (cso x) (.leaf (.brk 0, finso x.a x.n x.b x.m (spL x.l) x.r x.x x.y))) st).opt) := by
  refine loop_one (imp := []) (facts G0_ok) 6 1 bodyso (lpOK_none _) liveso outso 24 [0, 2] pickso Xso.st cso (fun x => (.brk 0, finso x.a x.n x.b x.m (spL x.l) x.r x.x x.y)) pickso_ok ?_
  intro x h1 hlen
  have hi : x.i = 0 := eq_of_beq h1
  have h5 := run_so x.a x.n x.b x.m x.r x.x x.y x.l [] (by simpa using hlen 2 true _ x.l none rfl)
  refine ⟨x.l.length + 1, ?_⟩
  unfold Xso.st
  rw [hi]
  exact h5
def annso (sp : List Row → List Row) : Ann := ⟨liveso, 6, some (sumT 24 [0, 2] pickso (fun x => .when (cso x) (.leaf (.brk 0, finso x.a x.n x.b x.m (sp x.l) x.r x.x x.y))))⟩
def Gll (g : I3 Bool) (lm lr : I4 (List Row)) (sm : List Row → List Row → Bool) : FuncId → Option (List SV → GT SV)
  | 14 => some (sg0 (.leaf (.bool true)))
  | 10 => some (sgPP fun a n b m => .leaf (.rows [.i .u32, .i .i64] (lm a n b m)))
  | 11 => some (sgPP fun a n b m => .when (g a n b) (.leaf (.rows [.i .u32, .i .i64] (lr a n b m))))
  | 12 => some (sgRR fun l m => .leaf (.bool (sm l m)))
  | _ => none
noncomputable def T_lless (g : I3 Bool) (lm lr : I4 (List Row)) (sm : List Row → List Row → Bool) (sp : List Row → List Row) (a n b m : Int) : GT SV := GT.br (g a n b)
    (GT.br (g b m a)
      (GT.br (decide ((sp (lm a n b m)).length + (1 : Nat) < (4000000000 : Nat)))
        (GT.br
          (decide
            ((0 : Int) ≤ IntKind.i64.wrap ((↑(sp (lm a n b m) ++ [[(0 : Int), (78 : Int)]]).length : Int) - (1 : Int)) ∧
              IntKind.i64.wrap ((↑(sp (lm a n b m) ++ [[(0 : Int), (78 : Int)]]).length : Int) - (1 : Int)) <
                (↑(sp (lm a n b m) ++ [[(0 : Int), (78 : Int)]]).length : Int)))
          (GT.br ((↑(lm b m a n).length : Int) == (0 : Int))
            (GT.br (sm (lm a n b m) (lr a n b m))
              (GT.br (sm (lm b m a n) (lr b m a n))
                (GT.br (sm (lm a n b m) (lr a n b m)) (GT.leaf (SV.bool true)) (GT.leaf (SV.bool false)))
                (GT.leaf (SV.bool false)))
              (GT.leaf (SV.bool false)))
            (GT.br (sm (lm a n b m) (lr a n b m))
              (GT.br (sm (lm b m a n) (lr b m a n))
                (GT.br (sm (lm a n b m) (lr a n b m)) (GT.leaf (SV.bool (sm (lm b m a n) (lr b m a n))))
                  (GT.leaf (SV.bool false)))
                (GT.leaf (SV.bool false)))
              (GT.leaf (SV.bool false))))
          GT.stop)
        GT.stop)
      GT.stop)
    GT.stop
theorem e_lless (g : I3 Bool) (lm lr : I4 (List Row)) (sm : List Row → List Row → Bool) (sp : List Row → List Row) (a n b m : Int) : evFn Try.prog (Gll g lm lr sm) ents [10, 11] (lpL [(13, [0, 1, 0], annso sp)]) 2 3 [px a n, px b m] = (T_lless g lm lr sm sp a n b m).opt := by kernel_rfl
end Go.Sx.Mk


/- Layer 2: the plain law behind PrefixLess: what Less leaves falls into what it leaves of the halves. -/
namespace Go.Sx.Mk
open Go.RowKit
theorem ok_low {a n : Nat} (h : okP a n) (hn : n < 32) : okP a (n + 1) := by
  refine ⟨by omega, ?_⟩
  have h0 := h.2
  have e : 2 ^ (32 - n) = 2 ^ (32 - (n + 1)) * 2 := by rw [← Nat.pow_succ]; congr 1; omega
  rw [e] at h0
  exact Nat.mod_eq_zero_of_dvd (Nat.dvd_trans ⟨2, rfl⟩ (Nat.dvd_of_mod_eq_zero h0))
theorem half_facts {a n : Nat} (ha : a < T32) (h : okP a n) (hn : n < 32) :
    okP (a + 2 ^ (31 - n)) (n + 1) ∧ a + 2 ^ (31 - n) < T32 ∧ (a / 2 ^ (31 - n)) % 2 = 0 ∧ (a + 2 ^ (31 - n)) / 2 ^ (31 - n) = a / 2 ^ (31 - n) + 1 ∧ a / 2 ^ (31 - n) * 2 ^ (31 - n) = a := by
  have hl := ok_low h hn
  have e : 32 - (n + 1) = 31 - n := by omega
  have h0 := hl.2
  have h1 := h.2
  rw [e] at h0
  obtain ⟨_, hlt, _⟩ := half_nat ha hn h.2
  have hp := Nat.two_pow_pos (31 - n)
  have hd := Nat.div_add_mod a (2 ^ (31 - n))
  rw [h0, Nat.add_zero, Nat.mul_comm] at hd
  refine ⟨⟨by omega, ?_⟩, hlt, ?_, Nat.add_div_right a hp, hd⟩
  · rw [e, Nat.add_mod_right, h0]
  · have e2 : 2 ^ (32 - n) = 2 ^ (31 - n) * 2 := by rw [← Nat.pow_succ]; congr 1; omega
    rw [e2, Nat.mod_mul, h0, Nat.zero_add] at h1
    exact (Nat.mul_eq_zero.1 h1).resolve_left (by omega)
/-- what Less tells where b lies strictly within a -/
theorem lessP_strict {a n b m : Nat} (ha : a < T32) (hb : b < T32) (oa : okP a n) (ob : okP b m) (hnm : n < m) (hab : b / 2 ^ (32 - n) = a / 2 ^ (32 - n)) :
    lessP a n b m = lowF careV b m (m - n) ++ (higF careV b m (m - n)).reverse := by
  have e1 : (chkP a n != 0) = false := by rw [chkP_nat ha oa]; rfl
  have e2 : (chkP b m != 0) = false := by rw [chkP_nat hb ob]; rfl
  have hm := ob.1
  unfold lessP
  rw [e1, e2, wiP_nat ha hb oa ob, wiP_nat hb ha ob oa, decide_eq_false (by omega), decide_eq_true ⟨by omega, hab⟩]
  have hP := parts (x := 0) ha hb (by unfold T32; omega) oa ob hab.symm (m - n) (by omega)
  have er : ((m : Int) + 1 - ((n : Int) + 1)).toNat = m - n := by omega
  have hp2 : (higF careV b m (m - n)).map pair2 = higF careV b m (m - n) := pair2_id _ (fun r hr => hP.two r (.inr hr))
  show revV (lowV b m ((n : Int) + 1)) (higV b m ((n : Int) + 1)) = _
  unfold revV lowV higV
  rw [er, hp2]
theorem lessP_self {a n : Nat} (ha : a < T32) (oa : okP a n) : lessP a n a n = [] := by
  have e1 : (chkP a n != 0) = false := by rw [chkP_nat ha oa]; rfl
  unfold lessP
  rw [e1, wiP_nat ha ha oa oa, decide_eq_true ⟨Nat.le_refl _, rfl⟩]; rfl
theorem lessP_apart {a n b m : Nat} (ha : a < T32) (hb : b < T32) (oa : okP a n) (ob : okP b m) (hnm : n ≤ m) (hab : ¬ b / 2 ^ (32 - n) = a / 2 ^ (32 - n)) : lessP a n b m = [[(a : Int), (n : Int)]] := by
  have e1 : (chkP a n != 0) = false := by rw [chkP_nat ha oa]; rfl
  have e2 : (chkP b m != 0) = false := by rw [chkP_nat hb ob]; rfl
  unfold lessP
  have h1 : ¬ (m ≤ n ∧ a / 2 ^ (32 - m) = b / 2 ^ (32 - m)) := by
    rintro ⟨h1, h2⟩
    have : n = m := by omega
    subst this
    exact hab h2.symm
  rw [e1, e2, wiP_nat ha hb oa ob, wiP_nat hb ha ob oa, decide_eq_false h1, decide_eq_false (fun h => hab h.2)]; rfl
/-- the half in which b lies -/
theorem less_in_half {a n b m : Nat} (ha : a < T32) (hb : b < T32) (oa : okP a n) (ob : okP b m) (hnm : n ≤ m) (hab : b / 2 ^ (32 - n) = a / 2 ^ (32 - n)) :
    lessP a n b m = lowF careV b m (m - n) ++ (higF careV b m (m - n)).reverse := by
  by_cases e : n = m
  · subst e
    have h1 := Nat.div_add_mod a (2 ^ (32 - n))
    have h2 := Nat.div_add_mod b (2 ^ (32 - n))
    rw [oa.2, Nat.add_zero] at h1
    rw [ob.2, Nat.add_zero, hab] at h2
    have : a = b := by omega
    subst this
    rw [lessP_self ha oa, Nat.sub_self]; rfl
  · exact lessP_strict ha hb oa ob (by omega) hab
theorem less_rec {a n b m : Nat} (ha : a < T32) (hb : b < T32) (oa : okP a n) (ob : okP b m) (hnm : n < m) (hab : b / 2 ^ (32 - n) = a / 2 ^ (32 - n)) :
    lessP a n b m = lessP a ((n + 1 : Nat) : Int) b m ++ lessP ((a + 2 ^ (31 - n) : Nat) : Int) ((n + 1 : Nat) : Int) b m := by
  have hm := ob.1
  have hn : n < 32 := by omega
  obtain ⟨f1, f2, f3, f4, f5⟩ := half_facts ha oa hn
  have fl := ok_low oa hn
  have eK : 32 - (n + 1) = 31 - n := by omega
  rw [lessP_strict ha hb oa ob hnm hab]
  obtain ⟨r, hr⟩ : ∃ r, m - n = r + 1 := ⟨m - n - 1, by omega⟩
  have hr2 : m - (n + 1) = r := by omega
  rw [hr]
  have ek : (m : Int) - (r : Int) = ((n + 1 : Nat) : Int) := by omega
  obtain ⟨q1, q2⟩ := qA_nat hb (k := n + 1) (by omega) (by omega)
  have q3 := qA_below hb (k := n + 1) (by omega) (by omega)
  rw [eK] at q1 q2 q3
  have hBa : b / 2 ^ (31 - n) / 2 = a / 2 ^ (31 - n) / 2 := by
    rw [Nat.div_div_eq_div_mul, Nat.div_div_eq_div_mul, ← Nat.pow_succ, show (31 - n).succ = 32 - n by omega]; exact hab
  have hlow : lowF careV b m (r + 1) = match decide (b / 2 ^ (31 - n) % 2 = 1) with
      | true => [((flip (b / 2 ^ (31 - n)) * 2 ^ (31 - n) : Nat) : Int), ((n + 1 : Nat) : Int)] :: lowF careV b m r
      | false => lowF careV b m r := by
    show (match decide (qA careV b ((m : Int) - (r : Int)) < (b : Int)) with
      | true => [qA careV b ((m : Int) - (r : Int)), (m : Int) - (r : Int)] :: lowF careV b m r
      | false => lowF careV b m r) = _
    rw [ek, q3, q1]
  have hhig : higF careV b m (r + 1) = match decide (b / 2 ^ (31 - n) % 2 = 1) with
      | true => higF careV b m r
      | false => [((flip (b / 2 ^ (31 - n)) * 2 ^ (31 - n) : Nat) : Int), ((n + 1 : Nat) : Int)] :: higF careV b m r := by
    show (match decide (qA careV b ((m : Int) - (r : Int)) < (b : Int)) with
      | true => higF careV b m r
      | false => [qA careV b ((m : Int) - (r : Int)), (m : Int) - (r : Int)] :: higF careV b m r) = _
    rw [ek, q3, q1]
  by_cases ho : b / 2 ^ (31 - n) % 2 = 1
  · have hB : b / 2 ^ (31 - n) = a / 2 ^ (31 - n) + 1 := by omega
    have hfl : flip (b / 2 ^ (31 - n)) * 2 ^ (31 - n) = a := by
      unfold flip
      rw [if_pos ho, hB, Nat.add_sub_cancel, f5]
    rw [hlow, hhig, decide_eq_true ho, hfl]
    rw [lessP_apart ha hb fl ob (by omega) (by rw [eK]; omega), less_in_half f2 hb f1 ob (by omega) (by rw [eK, f4]; exact hB), hr2]
    rfl
  · have hB : b / 2 ^ (31 - n) = a / 2 ^ (31 - n) := by omega
    have hfl : flip (b / 2 ^ (31 - n)) * 2 ^ (31 - n) = a + 2 ^ (31 - n) := by
      unfold flip
      rw [if_neg ho, hB, Nat.succ_mul, f5]
    rw [hlow, hhig, decide_eq_false ho, hfl]
    rw [lessP_apart f2 hb f1 ob (by omega) (by rw [eK, f4]; omega), less_in_half ha hb fl ob (by omega) (by rw [eK]; exact hB), hr2]
    simp
theorem lessP_len {a n b m : Int} : (lessP a n b m).length ≤ 100 := by
  unfold lessP
  cases h1 : (chkP a n != 0) with
  | true => simp [sure]
  | false =>
    cases h2 : (chkP b m != 0) with
    | true => simp [sure]
    | false =>
      cases wiP a n b m with
      | true => simp [sure]
      | false =>
        cases wiP b m a n with
        | false => simp [sure]
        | true =>
          have g1 := chkP_ok (ne_of h1 rfl)
          have g2 := chkP_ok (ne_of h2 rfl)
          show (revV (lowV b m (n + 1)) (higV b m (n + 1))).length ≤ 100
          unfold revV lowV higV
          rw [List.length_append, List.length_reverse, List.length_map, parts_len]
          omega
end Go.Sx.Mk


/- Layer 2: Less of the reference answers as the program's; the law PrefixLess. -/
namespace Go.Sx.Mk
open Go.Proofs Go.RowKit
def spR11 (g : I3 Bool) : List SV → GT SV := sgPP fun a n b m => .when (g a n b) (.leaf (.rows [.i .u32, .i .i64] (lessP a n b m)))
theorem Grl_ok {g : I3 Bool} (h0 : SummT Try.prog 11 (spR11 g)) : ∀ f s, Grl g lessP chkR wiR rhhA rhlA rhN rhE f = some s → SummT Try.prog f s := fun f s h => by
  unfold Grl at h
  split at h
  · cases h; exact h0
  · cases h; exact S_rchk
  · cases h; exact S_rwithin
  · cases h; exact S_rhalves
  · cases h
theorem rless_tree {a b : Nat} (ha' : a < T32) (hb' : b < T32) (n m : Int) (g : I3 Bool)
    (hg : ∀ (c k : Nat), n = (k : Int) → c < T32 → k < 32 → g c ((k + 1 : Nat) : Int) b = true) :
    (T_rless g lessP chkR wiR rhhA rhlA rhN rhE a n b m).opt = some (SV.rows [CK.i IntKind.u32, CK.i IntKind.i64] (lessP a n b m)) := by
  have hl : lessP a n b m = sure (chkR a n != 0) [] (sure (chkR b m != 0) [] (sure (wiR a n b m) [] (sure (!wiR b m a n) [[(a : Int), n]] (lessP a n b m)))) := by
    conv => lhs; unfold lessP
    rw [chk_eq ha', chk_eq hb', wi_eq ha' hb', wi_eq hb' ha']
    cases h1 : (chkR a n != 0) with
    | true => rfl
    | false =>
      cases h2 : (chkR b m != 0) with
      | true => rfl
      | false =>
        cases h3 : wiR a n b m with
        | true => rfl
        | false =>
          cases h4 : wiR b m a n with
          | false => rfl
          | true =>
            show revV _ _ = lessP a n b m
            unfold lessP
            rw [chk_eq ha', chk_eq hb', wi_eq ha' hb', wi_eq hb' ha', h1, h2, h3, h4]; rfl
  rw [hl]
  unfold T_rless
  cases h1 : (chkR a n != 0) with
  | true => rfl
  | false =>
    cases h2 : (chkR b m != 0) with
    | true => rfl
    | false =>
      cases h3 : wiR a n b m with
      | true => rfl
      | false =>
        cases h4 : wiR b m a n with
        | false => rfl
        | true =>
          have c1 := ne_of h1 rfl
          have c2 := ne_of h2 rfl
          obtain ⟨n, rfl, hn, hn0⟩ := chkS_zero ((chkR_eq ha' n).symm.trans c1)
          obtain ⟨m, rfl, hm, hm0⟩ := chkS_zero ((chkR_eq hb' m).symm.trans c2)
          have oa : okP a n := ⟨hn, hn0⟩
          have ob : okP b m := ⟨hm, hm0⟩
          rw [← wi_eq ha' hb', wiP_nat ha' hb' oa ob, decide_eq_false_iff_not] at h3
          rw [← wi_eq hb' ha', wiP_nat hb' ha' ob oa, decide_eq_true_eq] at h4
          have hnm : n < m := by
            rcases Nat.lt_or_ge n m with h | h
            · exact h
            · exact absurd ⟨h, by have : n = m := by omega
                                  subst this; exact h4.2.symm⟩ h3
          have hrec := less_rec ha' hb' oa ob hnm h4.2
          have hn32 : n < 32 := by omega
          obtain ⟨_, hlt, _⟩ := half_nat ha' hn32 oa.2
          have e1 : rhlA a n = a := by
            unfold rhlA
            rw [h1, show ((n : Int) == 32) = false by rw [beq_eq_false_iff_ne]; omega]; rfl
          have e2 : rhhA a n = ((a + 2 ^ (31 - n) : Nat) : Int) := by
            rw [← hhA_eq ha', (half_nat ha' hn32 oa.2).1]
          have e3 : rhN a n = ((n + 1 : Nat) : Int) := by
            unfold rhN
            rw [h1, show ((n : Int) == 32) = false by rw [beq_eq_false_iff_ne]; omega]
            show IntKind.wrap .i64 ((n : Int) + 1) = _
            rw [wrap_i64 (by omega) (by omega)]; omega
          rw [e1, e2, e3, hg a n rfl ha' hn32, hg _ n rfl hlt hn32]
          have l1 := lessP_len (a := a) (n := ((n + 1 : Nat) : Int)) (b := b) (m := m)
          have l2 := lessP_len (a := ((a + 2 ^ (31 - n) : Nat) : Int)) (n := ((n + 1 : Nat) : Int)) (b := b) (m := m)
          have g1 : decide ((0 : Nat) + (lessP a ((n + 1 : Nat) : Int) b m).length < 4000000000) = true := decide_eq_true (by omega)
          have g2 : decide (([] ++ lessP a ((n + 1 : Nat) : Int) b m).length + (lessP ((a + 2 ^ (31 - n) : Nat) : Int) ((n + 1 : Nat) : Int) b m).length < 4000000000) = true := decide_eq_true (by rw [List.nil_append]; omega)
          rw [g1, g2, hrec]
          simp only [List.nil_append]
          rfl
/-- the condition on the length is met, or there is nothing to tell -/
def gdU (a b : Int) : Bool := decide (0 ≤ a ∧ a < 4294967296 ∧ 0 ≤ b ∧ b < 4294967296)
theorem S_rstep (G g : I3 Bool) (h0 : SummT Try.prog 11 (spR11 g)) (hG : ∀ a n b, G a n b = true → gdU a b = true)
    (hg : ∀ (a : Int) (b c k : Nat), G a (k : Int) b = true → b < T32 → c < T32 → k < 32 → g c ((k + 1 : Nat) : Int) b = true) : SummT Try.prog 11 (spR11 G) :=
  sgPP.summ (evFn_summ (facts (Grl_ok h0)) 1 11) (fun a n b m sv h => by
    obtain ⟨h1, h2⟩ := GT.opt_when h
    obtain ⟨a0, a1, b0, b1⟩ := of_decide_eq_true (hG _ _ _ h1)
    obtain ⟨a, rfl, ha⟩ := nat_of (n := a) (b := 4294967296) ⟨a0, a1⟩
    obtain ⟨b, rfl, hb⟩ := nat_of (n := b) (b := 4294967296) ⟨b0, b1⟩
    refine (e_rless g lessP chkR wiR rhhA rhlA rhN rhE a n b m).trans (Eq.trans ?_ h2)
    exact rless_tree ha hb n m g (fun c k hk hc hk2 => by subst hk; exact hg a b c k h1 hb hc hk2))
theorem S_none : SummT Try.prog 11 (spR11 fun _ _ _ => false) := fun w args svs sv h hrd => by
  have : (spR11 (fun _ _ _ => false) svs).opt = none := by
    unfold spR11 sgPP
    split <;> rfl
  have h' : (spR11 (fun _ _ _ => false) svs).opt = some sv := h
  rw [this] at h'
  cases h'
theorem S_rk : ∀ k : Nat, SummT Try.prog 11 (spR11 (gdL k))
  | 0 => S_rstep _ _ S_none (fun a n b h => by have := of_decide_eq_true h; exact decide_eq_true (by omega)) (fun a b c k h1 hb hc hk => by have := of_decide_eq_true h1; omega)
  | k + 1 => S_rstep _ (gdL k) (S_rk k) (fun a n b h => by have := of_decide_eq_true h; exact decide_eq_true (by omega)) (fun a b c j h1 hb hc hj => by
    have := of_decide_eq_true h1
    unfold T32 at hb hc
    exact decide_eq_true (by omega))
theorem S_rless : SummT Try.prog 11 (spR11 fun a _ b => gdU a b) :=
  S_rstep _ (gdL 33) (S_rk 33) (fun a n b h => h) (fun a b c k h1 hb hc hk => by
    unfold T32 at hb hc
    exact decide_eq_true (by omega))
theorem Gll_ok : ∀ f s, Gll (fun a _ b => gdU a b) lessP lessP smV f = some s → SummT Try.prog f s := fun f s h => by
  unfold Gll at h
  split at h
  · cases h; exact S_awake
  · cases h; exact S_less
  · cases h; exact S_rless
  · cases h; exact S_same
  · cases h
theorem smV_refl (l : List Row) : smV l l = true := by
  unfold smV
  rw [sameF_refl (fun r => by simp [eq2])]
  simp
theorem lesses (a n b m : Int) (ha : U32 a) (hb : U32 b) : (T_lless (fun a _ b => gdU a b) lessP lessP smV spL a n b m).opt = some (.bool true) := by
  unfold T_lless
  dsimp only
  have g1 : gdU a b = true := decide_eq_true ⟨ha.1, ha.2, hb.1, hb.2⟩
  have g2 : gdU b a = true := decide_eq_true ⟨hb.1, hb.2, ha.1, ha.2⟩
  rw [g1, g2, smV_refl, smV_refl]
  have hl := lessP_len (a := a) (n := n) (b := b) (m := m)
  generalize lessP a n b m = l at hl
  have e1 : (spL l).length = l.length := by simp [spL]
  have e2 : (spL l ++ [[(0 : Int), 78]]).length = l.length + 1 := by simp [e1]
  have e3 : IntKind.wrap .i64 (((l.length + 1 : Nat) : Int) - 1) = (l.length : Int) := by rw [wrap_i64 (by omega) (by omega)]; omega
  rw [e2, e1, e3]
  have g3 : decide (l.length + 1 < 4000000000) = true := decide_eq_true (by omega)
  have g4 : decide ((0 : Int) ≤ (l.length : Int) ∧ (l.length : Int) < ((l.length + 1 : Nat) : Int)) = true := decide_eq_true (by omega)
  rw [g3, g4]
  cases (((lessP b m a n).length : Int) == 0) <;> rfl
noncomputable def evLess (svs : List SV) : Option SV := evFn Try.prog (Gll (fun a _ b => gdU a b) lessP lessP smV) ents [10, 11] (lpL [(13, [0, 1, 0], annso spL)]) 2 3 svs
theorem LLess.summ : Summ Try.prog 3 evLess := evFn_summ (factsL Gll_ok _ (at_one (f0 := 13) (p0 := [0, 1, 0]) (ann := annso spL) (fun s h => by cases h; exact loopso))) 2 3
theorem LLess.ok (a n b m : Int) (ha : U32 a) (hn : I64 n) (hb : U32 b) (hm : I64 m) : evLess [px a n, px b m] = some (.bool true) :=
  (e_lless (fun a _ b => gdU a b) lessP lessP smV spL a n b m).trans (lesses a n b m ha hb)
end Go.Sx.Mk
