/- What the functions of the layer answer, by value, and the plain laws behind the statement. Conditions: none beyond those that each theorem names. -/
import Derived.Test.YtcbhenngcfihpaaSxC
import Derived.Test.YtcbhenngcfihpaaChecked
set_option linter.unusedVariables false
set_option linter.unusedSimpArgs false
/- The program of this seat, by value: what is known of it at the start. -/
namespace Go.Sx.Mk
open Go.Proofs Go.RowKit
def nolp : FuncId → List Nat → Option Ann := fun _ _ => none
def lpOf (f0 : Nat) (p0 : List Nat) (ann : Ann) : FuncId → List Nat → Option Ann := fun f p => if f = f0 ∧ p = p0 then some ann else none
noncomputable def bodyOf (f : Nat) (p : List Nat) : Code := match Try.prog.funcs[f]? with
  | some fn => match fn.body with
    | some c => match codeAt c p with
      | some (.loop b) => b
      | _ => .skip
    | none => .skip
  | none => .skip
def ents : List Nat := [3, 4, 5, 6, 7, 8, 9, 10, 11, 12, 13, 14, 15, 16, 17, 18, 19, 20, 21, 22, 23, 24, 25, 26, 27, 28, 29, 30, 31, 32, 33, 34, 35, 36, 37, 38, 39, 40, 41, 42, 43]
theorem ents_ok : ∀ g, ents.contains g = true → Entered Try.prog g := by
  have key : ents.all (fun g => match Try.prog.funcs[g]? with | some fn => (fn.name != "runtime.NumGoroutine") && fn.body.isSome | none => false) = true := by kernel_rfl
  intro g hg
  have := List.all_eq_true.1 key g (by simpa using hg)
  split at this
  · rename_i fn hfn
    rw [Bool.and_eq_true] at this
    exact entered_of hfn this.1 this.2
  · cases this
theorem facts {Γ : FuncId → Option (List SV → GT SV)} (hΓ : ∀ g s, Γ g = some s → SummT Try.prog g s) : Facts Try.prog Γ ents nolp :=
  ⟨Checked.mixed Try.checked, hΓ, ents_ok, fun f fn c _ _ p ann s h => by cases h⟩
/-- what is known of a loop of a function -/
def LpAt (f0 : Nat) (p0 : List Nat) (ann : Ann) : Prop := ∀ s, ann.sum = some s → LoopOKP Try.prog ann.fuel (bodyOf f0 p0) (fun st => (s st).opt)
/-- the loops that are known -/
def lpL (l : List (Nat × List Nat × Ann)) : FuncId → List Nat → Option Ann := fun f p => match l with
  | [] => none
  | (f0, p0, ann) :: l => match decide (f = f0 ∧ p = p0) with
    | true => some ann
    | false => lpL l f p
theorem factsL {Γ : FuncId → Option (List SV → GT SV)} (hΓ : ∀ g s, Γ g = some s → SummT Try.prog g s) (l : List (Nat × List Nat × Ann)) (h : ∀ x ∈ l, LpAt x.1 x.2.1 x.2.2) : Facts Try.prog Γ ents (lpL l) :=
  ⟨Checked.mixed Try.checked, hΓ, ents_ok, fun f fn c hf hc p a s ha hs c' hc' => by
    have key : ∀ l : List (Nat × List Nat × Ann), (∀ x ∈ l, LpAt x.1 x.2.1 x.2.2) → lpL l f p = some a → LoopOKP Try.prog a.fuel (bodyOf f p) (fun st => (s st).opt) := by
      intro l
      induction l with
      | nil => intro _ h; cases h
      | cons x l ih =>
        intro hx h
        unfold lpL at h
        split at h
        · rename_i hd
          cases h
          obtain ⟨rfl, rfl⟩ := of_decide_eq_true hd
          exact hx x (by simp) s hs
        · exact ih (fun y hy => hx y (by simp [hy])) h
    have e : bodyOf f p = c' := by unfold bodyOf; rw [hf]; simp only; rw [hc]; simp only; rw [hc']
    rw [← e]
    exact key l h ha⟩
def lpC (l : List (List Nat × Ann)) : List Nat → Option Ann := fun p => match l with
  | [] => none
  | (p0, ann) :: l => match decide (p = p0) with
    | true => some ann
    | false => lpC l p
theorem lpC_ok {root : Code} (l : List (List Nat × Ann)) (h : ∀ x ∈ l, ∀ s, x.2.sum = some s → ∀ c, codeAt root x.1 = some (.loop c) → LoopOKP Try.prog x.2.fuel c (fun st => (s st).opt)) : LpOK Try.prog root (lpC l) := by
  intro p a s ha hs c hc
  induction l with
  | nil => cases ha
  | cons x l ih =>
    unfold lpC at ha
    split at ha
    · rename_i hd
      cases ha
      have hd' := of_decide_eq_true hd
      subst hd'
      exact h x (by simp) s hs c hc
    · exact ih (fun y hy => h y (by simp [hy])) ha
def G0 : FuncId → Option (List SV → GT SV) := fun _ => none
theorem G0_ok : ∀ g s, G0 g = some s → SummT Try.prog g s := fun g s h => by cases h
noncomputable def ev (G : FuncId → Option (List SV → GT SV)) (d f : Nat) (l : List SV) := evFn Try.prog G ents [] nolp d f l
/-- the first table of bytes that a code indexes -/
def tabIn : Code → Option ByteArray
  | .region _ ops _ => ops.toList.findSome? fun o => match o.op with
    | .index _ (.const (.string s)) _ => some s
    | _ => none
  | .seq a b => match tabIn a with
    | some s => some s
    | none => tabIn b
  | .cond _ a b => match tabIn a with
    | some s => some s
    | none => tabIn b
  | .block _ a => tabIn a
  | .scope a => tabIn a
  | .loop a => tabIn a
  | _ => none
noncomputable def tabOf (f : Nat) : ByteArray := match Try.prog.funcs[f]? with
  | some fn => match fn.body with
    | some c => match tabIn c with
      | some s => s
      | none => .empty
    | none => .empty
  | none => .empty
theorem GT.opt_leaf {α : Type} (a : α) : (GT.leaf a).opt = some a := rfl
theorem GT.opt_br {α : Type} (c : Bool) (t f : GT α) : (GT.br c t f).opt = sure c t.opt f.opt := by cases c <;> rfl
end Go.Sx.Mk


/- Layer 6, by value: the program's functions on headers. -/
namespace Go.Sx.Mk
open Go.Proofs Go.RowKit
def hx (s d p q t : Int) : SV := .agg [.int .u32 s, .int .u32 d, .int .u16 p, .int .u16 q, .int .u8 t]
def sgH (f : Int → Int → Int → Int → Int → GT SV) : List SV → GT SV
  | [.agg [.int .u32 s, .int .u32 d, .int .u16 p, .int .u16 q, .int .u8 t]] => f s d p q t
  | _ => .stop
theorem sgH.summ {P : Program} {g : FuncId} {s0 : List SV → Option SV} (h : Summ P g s0) {f : Int → Int → Int → Int → Int → GT SV} (hf : ∀ (s : Int) (d : Int) (p : Int) (q : Int) (t : Int) sv, (f s d p q t).opt = some sv → s0 [.agg [.int .u32 s, .int .u32 d, .int .u16 p, .int .u16 q, .int .u8 t]] = some sv) : SummT P g (sgH f) := h.weaken (by
  intro svs sv h'
  unfold sgH at h'
  split at h'
  · exact hf _ _ _ _ _ sv h'
  · cases h')
def sgHI (f : Int → Int → Int → Int → Int → Int → GT SV) : List SV → GT SV
  | [.agg [.int .u32 s, .int .u32 d, .int .u16 p, .int .u16 q, .int .u8 t], .int .i64 i] => f s d p q t i
  | _ => .stop
theorem sgHI.summ {P : Program} {g : FuncId} {s0 : List SV → Option SV} (h : Summ P g s0) {f : Int → Int → Int → Int → Int → Int → GT SV} (hf : ∀ (s : Int) (d : Int) (p : Int) (q : Int) (t : Int) (i : Int) sv, (f s d p q t i).opt = some sv → s0 [.agg [.int .u32 s, .int .u32 d, .int .u16 p, .int .u16 q, .int .u8 t], .int .i64 i] = some sv) : SummT P g (sgHI f) := h.weaken (by
  intro svs sv h'
  unfold sgHI at h'
  split at h'
  · exact hf _ _ _ _ _ _ sv h'
  · cases h')
def sgHH (f : Int → Int → Int → Int → Int → Int → Int → Int → Int → Int → GT SV) : List SV → GT SV
  | [.agg [.int .u32 s, .int .u32 d, .int .u16 p, .int .u16 q, .int .u8 t], .agg [.int .u32 s', .int .u32 d', .int .u16 p', .int .u16 q', .int .u8 t']] => f s d p q t s' d' p' q' t'
  | _ => .stop
theorem sgHH.summ {P : Program} {g : FuncId} {s0 : List SV → Option SV} (h : Summ P g s0) {f : Int → Int → Int → Int → Int → Int → Int → Int → Int → Int → GT SV} (hf : ∀ (s : Int) (d : Int) (p : Int) (q : Int) (t : Int) (s' : Int) (d' : Int) (p' : Int) (q' : Int) (t' : Int) sv, (f s d p q t s' d' p' q' t').opt = some sv → s0 [.agg [.int .u32 s, .int .u32 d, .int .u16 p, .int .u16 q, .int .u8 t], .agg [.int .u32 s', .int .u32 d', .int .u16 p', .int .u16 q', .int .u8 t']] = some sv) : SummT P g (sgHH f) := h.weaken (by
  intro svs sv h'
  unfold sgHH at h'
  split at h'
  · exact hf _ _ _ _ _ _ _ _ _ _ sv h'
  · cases h')
def sgB (f : (List Row) → GT SV) : List SV → GT SV
  | [.rows [.i .u8] l] => f l
  | _ => .stop
theorem sgB.summ {P : Program} {g : FuncId} {s0 : List SV → Option SV} (h : Summ P g s0) {f : (List Row) → GT SV} (hf : ∀ (l : List Row) sv, (f l).opt = some sv → s0 [.rows [.i .u8] l] = some sv) : SummT P g (sgB f) := h.weaken (by
  intro svs sv h'
  unfold sgB at h'
  split at h'
  · exact hf _ sv h'
  · cases h')
def sgW (f : (List Row) → GT SV) : List SV → GT SV
  | [.rows [.i .u32] l] => f l
  | _ => .stop
theorem sgW.summ {P : Program} {g : FuncId} {s0 : List SV → Option SV} (h : Summ P g s0) {f : (List Row) → GT SV} (hf : ∀ (l : List Row) sv, (f l).opt = some sv → s0 [.rows [.i .u32] l] = some sv) : SummT P g (sgW f) := h.weaken (by
  intro svs sv h'
  unfold sgW at h'
  split at h'
  · exact hf _ sv h'
  · cases h')
noncomputable def T_packed (s d p q t : Int) : GT SV := GT.leaf
    (SV.agg
      [SV.int IntKind.u8 (IntKind.u8.wrap (s.fdiv (16777216 : Int))),
        SV.int IntKind.u8 (IntKind.u8.wrap (s.fdiv (65536 : Int))),
        SV.int IntKind.u8 (IntKind.u8.wrap (s.fdiv (256 : Int))), SV.int IntKind.u8 (IntKind.u8.wrap s),
        SV.int IntKind.u8 (IntKind.u8.wrap (d.fdiv (16777216 : Int))),
        SV.int IntKind.u8 (IntKind.u8.wrap (d.fdiv (65536 : Int))),
        SV.int IntKind.u8 (IntKind.u8.wrap (d.fdiv (256 : Int))), SV.int IntKind.u8 (IntKind.u8.wrap d),
        SV.int IntKind.u8 (IntKind.u8.wrap (p.fdiv (256 : Int))), SV.int IntKind.u8 (IntKind.u8.wrap p),
        SV.int IntKind.u8 (IntKind.u8.wrap (q.fdiv (256 : Int))), SV.int IntKind.u8 (IntKind.u8.wrap q),
        SV.int IntKind.u8 t])
theorem e_packed (s d p q t : Int) : ev G0 1 32 [hx s d p q t] = (T_packed s d p q t).opt := by kernel_rfl
noncomputable def T_word (l : List Row) : GT SV := GT.br (decide ((0 : Int) ≤ (0 : Int) ∧ (0 : Int) < (↑l.length : Int)))
    (GT.br (decide ((0 : Int) ≤ (1 : Int) ∧ (1 : Int) < (↑l.length : Int)))
      (GT.br (decide ((0 : Int) ≤ (2 : Int) ∧ (2 : Int) < (↑l.length : Int)))
        (GT.br (decide ((0 : Int) ≤ (3 : Int) ∧ (3 : Int) < (↑l.length : Int)))
          (GT.leaf
            (SV.int IntKind.u32
              (bits BinOp.or IntKind.u32
                (bits BinOp.or IntKind.u32
                  (bits BinOp.or IntKind.u32
                    (IntKind.u32.wrap
                      (IntKind.u32.wrap (List.getD (l.getD ((0 : Nat) + Int.toNat (0 : Int)) []) (0 : Nat) (0 : Int)) *
                        (16777216 : Int)))
                    (IntKind.u32.wrap
                      (IntKind.u32.wrap (List.getD (l.getD ((0 : Nat) + Int.toNat (1 : Int)) []) (0 : Nat) (0 : Int)) *
                        (65536 : Int))))
                  (IntKind.u32.wrap
                    (IntKind.u32.wrap (List.getD (l.getD ((0 : Nat) + Int.toNat (2 : Int)) []) (0 : Nat) (0 : Int)) *
                      (256 : Int))))
                (IntKind.u32.wrap (List.getD (l.getD ((0 : Nat) + Int.toNat (3 : Int)) []) (0 : Nat) (0 : Int))))))
          GT.stop)
        GT.stop)
      GT.stop)
    GT.stop
theorem e_word (l : List Row) : ev G0 1 29 [.rows [.i .u8] l] = (T_word l).opt := by kernel_rfl
noncomputable def T_port (l : List Row) : GT SV := GT.br (decide ((0 : Int) ≤ (0 : Int) ∧ (0 : Int) < (↑l.length : Int)))
    (GT.br (decide ((0 : Int) ≤ (1 : Int) ∧ (1 : Int) < (↑l.length : Int)))
      (GT.leaf
        (SV.int IntKind.u16
          (bits BinOp.or IntKind.u16
            (IntKind.u16.wrap
              (IntKind.u16.wrap (List.getD (l.getD ((0 : Nat) + Int.toNat (0 : Int)) []) (0 : Nat) (0 : Int)) *
                (256 : Int)))
            (IntKind.u16.wrap (List.getD (l.getD ((0 : Nat) + Int.toNat (1 : Int)) []) (0 : Nat) (0 : Int))))))
      GT.stop)
    GT.stop
theorem e_port (l : List Row) : ev G0 1 30 [.rows [.i .u8] l] = (T_port l).opt := by kernel_rfl
noncomputable def T_next (s d p q t : Int) : GT SV := GT.br (IntKind.u8.wrap (t + (1 : Int)) == (0 : Int))
    (GT.br (IntKind.u16.wrap (q + (1 : Int)) == (0 : Int))
      (GT.br (IntKind.u16.wrap (p + (1 : Int)) == (0 : Int))
        (GT.br (IntKind.u32.wrap (d + (1 : Int)) == (0 : Int))
          (GT.br
            (!(IntKind.u32.wrap (s + (1 : Int)) == (0 : Int) &&
                (IntKind.u32.wrap (d + (1 : Int)) == (0 : Int) &&
                  (IntKind.u16.wrap (p + (1 : Int)) == (0 : Int) &&
                    (IntKind.u16.wrap (q + (1 : Int)) == (0 : Int) &&
                      (IntKind.u8.wrap (t + (1 : Int)) == (0 : Int) && true))))))
            (GT.leaf
              (SV.tup
                [SV.agg
                    [SV.int IntKind.u32 (IntKind.u32.wrap (s + (1 : Int))),
                      SV.int IntKind.u32 (IntKind.u32.wrap (d + (1 : Int))),
                      SV.int IntKind.u16 (IntKind.u16.wrap (p + (1 : Int))),
                      SV.int IntKind.u16 (IntKind.u16.wrap (q + (1 : Int))),
                      SV.int IntKind.u8 (IntKind.u8.wrap (t + (1 : Int)))],
                  SV.bool true]))
            (GT.leaf
              (SV.tup
                [SV.agg
                    [SV.int IntKind.u32 (IntKind.u32.wrap (s + (1 : Int))),
                      SV.int IntKind.u32 (IntKind.u32.wrap (d + (1 : Int))),
                      SV.int IntKind.u16 (IntKind.u16.wrap (p + (1 : Int))),
                      SV.int IntKind.u16 (IntKind.u16.wrap (q + (1 : Int))),
                      SV.int IntKind.u8 (IntKind.u8.wrap (t + (1 : Int)))],
                  SV.bool false])))
          (GT.br
            (!(s == (0 : Int) &&
                (IntKind.u32.wrap (d + (1 : Int)) == (0 : Int) &&
                  (IntKind.u16.wrap (p + (1 : Int)) == (0 : Int) &&
                    (IntKind.u16.wrap (q + (1 : Int)) == (0 : Int) &&
                      (IntKind.u8.wrap (t + (1 : Int)) == (0 : Int) && true))))))
            (GT.leaf
              (SV.tup
                [SV.agg
                    [SV.int IntKind.u32 s, SV.int IntKind.u32 (IntKind.u32.wrap (d + (1 : Int))),
                      SV.int IntKind.u16 (IntKind.u16.wrap (p + (1 : Int))),
                      SV.int IntKind.u16 (IntKind.u16.wrap (q + (1 : Int))),
                      SV.int IntKind.u8 (IntKind.u8.wrap (t + (1 : Int)))],
                  SV.bool true]))
            (GT.leaf
              (SV.tup
                [SV.agg
                    [SV.int IntKind.u32 s, SV.int IntKind.u32 (IntKind.u32.wrap (d + (1 : Int))),
                      SV.int IntKind.u16 (IntKind.u16.wrap (p + (1 : Int))),
                      SV.int IntKind.u16 (IntKind.u16.wrap (q + (1 : Int))),
                      SV.int IntKind.u8 (IntKind.u8.wrap (t + (1 : Int)))],
                  SV.bool false]))))
        (GT.br
          (!(s == (0 : Int) &&
              (d == (0 : Int) &&
                (IntKind.u16.wrap (p + (1 : Int)) == (0 : Int) &&
                  (IntKind.u16.wrap (q + (1 : Int)) == (0 : Int) &&
                    (IntKind.u8.wrap (t + (1 : Int)) == (0 : Int) && true))))))
          (GT.leaf
            (SV.tup
              [SV.agg
                  [SV.int IntKind.u32 s, SV.int IntKind.u32 d, SV.int IntKind.u16 (IntKind.u16.wrap (p + (1 : Int))),
                    SV.int IntKind.u16 (IntKind.u16.wrap (q + (1 : Int))),
                    SV.int IntKind.u8 (IntKind.u8.wrap (t + (1 : Int)))],
                SV.bool true]))
          (GT.leaf
            (SV.tup
              [SV.agg
                  [SV.int IntKind.u32 s, SV.int IntKind.u32 d, SV.int IntKind.u16 (IntKind.u16.wrap (p + (1 : Int))),
                    SV.int IntKind.u16 (IntKind.u16.wrap (q + (1 : Int))),
                    SV.int IntKind.u8 (IntKind.u8.wrap (t + (1 : Int)))],
                SV.bool false]))))
      (GT.br
        (!(s == (0 : Int) &&
            (d == (0 : Int) &&
              (p == (0 : Int) &&
                (IntKind.u16.wrap (q + (1 : Int)) == (0 : Int) &&
                  (IntKind.u8.wrap (t + (1 : Int)) == (0 : Int) && true))))))
        (GT.leaf
          (SV.tup
            [SV.agg
                [SV.int IntKind.u32 s, SV.int IntKind.u32 d, SV.int IntKind.u16 p,
                  SV.int IntKind.u16 (IntKind.u16.wrap (q + (1 : Int))),
                  SV.int IntKind.u8 (IntKind.u8.wrap (t + (1 : Int)))],
              SV.bool true]))
        (GT.leaf
          (SV.tup
            [SV.agg
                [SV.int IntKind.u32 s, SV.int IntKind.u32 d, SV.int IntKind.u16 p,
                  SV.int IntKind.u16 (IntKind.u16.wrap (q + (1 : Int))),
                  SV.int IntKind.u8 (IntKind.u8.wrap (t + (1 : Int)))],
              SV.bool false]))))
    (GT.br
      (!(s == (0 : Int) &&
          (d == (0 : Int) &&
            (p == (0 : Int) && (q == (0 : Int) && (IntKind.u8.wrap (t + (1 : Int)) == (0 : Int) && true))))))
      (GT.leaf
        (SV.tup
          [SV.agg
              [SV.int IntKind.u32 s, SV.int IntKind.u32 d, SV.int IntKind.u16 p, SV.int IntKind.u16 q,
                SV.int IntKind.u8 (IntKind.u8.wrap (t + (1 : Int)))],
            SV.bool true]))
      (GT.leaf
        (SV.tup
          [SV.agg
              [SV.int IntKind.u32 s, SV.int IntKind.u32 d, SV.int IntKind.u16 p, SV.int IntKind.u16 q,
                SV.int IntKind.u8 (IntKind.u8.wrap (t + (1 : Int)))],
            SV.bool false])))
theorem e_next (s d p q t : Int) : ev G0 1 21 [hx s d p q t] = (T_next s d p q t).opt := by kernel_rfl
noncomputable def T_of (l : List Row) : GT SV := GT.br ((↑l.length : Int) != (5 : Int))
    (GT.leaf
      (SV.tup
        [SV.agg
            [SV.int IntKind.u32 (0 : Int), SV.int IntKind.u32 (0 : Int), SV.int IntKind.u16 (0 : Int),
              SV.int IntKind.u16 (0 : Int), SV.int IntKind.u8 (0 : Int)],
          SV.int IntKind.i64 (1 : Int)]))
    (GT.br (decide ((0 : Int) ≤ (2 : Int) ∧ (2 : Int) < (↑l.length : Int)))
      (GT.br (decide ((65535 : Int) < List.getD (l.getD ((0 : Nat) + Int.toNat (2 : Int)) []) (0 : Nat) (0 : Int)))
        (GT.leaf
          (SV.tup
            [SV.agg
                [SV.int IntKind.u32 (0 : Int), SV.int IntKind.u32 (0 : Int), SV.int IntKind.u16 (0 : Int),
                  SV.int IntKind.u16 (0 : Int), SV.int IntKind.u8 (0 : Int)],
              SV.int IntKind.i64 (61 : Int)]))
        (GT.br (decide ((0 : Int) ≤ (3 : Int) ∧ (3 : Int) < (↑l.length : Int)))
          (GT.br (decide ((65535 : Int) < List.getD (l.getD ((0 : Nat) + Int.toNat (3 : Int)) []) (0 : Nat) (0 : Int)))
            (GT.leaf
              (SV.tup
                [SV.agg
                    [SV.int IntKind.u32 (0 : Int), SV.int IntKind.u32 (0 : Int), SV.int IntKind.u16 (0 : Int),
                      SV.int IntKind.u16 (0 : Int), SV.int IntKind.u8 (0 : Int)],
                  SV.int IntKind.i64 (61 : Int)]))
            (GT.br (decide ((0 : Int) ≤ (4 : Int) ∧ (4 : Int) < (↑l.length : Int)))
              (GT.br
                (decide ((255 : Int) < List.getD (l.getD ((0 : Nat) + Int.toNat (4 : Int)) []) (0 : Nat) (0 : Int)))
                (GT.leaf
                  (SV.tup
                    [SV.agg
                        [SV.int IntKind.u32 (0 : Int), SV.int IntKind.u32 (0 : Int), SV.int IntKind.u16 (0 : Int),
                          SV.int IntKind.u16 (0 : Int), SV.int IntKind.u8 (0 : Int)],
                      SV.int IntKind.i64 (61 : Int)]))
                (GT.br (decide ((0 : Int) ≤ (0 : Int) ∧ (0 : Int) < (↑l.length : Int)))
                  (GT.br (decide ((0 : Int) ≤ (1 : Int) ∧ (1 : Int) < (↑l.length : Int)))
                    (GT.br (decide ((0 : Int) ≤ (2 : Int) ∧ (2 : Int) < (↑l.length : Int)))
                      (GT.br (decide ((0 : Int) ≤ (3 : Int) ∧ (3 : Int) < (↑l.length : Int)))
                        (GT.br (decide ((0 : Int) ≤ (4 : Int) ∧ (4 : Int) < (↑l.length : Int)))
                          (GT.leaf
                            (SV.tup
                              [SV.agg
                                  [SV.int IntKind.u32
                                      (List.getD (l.getD ((0 : Nat) + Int.toNat (0 : Int)) []) (0 : Nat) (0 : Int)),
                                    SV.int IntKind.u32
                                      (List.getD (l.getD ((0 : Nat) + Int.toNat (1 : Int)) []) (0 : Nat) (0 : Int)),
                                    SV.int IntKind.u16
                                      (IntKind.u16.wrap
                                        (List.getD (l.getD ((0 : Nat) + Int.toNat (2 : Int)) []) (0 : Nat) (0 : Int))),
                                    SV.int IntKind.u16
                                      (IntKind.u16.wrap
                                        (List.getD (l.getD ((0 : Nat) + Int.toNat (3 : Int)) []) (0 : Nat) (0 : Int))),
                                    SV.int IntKind.u8
                                      (IntKind.u8.wrap
                                        (List.getD (l.getD ((0 : Nat) + Int.toNat (4 : Int)) []) (0 : Nat) (0 : Int)))],
                                SV.int IntKind.i64 (0 : Int)]))
                          GT.stop)
                        GT.stop)
                      GT.stop)
                    GT.stop)
                  GT.stop))
              GT.stop))
          GT.stop))
      GT.stop)
theorem e_of (l : List Row) : ev G0 1 23 [.rows [.i .u32] l] = (T_of l).opt := by kernel_rfl
noncomputable def T_rof (l : List Row) : GT SV := GT.br ((↑l.length : Int) != (5 : Int))
    (GT.leaf
      (SV.tup
        [SV.agg
            [SV.int IntKind.u32 (0 : Int), SV.int IntKind.u32 (0 : Int), SV.int IntKind.u16 (0 : Int),
              SV.int IntKind.u16 (0 : Int), SV.int IntKind.u8 (0 : Int)],
          SV.int IntKind.i64 (1 : Int)]))
    (GT.br (decide ((0 : Int) ≤ (2 : Int) ∧ (2 : Int) < (↑l.length : Int)))
      (GT.br (decide ((65535 : Int) < List.getD (l.getD ((0 : Nat) + Int.toNat (2 : Int)) []) (0 : Nat) (0 : Int)))
        (GT.leaf
          (SV.tup
            [SV.agg
                [SV.int IntKind.u32 (0 : Int), SV.int IntKind.u32 (0 : Int), SV.int IntKind.u16 (0 : Int),
                  SV.int IntKind.u16 (0 : Int), SV.int IntKind.u8 (0 : Int)],
              SV.int IntKind.i64 (61 : Int)]))
        (GT.br (decide ((0 : Int) ≤ (3 : Int) ∧ (3 : Int) < (↑l.length : Int)))
          (GT.br (decide ((65535 : Int) < List.getD (l.getD ((0 : Nat) + Int.toNat (3 : Int)) []) (0 : Nat) (0 : Int)))
            (GT.leaf
              (SV.tup
                [SV.agg
                    [SV.int IntKind.u32 (0 : Int), SV.int IntKind.u32 (0 : Int), SV.int IntKind.u16 (0 : Int),
                      SV.int IntKind.u16 (0 : Int), SV.int IntKind.u8 (0 : Int)],
                  SV.int IntKind.i64 (61 : Int)]))
            (GT.br (decide ((0 : Int) ≤ (4 : Int) ∧ (4 : Int) < (↑l.length : Int)))
              (GT.br
                (decide ((255 : Int) < List.getD (l.getD ((0 : Nat) + Int.toNat (4 : Int)) []) (0 : Nat) (0 : Int)))
                (GT.leaf
                  (SV.tup
                    [SV.agg
                        [SV.int IntKind.u32 (0 : Int), SV.int IntKind.u32 (0 : Int), SV.int IntKind.u16 (0 : Int),
                          SV.int IntKind.u16 (0 : Int), SV.int IntKind.u8 (0 : Int)],
                      SV.int IntKind.i64 (61 : Int)]))
                (GT.br (decide ((0 : Int) ≤ (0 : Int) ∧ (0 : Int) < (↑l.length : Int)))
                  (GT.br (decide ((0 : Int) ≤ (1 : Int) ∧ (1 : Int) < (↑l.length : Int)))
                    (GT.br (decide ((0 : Int) ≤ (2 : Int) ∧ (2 : Int) < (↑l.length : Int)))
                      (GT.br (decide ((0 : Int) ≤ (3 : Int) ∧ (3 : Int) < (↑l.length : Int)))
                        (GT.br (decide ((0 : Int) ≤ (4 : Int) ∧ (4 : Int) < (↑l.length : Int)))
                          (GT.leaf
                            (SV.tup
                              [SV.agg
                                  [SV.int IntKind.u32
                                      (List.getD (l.getD ((0 : Nat) + Int.toNat (0 : Int)) []) (0 : Nat) (0 : Int)),
                                    SV.int IntKind.u32
                                      (List.getD (l.getD ((0 : Nat) + Int.toNat (1 : Int)) []) (0 : Nat) (0 : Int)),
                                    SV.int IntKind.u16
                                      (IntKind.u16.wrap
                                        (List.getD (l.getD ((0 : Nat) + Int.toNat (2 : Int)) []) (0 : Nat) (0 : Int))),
                                    SV.int IntKind.u16
                                      (IntKind.u16.wrap
                                        (List.getD (l.getD ((0 : Nat) + Int.toNat (3 : Int)) []) (0 : Nat) (0 : Int))),
                                    SV.int IntKind.u8
                                      (IntKind.u8.wrap
                                        (List.getD (l.getD ((0 : Nat) + Int.toNat (4 : Int)) []) (0 : Nat) (0 : Int)))],
                                SV.int IntKind.i64 (0 : Int)]))
                          GT.stop)
                        GT.stop)
                      GT.stop)
                    GT.stop)
                  GT.stop))
              GT.stop))
          GT.stop))
      GT.stop)
theorem e_rof (l : List Row) : ev G0 1 24 [.rows [.i .u32] l] = (T_rof l).opt := by kernel_rfl
def fW (l : List Row) (i : Nat) : Int := (l.getD i []).getD 0 0
/-- what Of answers: the error, and whether the fields are those that were handed in -/
def ofE (l : List Row) : Int := sure ((l.length : Int) != 5) 1 (sure (decide (65535 < fW l 2)) 61 (sure (decide (65535 < fW l 3)) 61 (sure (decide (255 < fW l 4)) 61 0)))
def ofV (l : List Row) (v : Int) : Int := sure (ofE l == 0) v 0
def ofH (l : List Row) : SV := hx (ofV l (fW l 0)) (ofV l (fW l 1)) (ofV l (IntKind.wrap .u16 (fW l 2))) (ofV l (IntKind.wrap .u16 (fW l 3))) (ofV l (IntKind.wrap .u8 (fW l 4)))
theorem T_of_eq (l : List Row) : (T_of l).opt = some (.tup [ofH l, .int .i64 (ofE l)]) := by
  unfold T_of ofH ofV ofE
  cases h : ((l.length : Int) != 5) with
  | true => rfl
  | false =>
    have h5 : (l.length : Int) = 5 := by simpa using h
    rw [h5]
    cases h2 : decide ((65535 : Int) < fW l 2) with
    | true =>
      have h2' : decide ((65535 : Int) < List.getD (l.getD ((0 : Nat) + Int.toNat (2 : Int)) []) (0 : Nat) (0 : Int)) = true := h2
      rw [h2']; rfl
    | false =>
      have h2' : decide ((65535 : Int) < List.getD (l.getD ((0 : Nat) + Int.toNat (2 : Int)) []) (0 : Nat) (0 : Int)) = false := h2
      rw [h2']
      cases h3 : decide ((65535 : Int) < fW l 3) with
      | true =>
        have h3' : decide ((65535 : Int) < List.getD (l.getD ((0 : Nat) + Int.toNat (3 : Int)) []) (0 : Nat) (0 : Int)) = true := h3
        rw [h3']; rfl
      | false =>
        have h3' : decide ((65535 : Int) < List.getD (l.getD ((0 : Nat) + Int.toNat (3 : Int)) []) (0 : Nat) (0 : Int)) = false := h3
        rw [h3']
        cases h4 : decide ((255 : Int) < fW l 4) with
        | true =>
          have h4' : decide ((255 : Int) < List.getD (l.getD ((0 : Nat) + Int.toNat (4 : Int)) []) (0 : Nat) (0 : Int)) = true := h4
          rw [h4']; rfl
        | false =>
          have h4' : decide ((255 : Int) < List.getD (l.getD ((0 : Nat) + Int.toNat (4 : Int)) []) (0 : Nat) (0 : Int)) = false := h4
          rw [h4']; rfl
theorem S_of : SummT Try.prog 23 (sgW fun l => .leaf (.tup [ofH l, .int .i64 (ofE l)])) := sgW.summ (evFn_summ (facts G0_ok) 1 23) (fun l sv h => ((e_of l).trans (T_of_eq l)).trans h)
theorem S_rof : SummT Try.prog 24 (sgW fun l => .leaf (.tup [ofH l, .int .i64 (ofE l)])) := sgW.summ (evFn_summ (facts G0_ok) 1 24) (fun l sv h => ((e_rof l).trans (T_of_eq l)).trans h)
def byS (x k : Int) : Int := IntKind.wrap .u8 (x.fdiv k)
def pkL (s d p q t : Int) : List Int := [byS s 16777216, byS s 65536, byS s 256, IntKind.wrap .u8 s, byS d 16777216, byS d 65536, byS d 256, IntKind.wrap .u8 d, byS p 256, IntKind.wrap .u8 p, byS q 256, IntKind.wrap .u8 q, t]
theorem S_packed : SummT Try.prog 32 (sgH fun s d p q t => .leaf (.agg [.int .u8 (byS s 16777216), .int .u8 (byS s 65536), .int .u8 (byS s 256), .int .u8 (IntKind.wrap .u8 s), .int .u8 (byS d 16777216), .int .u8 (byS d 65536), .int .u8 (byS d 256), .int .u8 (IntKind.wrap .u8 d), .int .u8 (byS p 256), .int .u8 (IntKind.wrap .u8 p), .int .u8 (byS q 256), .int .u8 (IntKind.wrap .u8 q), .int .u8 t])) :=
  sgH.summ (evFn_summ (facts G0_ok) 1 32) (fun s d p q t sv h => (e_packed s d p q t).trans h)
end Go.Sx.Mk


/- Layer 6, by value: awake; HeaderOfs. -/
namespace Go.Sx.Mk
open Go.Proofs Go.RowKit
def f1 (l : List Row) (i : Nat) : Int := (l.getD (0 + i) []).getD 0 0
def wordV (l : List Row) : Int := Go.bits .or .u32 (Go.bits .or .u32 (Go.bits .or .u32 (IntKind.wrap .u32 (IntKind.wrap .u32 (f1 l 0) * 16777216)) (IntKind.wrap .u32 (IntKind.wrap .u32 (f1 l 1) * 65536))) (IntKind.wrap .u32 (IntKind.wrap .u32 (f1 l 2) * 256))) (IntKind.wrap .u32 (f1 l 3))
def portV (l : List Row) : Int := Go.bits .or .u16 (IntKind.wrap .u16 (IntKind.wrap .u16 (f1 l 0) * 256)) (IntKind.wrap .u16 (f1 l 1))
theorem S_word : SummT Try.prog 29 (sgB fun l => .when (decide (4 ≤ l.length)) (.leaf (.int .u32 (wordV l)))) := sgB.summ (evFn_summ (facts G0_ok) 1 29) (fun l sv h => by
  obtain ⟨h1, h2⟩ := GT.opt_when h
  have hl := of_decide_eq_true h1
  refine (e_word l).trans (Eq.trans ?_ h2)
  unfold T_word
  rw [decide_eq_true (show (0 : Int) ≤ 0 ∧ (0 : Int) < (l.length : Int) by omega), decide_eq_true (show (0 : Int) ≤ 1 ∧ (1 : Int) < (l.length : Int) by omega), decide_eq_true (show (0 : Int) ≤ 2 ∧ (2 : Int) < (l.length : Int) by omega), decide_eq_true (show (0 : Int) ≤ 3 ∧ (3 : Int) < (l.length : Int) by omega)]
  rfl)
theorem S_port : SummT Try.prog 30 (sgB fun l => .when (decide (2 ≤ l.length)) (.leaf (.int .u16 (portV l)))) := sgB.summ (evFn_summ (facts G0_ok) 1 30) (fun l sv h => by
  obtain ⟨h1, h2⟩ := GT.opt_when h
  have hl := of_decide_eq_true h1
  refine (e_port l).trans (Eq.trans ?_ h2)
  unfold T_port
  rw [decide_eq_true (show (0 : Int) ≤ 0 ∧ (0 : Int) < (l.length : Int) by omega), decide_eq_true (show (0 : Int) ≤ 1 ∧ (1 : Int) < (l.length : Int) by omega)]
  rfl)
def sgU2 (f : Int → Int → GT SV) : List SV → GT SV
  | [.int .u32 a, .int .u32 b] => f a b
  | _ => .stop
theorem sgU2.summ {P : Program} {g : FuncId} {s0 : List SV → Option SV} (h : Summ P g s0) {f : Int → Int → GT SV} (hf : ∀ (a : Int) (b : Int) sv, (f a b).opt = some sv → s0 [.int .u32 a, .int .u32 b] = some sv) : SummT P g (sgU2 f) := h.weaken (by
  intro svs sv h'
  unfold sgU2 at h'
  split at h'
  · exact hf _ _ sv h'
  · cases h')
def sgX2 (f : Int → Int → GT SV) : List SV → GT SV
  | [.int .u16 a, .int .u16 b] => f a b
  | _ => .stop
theorem sgX2.summ {P : Program} {g : FuncId} {s0 : List SV → Option SV} (h : Summ P g s0) {f : Int → Int → GT SV} (hf : ∀ (a : Int) (b : Int) sv, (f a b).opt = some sv → s0 [.int .u16 a, .int .u16 b] = some sv) : SummT P g (sgX2 f) := h.weaken (by
  intro svs sv h'
  unfold sgX2 at h'
  split at h'
  · exact hf _ _ sv h'
  · cases h')
def sgY2 (f : Int → Int → GT SV) : List SV → GT SV
  | [.int .u8 a, .int .u8 b] => f a b
  | _ => .stop
theorem sgY2.summ {P : Program} {g : FuncId} {s0 : List SV → Option SV} (h : Summ P g s0) {f : Int → Int → GT SV} (hf : ∀ (a : Int) (b : Int) sv, (f a b).opt = some sv → s0 [.int .u8 a, .int .u8 b] = some sv) : SummT P g (sgY2 f) := h.weaken (by
  intro svs sv h'
  unfold sgY2 at h'
  split at h'
  · exact hf _ _ sv h'
  · cases h')
def sgY (f : Int → GT SV) : List SV → GT SV
  | [.int .u8 a] => f a
  | _ => .stop
theorem sgY.summ {P : Program} {g : FuncId} {s0 : List SV → Option SV} (h : Summ P g s0) {f : Int → GT SV} (hf : ∀ (a : Int) sv, (f a).opt = some sv → s0 [.int .u8 a] = some sv) : SummT P g (sgY f) := h.weaken (by
  intro svs sv h'
  unfold sgY at h'
  split at h'
  · exact hf _ sv h'
  · cases h')
def sgO5 (f : Int → Int → Int → Int → Int → GT SV) : List SV → GT SV
  | [.rows [.i .i64] [[a], [b], [c], [d], [e]]] => f a b c d e
  | _ => .stop
theorem sgO5.summ {P : Program} {g : FuncId} {s0 : List SV → Option SV} (h : Summ P g s0) {f : Int → Int → Int → Int → Int → GT SV} (hf : ∀ (a : Int) (b : Int) (c : Int) (d : Int) (e : Int) sv, (f a b c d e).opt = some sv → s0 [.rows [.i .i64] [[a], [b], [c], [d], [e]]] = some sv) : SummT P g (sgO5 f) := h.weaken (by
  intro svs sv h'
  unfold sgO5 at h'
  split at h'
  · exact hf _ _ _ _ _ sv h'
  · cases h')
noncomputable def T_c32 (a b : Int) : GT SV := GT.br (a != a) (GT.br (b != b) (GT.leaf (SV.int IntKind.i64 (0 : Int))) (GT.leaf (SV.int IntKind.i64 (-1 : Int))))
    (GT.br (b != b) (GT.leaf (SV.int IntKind.i64 (1 : Int)))
      (GT.br (decide (a < b)) (GT.leaf (SV.int IntKind.i64 (-1 : Int)))
        (GT.br (decide (b < a)) (GT.leaf (SV.int IntKind.i64 (1 : Int))) (GT.leaf (SV.int IntKind.i64 (0 : Int))))))
theorem e_c32 (a b : Int) : ev G0 2 35 [.int .u32 a, .int .u32 b] = (T_c32 a b).opt := by kernel_rfl
noncomputable def T_c16 (a b : Int) : GT SV := GT.br (a != a) (GT.br (b != b) (GT.leaf (SV.int IntKind.i64 (0 : Int))) (GT.leaf (SV.int IntKind.i64 (-1 : Int))))
    (GT.br (b != b) (GT.leaf (SV.int IntKind.i64 (1 : Int)))
      (GT.br (decide (a < b)) (GT.leaf (SV.int IntKind.i64 (-1 : Int)))
        (GT.br (decide (b < a)) (GT.leaf (SV.int IntKind.i64 (1 : Int))) (GT.leaf (SV.int IntKind.i64 (0 : Int))))))
theorem e_c16 (a b : Int) : ev G0 2 36 [.int .u16 a, .int .u16 b] = (T_c16 a b).opt := by kernel_rfl
noncomputable def T_c8 (a b : Int) : GT SV := GT.br (a != a) (GT.br (b != b) (GT.leaf (SV.int IntKind.i64 (0 : Int))) (GT.leaf (SV.int IntKind.i64 (-1 : Int))))
    (GT.br (b != b) (GT.leaf (SV.int IntKind.i64 (1 : Int)))
      (GT.br (decide (a < b)) (GT.leaf (SV.int IntKind.i64 (-1 : Int)))
        (GT.br (decide (b < a)) (GT.leaf (SV.int IntKind.i64 (1 : Int))) (GT.leaf (SV.int IntKind.i64 (0 : Int))))))
theorem e_c8 (a b : Int) : ev G0 2 37 [.int .u8 a, .int .u8 b] = (T_c8 a b).opt := by kernel_rfl
noncomputable def T_or5 (a b c d e : Int) : GT SV := GT.br (a != (0 : Int)) (GT.leaf (SV.int IntKind.i64 a))
    (GT.br (b != (0 : Int)) (GT.leaf (SV.int IntKind.i64 b))
      (GT.br (c != (0 : Int)) (GT.leaf (SV.int IntKind.i64 c))
        (GT.br (d != (0 : Int)) (GT.leaf (SV.int IntKind.i64 d))
          (GT.br (e != (0 : Int)) (GT.leaf (SV.int IntKind.i64 e)) (GT.leaf (SV.int IntKind.i64 (0 : Int)))))))
theorem e_or5 (a b c d e : Int) : ev G0 2 34 [.rows [.i .i64] [[a], [b], [c], [d], [e]]] = (T_or5 a b c d e).opt := by kernel_rfl
noncomputable def lenTab : ByteArray := tabOf 43
noncomputable def T_lz8 (a : Int) : GT SV := GT.br (decide ((0 : Int) ≤ a ∧ a < (256 : Int)))
    (GT.leaf (SV.int IntKind.i64 (IntKind.i64.wrap ((8 : Int) - IntKind.i64.wrap (strAt lenTab a.toNat))))) GT.stop
theorem e_lz8 (a : Int) : ev G0 2 38 [.int .u8 a] = (T_lz8 a).opt := by kernel_rfl
def cmpV (a b : Int) : Int := sure (decide (a < b)) (-1) (sure (decide (b < a)) 1 0)
theorem S_c32 : SummT Try.prog 35 (sgU2 fun a b => .leaf (.int .i64 (cmpV a b))) := sgU2.summ (evFn_summ (facts G0_ok) 2 35) (fun a b sv h => by
  refine (e_c32 a b).trans (Eq.trans ?_ h)
  unfold T_c32 cmpV
  rw [show (a != a) = false by simp, show (b != b) = false by simp]
  cases decide (a < b) <;> cases decide (b < a) <;> rfl)
theorem S_c16 : SummT Try.prog 36 (sgX2 fun a b => .leaf (.int .i64 (cmpV a b))) := sgX2.summ (evFn_summ (facts G0_ok) 2 36) (fun a b sv h => by
  refine (e_c16 a b).trans (Eq.trans ?_ h)
  unfold T_c16 cmpV
  rw [show (a != a) = false by simp, show (b != b) = false by simp]
  cases decide (a < b) <;> cases decide (b < a) <;> rfl)
theorem S_c8 : SummT Try.prog 37 (sgY2 fun a b => .leaf (.int .i64 (cmpV a b))) := sgY2.summ (evFn_summ (facts G0_ok) 2 37) (fun a b sv h => by
  refine (e_c8 a b).trans (Eq.trans ?_ h)
  unfold T_c8 cmpV
  rw [show (a != a) = false by simp, show (b != b) = false by simp]
  cases decide (a < b) <;> cases decide (b < a) <;> rfl)
def or5 (a b c d e : Int) : Int := sure (a != 0) a (sure (b != 0) b (sure (c != 0) c (sure (d != 0) d (sure (e != 0) e 0))))
theorem S_or5 : SummT Try.prog 34 (sgO5 fun a b c d e => .leaf (.int .i64 (or5 a b c d e))) := sgO5.summ (evFn_summ (facts G0_ok) 2 34) (fun a b c d e sv h => by
  refine (e_or5 a b c d e).trans (Eq.trans ?_ h)
  unfold T_or5 or5
  cases (a != 0) <;> cases (b != 0) <;> cases (c != 0) <;> cases (d != 0) <;> cases (e != 0) <;> rfl)
noncomputable def lz8 (a : Int) : Int := IntKind.wrap .i64 (8 - IntKind.wrap .i64 (strAt lenTab a.toNat))
theorem S_lz8 : SummT Try.prog 38 (sgY fun a => .when (decide (0 ≤ a ∧ a < 256)) (.leaf (.int .i64 (lz8 a)))) := sgY.summ (evFn_summ (facts G0_ok) 2 38) (fun a sv h => by
  obtain ⟨h1, h2⟩ := GT.opt_when h
  refine (e_lz8 a).trans (Eq.trans ?_ h2)
  unfold T_lz8
  rw [h1]; rfl)
noncomputable def Gaw : FuncId → Option (List SV → GT SV)
  | 32 => some (sgH fun s d p q t => .leaf (.agg [.int .u8 (byS s 16777216), .int .u8 (byS s 65536), .int .u8 (byS s 256), .int .u8 (IntKind.wrap .u8 s), .int .u8 (byS d 16777216), .int .u8 (byS d 65536), .int .u8 (byS d 256), .int .u8 (IntKind.wrap .u8 d), .int .u8 (byS p 256), .int .u8 (IntKind.wrap .u8 p), .int .u8 (byS q 256), .int .u8 (IntKind.wrap .u8 q), .int .u8 t]))
  | 29 => some (sgB fun l => .when (decide (4 ≤ l.length)) (.leaf (.int .u32 (wordV l))))
  | 30 => some (sgB fun l => .when (decide (2 ≤ l.length)) (.leaf (.int .u16 (portV l))))
  | 35 => some (sgU2 fun a b => .leaf (.int .i64 (cmpV a b)))
  | 36 => some (sgX2 fun a b => .leaf (.int .i64 (cmpV a b)))
  | 37 => some (sgY2 fun a b => .leaf (.int .i64 (cmpV a b)))
  | 34 => some (sgO5 fun a b c d e => .leaf (.int .i64 (or5 a b c d e)))
  | 38 => some (sgY fun a => .when (decide (0 ≤ a ∧ a < 256)) (.leaf (.int .i64 (lz8 a))))
  | _ => none
theorem Gaw_ok : ∀ g s, Gaw g = some s → SummT Try.prog g s := fun g s h => by
  unfold Gaw at h
  split at h
  · cases h; exact S_packed
  · cases h; exact S_word
  · cases h; exact S_port
  · cases h; exact S_c32
  · cases h; exact S_c16
  · cases h; exact S_c8
  · cases h; exact S_or5
  · cases h; exact S_lz8
  · cases h
theorem e_awake : ev Gaw 4 11 [] = some (.bool true) := by kernel_rfl
theorem S_awake : SummT Try.prog 11 (sg0 (.leaf (.bool true))) := sg0.summ (evFn_summ (facts Gaw_ok) 4 11) (fun sv h => e_awake.trans h)
end Go.Sx.Mk


/- Layer 6: HeaderOfs. -/
namespace Go.Sx.Mk
open Go.Proofs Go.RowKit
theorem at_one {f0 : Nat} {p0 : List Nat} {ann : Ann} (h : LpAt f0 p0 ann) : ∀ x ∈ [(f0, p0, ann)], LpAt x.1 x.2.1 x.2.2 := by
  intro x hx
  rw [List.mem_singleton] at hx
  subst hx
  exact h
def o1 (l : List Row) : Int := ofV l (fW l 0)
def o2 (l : List Row) : Int := ofV l (fW l 1)
def o3 (l : List Row) : Int := ofV l (IntKind.wrap .u16 (fW l 2))
def o4 (l : List Row) : Int := ofV l (IntKind.wrap .u16 (fW l 3))
def o5 (l : List Row) : Int := ofV l (IntKind.wrap .u8 (fW l 4))
noncomputable def bodyho : Code := bodyOf 6 [0,1,0,1,1,1,1,1,1,1,1,1]
def liveho : List (Nat × Option (List CK)) := [(0, none), (3, none), (5, none), (6, none), (7, none), (8, none), (9, none), (10, none)]
def outho : List (Nat × Option (List CK)) := [(5, none), (6, none), (7, none), (8, none), (9, none)]
def mkho (l : List Row) (r : List Row) (n : Nat) (nr : Nat) (m1 : Int) (m2 : Int) (m3 : Int) (m4 : Int) (m5 : Int) (r1 : Int) (r2 : Int) (r3 : Int) (r4 : Int) (r5 : Int) (e : Int) (f : Int) (s : Bool) (i : Int) : St := ⟨sel 81 [0, 3, 5, 6, 7, 8, 9, 10] [.vs 0 0 n, .vs 1 0 nr, .ptr 2 0, .int .i64 e, .ptr 3 0, .int .i64 f, .bool s, .int .i64 i], [.vec false [.i .u32] l none, .vec true [.i .u32] r none, .cells [.int .u32 m1, .int .u32 m2, .int .u16 m3, .int .u16 m4, .int .u8 m5], .cells [.int .u32 r1, .int .u32 r2, .int .u16 r3, .int .u16 r4, .int .u8 r5]]⟩
def finho (m1 : Int) (m2 : Int) (m3 : Int) (m4 : Int) (m5 : Int) (r1 : Int) (r2 : Int) (r3 : Int) (r4 : Int) (r5 : Int) (e : Int) (f : Int) (s : Bool) : St := ⟨sel 81 [5, 6, 7, 8, 9] [.ptr 0 0, .int .i64 e, .ptr 1 0, .int .i64 f, .bool s], [.cells [.int .u32 m1, .int .u32 m2, .int .u16 m3, .int .u16 m4, .int .u8 m5], .cells [.int .u32 r1, .int .u32 r2, .int .u16 r3, .int .u16 r4, .int .u8 r5]]⟩
structure Xho where
  l : List Row
  r : List Row
  n : Nat
  nr : Nat
  m1 : Int
  m2 : Int
  m3 : Int
  m4 : Int
  m5 : Int
  r1 : Int
  r2 : Int
  r3 : Int
  r4 : Int
  r5 : Int
  e : Int
  f : Int
  s : Bool
  i : Int
def Xho.st (x : Xho) : St := mkho x.l x.r x.n x.nr x.m1 x.m2 x.m3 x.m4 x.m5 x.r1 x.r2 x.r3 x.r4 x.r5 x.e x.f x.s x.i
def pickho : List SV → List Blk → Option Xho
  | [.vs 0 0 n, .vs 1 0 nr, .ptr 2 0, .int .i64 e, .ptr 3 0, .int .i64 f, .bool s, .int .i64 i], [.vec false [.i .u32] l none, .vec true [.i .u32] r none, .cells [.int .u32 m1, .int .u32 m2, .int .u16 m3, .int .u16 m4, .int .u8 m5], .cells [.int .u32 r1, .int .u32 r2, .int .u16 r3, .int .u16 r4, .int .u8 r5]] => some ⟨l, r, n, nr, m1, m2, m3, m4, m5, r1, r2, r3, r4, r5, e, f, s, i⟩
  | _, _ => none
theorem pickho_ok : ∀ vals mem x, pickho vals mem = some x → x.st = ⟨sel 81 [0, 3, 5, 6, 7, 8, 9, 10] vals, mem⟩ := by
  intro vals mem x h
  unfold pickho at h
  split at h
  · cases h; rfl
  · cases h
theorem step_ho (again : St → Option (E × St)) (l r : List Row) (n nr : Nat) (m1 m2 m3 m4 m5 r1 r2 r3 r4 r5 e f : Int) (s : Bool) (i : Int) : step Try.prog G0 ents [] 1 bodyho liveho outho again (mkho l r n nr m1 m2 m3 m4 m5 r1 r2 r3 r4 r5 e f s i) = sure (decide (i < (↑n : Int)))
    (sure s
      (sure (decide ((0 : Int) ≤ i ∧ i < (↑nr : Int)))
        (sure (decide ((0 : Int) ≤ i ∧ i < (↑n : Int)))
          (sure
            (List.getD (r.getD ((0 : Nat) + i.toNat) []) (0 : Nat) (0 : Int) ==
              List.getD (l.getD ((0 : Nat) + i.toNat) []) (0 : Nat) (0 : Int))
            (again (mkho l r n nr m1 m2 m3 m4 m5 r1 r2 r3 r4 r5 e f true (IntKind.i64.wrap (i + (1 : Int)))))
            (again (mkho l r n nr m1 m2 m3 m4 m5 r1 r2 r3 r4 r5 e f false (IntKind.i64.wrap (i + (1 : Int))))))
          none)
        none)
      (again (mkho l r n nr m1 m2 m3 m4 m5 r1 r2 r3 r4 r5 e f false (IntKind.i64.wrap (i + (1 : Int))))))
    (some (E.brk (0 : Nat), finho m1 m2 m3 m4 m5 r1 r2 r3 r4 r5 e f s)) := by kernel_rfl
def stF : List Row → List Row → Bool → Bool
  | [], _, s => s
  | x :: rs, y :: rr, s => stF rs rr (match s with
    | true => y.getD 0 0 == x.getD 0 0
    | false => false)
  | _ :: _, [], _ => false
theorem stF_same : ∀ (l : List Row) (m : List Row) (s : Bool), stF l (l ++ m) s = s
  | [], m, s => rfl
  | x :: l, m, s => by
    show stF l (l ++ m) _ = s
    rw [stF_same l m]
    cases s <;> simp
theorem run_ho (m1 m2 m3 m4 m5 r1 r2 r3 r4 r5 e f : Int) : ∀ (rs rr pre prr : List Row) (s : Bool), (pre ++ rs).length ≤ maxLen → prr.length = pre.length → rs.length ≤ rr.length →
    loopN (step Try.prog G0 ents [] 1 bodyho liveho outho) (rs.length + 1) (mkho (pre ++ rs) (prr ++ rr) (pre ++ rs).length (pre ++ rs).length m1 m2 m3 m4 m5 r1 r2 r3 r4 r5 e f s (pre.length : Nat)) = some (.brk 0, finho m1 m2 m3 m4 m5 r1 r2 r3 r4 r5 e f (stF rs rr s))
  | [], rr, pre, prr, s, _, _, _ => by
    show step _ _ _ _ _ _ _ _ _ _ = _
    rw [step_ho]
    simp [stF, sure]
  | x :: rs, [], pre, prr, s, _, _, h => by simp at h
  | x :: rs, y :: rr, pre, prr, s, hlen, hp, h => by
    show step _ _ _ _ _ _ _ _ (loopN _ (rs.length + 1)) _ = _
    rw [step_ho]
    have hm : maxLen = 9223372036854775807 := rfl
    have hl : ((pre.length : Nat) : Int) < (((pre ++ x :: rs).length : Nat) : Int) := by simp; omega
    have h1 : (0 : Int) ≤ ((pre.length : Nat) : Int) ∧ ((pre.length : Nat) : Int) < (((pre ++ x :: rs).length : Nat) : Int) := ⟨by omega, hl⟩
    have h3 : IntKind.wrap .i64 (((pre.length : Nat) : Int) + 1) = (((pre ++ [x]).length : Nat) : Int) := by rw [wrap_i64 (by omega) (by omega)]; simp
    have h5 : pre ++ x :: rs = (pre ++ [x]) ++ rs := by simp
    have h5' : prr ++ y :: rr = (prr ++ [y]) ++ rr := by simp
    have ih := fun s => run_ho m1 m2 m3 m4 m5 r1 r2 r3 r4 r5 e f rs rr (pre ++ [x]) (prr ++ [y]) s (by rw [← h5]; exact hlen) (by simp [hp]) (by simpa using h)
    rw [← h5, ← h5'] at ih
    rw [mid_get, mid_get' prr y rr _ hp.symm, h3]
    simp only [hl, h1, decide_true, and_self, stF]
    cases s with
    | true =>
      simp only [sure]
      cases (y.getD 0 0 == x.getD 0 0) with
      | true => exact ih _
      | false => exact ih _
    | false => exact ih _
def okho (l r : List Row) (n nr : Nat) : Bool := decide (n = l.length ∧ nr = l.length ∧ l.length ≤ r.length)
def resho (ok : List Row → List Row → Nat → Nat → Bool) (sf : List Row → List Row → Bool → Bool) (x : Xho) : GT (E × St) := .br (x.i == 0) (.when (ok x.l x.r x.n x.nr) (.leaf (.brk 0, finho x.m1 x.m2 x.m3 x.m4 x.m5 x.r1 x.r2 x.r3 x.r4 x.r5 x.e x.f (sf x.l x.r x.s)))) .stop
theorem loopho : LoopOK Try.prog bodyho (fun st => (sumT 81 [0, 3, 5, 6, 7, 8, 9, 10] pickho (resho okho stF) st).opt) := by
  refine loopOK_p (imp := []) (facts G0_ok) 0 1 bodyho (lpOK_none _) liveho outho 81 [0, 3, 5, 6, 7, 8, 9, 10] pickho Xho.st (resho okho stF) pickho_ok ?_
  intro x e st' h hlen
  unfold resho at h
  cases h1 : (x.i == 0) with
  | false => rw [h1] at h; cases h
  | true =>
    cases h2 : okho x.l x.r x.n x.nr with
    | false => rw [h1, h2] at h; cases h
    | true =>
      rw [h1, h2] at h
      have h' : (E.brk 0, finho x.m1 x.m2 x.m3 x.m4 x.m5 x.r1 x.r2 x.r3 x.r4 x.r5 x.e x.f (stF x.l x.r x.s)) = (e, st') := Option.some.inj h
      rw [← h']
      obtain ⟨hn, hnr, hp⟩ := of_decide_eq_true h2
      have hl := hlen 0 false [.i .u32] x.l none rfl
      have h5 := run_ho x.m1 x.m2 x.m3 x.m4 x.m5 x.r1 x.r2 x.r3 x.r4 x.r5 x.e x.f x.l x.r [] [] x.s (by simpa using hl) rfl hp
      refine ⟨x.l.length + 1, ?_⟩
      unfold Xho.st
      rw [eq_of_beq h1, hn, hnr]
      exact h5
def annho (ok : List Row → List Row → Nat → Nat → Bool) (sf : List Row → List Row → Bool → Bool) : Ann := ⟨liveho, 0, some (sumT 81 [0, 3, 5, 6, 7, 8, 9, 10] pickho (resho ok sf))⟩
noncomputable def Gho (x1 x2 x3 x4 x5 xe : List Row → Int) : FuncId → Option (List SV → GT SV)
  | 11 => some (sg0 (.leaf (.bool true)))
  | 23 => some (sgW fun l => .leaf (.tup [hx (x1 l) (x2 l) (x3 l) (x4 l) (x5 l), .int .i64 (xe l)]))
  | 24 => some (sgW fun l => .leaf (.tup [hx (x1 l) (x2 l) (x3 l) (x4 l) (x5 l), .int .i64 (xe l)]))
  | _ => none
theorem Gho_ok : ∀ g s, Gho o1 o2 o3 o4 o5 ofE g = some s → SummT Try.prog g s := fun g s h => by
  unfold Gho at h
  split at h
  · cases h; exact S_awake
  · cases h; exact S_of
  · cases h; exact S_rof
  · cases h
noncomputable def T_ho (x1 x2 x3 x4 x5 xe : List Row → Int) (ok : List Row → List Row → Nat → Nat → Bool) (sf : List Row → List Row → Bool → Bool) (l : List Row) : GT SV := GT.br (decide ((16777216 : Int) < (↑l.length : Int))) (GT.leaf (SV.bool true))
    (GT.br
      (decide
        ((0 : Int) ≤ (↑l.length : Int) ∧
          (↑l.length : Int) ≤ IntKind.i64.wrap ((↑l.length : Int) + (1 : Int)) ∧
            IntKind.i64.wrap ((↑l.length : Int) + (1 : Int)) < (4000000000 : Int)))
      (GT.br
        (decide
          ((0 : Int) ≤ IntKind.i64.wrap ((↑l.length : Int) + (1 : Int)) ∧
            IntKind.i64.wrap ((↑l.length : Int) + (1 : Int)) ≤
              (↑(cpR (List.replicate (IntKind.i64.wrap ((↑l.length : Int) + (1 : Int))).toNat [(0 : Int)])
                        (List.take l.length (List.drop (0 : Nat) l)) (0 : Nat) (↑l.length : Int).toNat).length :
                  Int) -
                (0 : Int)))
        (GT.br
          (decide
            ((0 : Int) ≤ (↑l.length : Int) ∧
              (↑l.length : Int) < (↑(IntKind.i64.wrap ((↑l.length : Int) + (1 : Int))).toNat : Int)))
          (GT.br
            (decide
              ((0 : Int) ≤ (↑l.length : Int) ∧
                (↑l.length : Int) < (↑(IntKind.i64.wrap ((↑l.length : Int) + (1 : Int))).toNat : Int)))
            (GT.br
              (List.getD
                  ((stR
                        (cpR (List.replicate (IntKind.i64.wrap ((↑l.length : Int) + (1 : Int))).toNat [(0 : Int)])
                          (List.take l.length (List.drop (0 : Nat) l)) (0 : Nat) (↑l.length : Int).toNat)
                        ((0 : Nat) + (↑l.length : Int).toNat) (0 : Nat) (1 : Nat) [(99 : Int)]).getD
                    ((0 : Nat) + (↑l.length : Int).toNat) [])
                  (0 : Nat) (0 : Int) ==
                (99 : Int))
              (GT.br
                (ok l
                  (stR
                    (cpR (List.replicate (IntKind.i64.wrap ((↑l.length : Int) + (1 : Int))).toNat [(0 : Int)])
                      (List.take l.length (List.drop (0 : Nat) l)) (0 : Nat) (↑l.length : Int).toNat)
                    ((0 : Nat) + (↑l.length : Int).toNat) (0 : Nat) (1 : Nat) [(99 : Int)])
                  l.length (↑l.length : Int).toNat)
                (GT.br
                  (x1
                        (List.take (↑l.length : Int).toNat
                          (List.drop (0 : Nat)
                            (stR
                              (cpR (List.replicate (IntKind.i64.wrap ((↑l.length : Int) + (1 : Int))).toNat [(0 : Int)])
                                (List.take l.length (List.drop (0 : Nat) l)) (0 : Nat) (↑l.length : Int).toNat)
                              ((0 : Nat) + (↑l.length : Int).toNat) (0 : Nat) (1 : Nat) [(99 : Int)]))) ==
                      x1 (List.take l.length (List.drop (0 : Nat) l)) &&
                    (x2
                          (List.take (↑l.length : Int).toNat
                            (List.drop (0 : Nat)
                              (stR
                                (cpR
                                  (List.replicate (IntKind.i64.wrap ((↑l.length : Int) + (1 : Int))).toNat [(0 : Int)])
                                  (List.take l.length (List.drop (0 : Nat) l)) (0 : Nat) (↑l.length : Int).toNat)
                                ((0 : Nat) + (↑l.length : Int).toNat) (0 : Nat) (1 : Nat) [(99 : Int)]))) ==
                        x2 (List.take l.length (List.drop (0 : Nat) l)) &&
                      (x3
                            (List.take (↑l.length : Int).toNat
                              (List.drop (0 : Nat)
                                (stR
                                  (cpR
                                    (List.replicate (IntKind.i64.wrap ((↑l.length : Int) + (1 : Int))).toNat
                                      [(0 : Int)])
                                    (List.take l.length (List.drop (0 : Nat) l)) (0 : Nat) (↑l.length : Int).toNat)
                                  ((0 : Nat) + (↑l.length : Int).toNat) (0 : Nat) (1 : Nat) [(99 : Int)]))) ==
                          x3 (List.take l.length (List.drop (0 : Nat) l)) &&
                        (x4
                              (List.take (↑l.length : Int).toNat
                                (List.drop (0 : Nat)
                                  (stR
                                    (cpR
                                      (List.replicate (IntKind.i64.wrap ((↑l.length : Int) + (1 : Int))).toNat
                                        [(0 : Int)])
                                      (List.take l.length (List.drop (0 : Nat) l)) (0 : Nat) (↑l.length : Int).toNat)
                                    ((0 : Nat) + (↑l.length : Int).toNat) (0 : Nat) (1 : Nat) [(99 : Int)]))) ==
                            x4 (List.take l.length (List.drop (0 : Nat) l)) &&
                          (x5
                                (List.take (↑l.length : Int).toNat
                                  (List.drop (0 : Nat)
                                    (stR
                                      (cpR
                                        (List.replicate (IntKind.i64.wrap ((↑l.length : Int) + (1 : Int))).toNat
                                          [(0 : Int)])
                                        (List.take l.length (List.drop (0 : Nat) l)) (0 : Nat) (↑l.length : Int).toNat)
                                      ((0 : Nat) + (↑l.length : Int).toNat) (0 : Nat) (1 : Nat) [(99 : Int)]))) ==
                              x5 (List.take l.length (List.drop (0 : Nat) l)) &&
                            true)))))
                  (GT.br
                    (xe
                        (List.take (↑l.length : Int).toNat
                          (List.drop (0 : Nat)
                            (stR
                              (cpR (List.replicate (IntKind.i64.wrap ((↑l.length : Int) + (1 : Int))).toNat [(0 : Int)])
                                (List.take l.length (List.drop (0 : Nat) l)) (0 : Nat) (↑l.length : Int).toNat)
                              ((0 : Nat) + (↑l.length : Int).toNat) (0 : Nat) (1 : Nat) [(99 : Int)]))) ==
                      xe (List.take l.length (List.drop (0 : Nat) l)))
                    (GT.leaf
                      (SV.bool
                        (sf l
                          (stR
                            (cpR (List.replicate (IntKind.i64.wrap ((↑l.length : Int) + (1 : Int))).toNat [(0 : Int)])
                              (List.take l.length (List.drop (0 : Nat) l)) (0 : Nat) (↑l.length : Int).toNat)
                            ((0 : Nat) + (↑l.length : Int).toNat) (0 : Nat) (1 : Nat) [(99 : Int)])
                          true)))
                    (GT.leaf (SV.bool false)))
                  (GT.leaf (SV.bool false)))
                GT.stop)
              (GT.br
                (ok l
                  (stR
                    (cpR (List.replicate (IntKind.i64.wrap ((↑l.length : Int) + (1 : Int))).toNat [(0 : Int)])
                      (List.take l.length (List.drop (0 : Nat) l)) (0 : Nat) (↑l.length : Int).toNat)
                    ((0 : Nat) + (↑l.length : Int).toNat) (0 : Nat) (1 : Nat) [(99 : Int)])
                  l.length (↑l.length : Int).toNat)
                (GT.br
                  (x1
                        (List.take (↑l.length : Int).toNat
                          (List.drop (0 : Nat)
                            (stR
                              (cpR (List.replicate (IntKind.i64.wrap ((↑l.length : Int) + (1 : Int))).toNat [(0 : Int)])
                                (List.take l.length (List.drop (0 : Nat) l)) (0 : Nat) (↑l.length : Int).toNat)
                              ((0 : Nat) + (↑l.length : Int).toNat) (0 : Nat) (1 : Nat) [(99 : Int)]))) ==
                      x1 (List.take l.length (List.drop (0 : Nat) l)) &&
                    (x2
                          (List.take (↑l.length : Int).toNat
                            (List.drop (0 : Nat)
                              (stR
                                (cpR
                                  (List.replicate (IntKind.i64.wrap ((↑l.length : Int) + (1 : Int))).toNat [(0 : Int)])
                                  (List.take l.length (List.drop (0 : Nat) l)) (0 : Nat) (↑l.length : Int).toNat)
                                ((0 : Nat) + (↑l.length : Int).toNat) (0 : Nat) (1 : Nat) [(99 : Int)]))) ==
                        x2 (List.take l.length (List.drop (0 : Nat) l)) &&
                      (x3
                            (List.take (↑l.length : Int).toNat
                              (List.drop (0 : Nat)
                                (stR
                                  (cpR
                                    (List.replicate (IntKind.i64.wrap ((↑l.length : Int) + (1 : Int))).toNat
                                      [(0 : Int)])
                                    (List.take l.length (List.drop (0 : Nat) l)) (0 : Nat) (↑l.length : Int).toNat)
                                  ((0 : Nat) + (↑l.length : Int).toNat) (0 : Nat) (1 : Nat) [(99 : Int)]))) ==
                          x3 (List.take l.length (List.drop (0 : Nat) l)) &&
                        (x4
                              (List.take (↑l.length : Int).toNat
                                (List.drop (0 : Nat)
                                  (stR
                                    (cpR
                                      (List.replicate (IntKind.i64.wrap ((↑l.length : Int) + (1 : Int))).toNat
                                        [(0 : Int)])
                                      (List.take l.length (List.drop (0 : Nat) l)) (0 : Nat) (↑l.length : Int).toNat)
                                    ((0 : Nat) + (↑l.length : Int).toNat) (0 : Nat) (1 : Nat) [(99 : Int)]))) ==
                            x4 (List.take l.length (List.drop (0 : Nat) l)) &&
                          (x5
                                (List.take (↑l.length : Int).toNat
                                  (List.drop (0 : Nat)
                                    (stR
                                      (cpR
                                        (List.replicate (IntKind.i64.wrap ((↑l.length : Int) + (1 : Int))).toNat
                                          [(0 : Int)])
                                        (List.take l.length (List.drop (0 : Nat) l)) (0 : Nat) (↑l.length : Int).toNat)
                                      ((0 : Nat) + (↑l.length : Int).toNat) (0 : Nat) (1 : Nat) [(99 : Int)]))) ==
                              x5 (List.take l.length (List.drop (0 : Nat) l)) &&
                            true)))))
                  (GT.br
                    (xe
                        (List.take (↑l.length : Int).toNat
                          (List.drop (0 : Nat)
                            (stR
                              (cpR (List.replicate (IntKind.i64.wrap ((↑l.length : Int) + (1 : Int))).toNat [(0 : Int)])
                                (List.take l.length (List.drop (0 : Nat) l)) (0 : Nat) (↑l.length : Int).toNat)
                              ((0 : Nat) + (↑l.length : Int).toNat) (0 : Nat) (1 : Nat) [(99 : Int)]))) ==
                      xe (List.take l.length (List.drop (0 : Nat) l)))
                    (GT.leaf
                      (SV.bool
                        (sf l
                          (stR
                            (cpR (List.replicate (IntKind.i64.wrap ((↑l.length : Int) + (1 : Int))).toNat [(0 : Int)])
                              (List.take l.length (List.drop (0 : Nat) l)) (0 : Nat) (↑l.length : Int).toNat)
                            ((0 : Nat) + (↑l.length : Int).toNat) (0 : Nat) (1 : Nat) [(99 : Int)])
                          false)))
                    (GT.leaf (SV.bool false)))
                  (GT.leaf (SV.bool false)))
                GT.stop))
            GT.stop)
          GT.stop)
        GT.stop)
      GT.stop)
theorem e_ho (x1 x2 x3 x4 x5 xe : List Row → Int) (ok : List Row → List Row → Nat → Nat → Bool) (sf : List Row → List Row → Bool → Bool) (l : List Row) : evFn Try.prog (Gho x1 x2 x3 x4 x5 xe) ents [] (lpL [(6, [0, 1, 0, 1, 1, 1, 1, 1, 1, 1, 1, 1], annho ok sf)]) 1 6 [.rows [.i .u32] l] = (T_ho x1 x2 x3 x4 x5 xe ok sf l).opt := by kernel_rfl
theorem ofs (l : List Row) : (T_ho o1 o2 o3 o4 o5 ofE okho stF l).opt = some (.bool true) := by
  unfold T_ho
  by_cases hl : 16777216 < (l.length : Int)
  · simp only [hl, decide_true]; rfl
  · have hw : IntKind.wrap .i64 ((l.length : Int) + 1) = ((l.length + 1 : Nat) : Int) := by rw [wrap_i64 (by omega) (by omega)]; simp
    have hn : ((l.length : Int)).toNat = l.length := by simp
    have hn1 : (((l.length + 1 : Nat) : Int)).toNat = l.length + 1 := by simp
    have hr := room_eq l 0 99
    have ht : List.take l.length (List.drop 0 l) = l := by simp
    have hlen : (cpR (List.replicate (l.length + 1) [(0 : Int)]) l 0 l.length).length = l.length + 1 := by
      have := congrArg List.length hr
      simpa [stR] using this
    rw [hw, hn, hn1, ht, hlen, Nat.zero_add, hr]
    have ht2 : List.take l.length (List.drop 0 (l ++ [[(99 : Int)]])) = l := by simp
    have hg : (l ++ [[(99 : Int)]]).getD l.length [] = [99] := by simp [List.getD_eq_getElem?_getD]
    have hst : stF l (l ++ [[(99 : Int)]]) true = true := stF_same l _ true
    have hok : okho l (l ++ [[(99 : Int)]]) l.length l.length = true := decide_eq_true ⟨rfl, rfl, by simp⟩
    rw [ht2, hg, hok, hst]
    have g1 : decide ((0 : Int) ≤ (l.length : Int) ∧ (l.length : Int) ≤ ((l.length + 1 : Nat) : Int) ∧ ((l.length + 1 : Nat) : Int) < 4000000000) = true := decide_eq_true (by omega)
    have g2 : decide ((0 : Int) ≤ ((l.length + 1 : Nat) : Int) ∧ ((l.length + 1 : Nat) : Int) ≤ ((l.length + 1 : Nat) : Int) - ((0 : Nat) : Int)) = true := decide_eq_true (by omega)
    have g3 : decide ((0 : Int) ≤ (l.length : Int) ∧ (l.length : Int) < ((l.length + 1 : Nat) : Int)) = true := decide_eq_true (by omega)
    have g4 : decide ((0 : Int) ≤ ((l.length + 1 : Nat) : Int) ∧ ((l.length + 1 : Nat) : Int) ≤ ((l.length + 1 : Nat) : Int) - 0) = true := decide_eq_true (by omega)
    try rw [g2]
    try rw [g4]
    simp only [hl, decide_false, g1, g3, BEq.rfl, Bool.true_and, Bool.and_true, List.getD_cons_zero]
    rfl
noncomputable def evOfs (svs : List SV) : Option SV := evFn Try.prog (Gho o1 o2 o3 o4 o5 ofE) ents [] (lpL [(6, [0, 1, 0, 1, 1, 1, 1, 1, 1, 1, 1, 1], annho okho stF)]) 1 6 svs
theorem LOfs.summ : Summ Try.prog 6 evOfs := evFn_summ (factsL Gho_ok _ (at_one (f0 := 6) (p0 := [0, 1, 0, 1, 1, 1, 1, 1, 1, 1, 1, 1]) (ann := annho okho stF) (fun s h => by cases h; exact loopho))) 1 6
theorem LOfs.ok (z : List Int) (_ : ∀ n ∈ z, U32 n) : evOfs [.rows [.i .u32] (z.map fun n => ([n] : List Int))] = some (.bool true) :=
  (e_ho o1 o2 o3 o4 o5 ofE okho stF _).trans (ofs _)
end Go.Sx.Mk
