/- What the functions of the layer answer, by value, and the plain laws behind the statement. Conditions: none beyond those that each theorem names. -/
import Derived.Test.YtcbhenngcfihpaaSxC
import Derived.Test.YtcbhenngcfihpaaChecked
set_option linter.unusedVariables false
set_option linter.unusedSimpArgs false
/- The program of this seat, by value: what is known of it at the start. -/
namespace Go.Sx.Mk
open Go.Proofs Go.RowKit
def nolp : FuncId → List Nat → Option Ann := fun _ _ => none
def lpOf (f0 : Nat) (p0 : List Nat) (ann : Ann) : FuncId → List Nat → Option Ann := fun f p => if f = f0 ∧ p = p0 then some ann else none
noncomputable def bodyOf (f : Nat) (p : List Nat) : Code := match Try.prog.funcs[f]? with
  | some fn => match fn.body with
    | some c => match codeAt c p with
      | some (.loop b) => b
      | _ => .skip
    | none => .skip
  | none => .skip
def ents : List Nat := [3, 4, 5, 6, 7, 8, 9, 10, 11, 12, 13, 14, 15, 16, 17, 18, 19, 20, 21, 22, 23, 24, 25, 26, 27, 28, 29, 30, 31, 32, 33, 34, 35, 36, 37, 38, 39, 40, 41, 42, 43]
theorem ents_ok : ∀ g, ents.contains g = true → Entered Try.prog g := by
  have key : ents.all (fun g => match Try.prog.funcs[g]? with | some fn => (fn.name != "runtime.NumGoroutine") && fn.body.isSome | none => false) = true := by kernel_rfl
  intro g hg
  have := List.all_eq_true.1 key g (by simpa using hg)
  split at this
  · rename_i fn hfn
    rw [Bool.and_eq_true] at this
    exact entered_of hfn this.1 this.2
  · cases this
theorem facts {Γ : FuncId → Option (List SV → GT SV)} (hΓ : ∀ g s, Γ g = some s → SummT Try.prog g s) : Facts Try.prog Γ ents nolp :=
  ⟨Checked.mixed Try.checked, hΓ, ents_ok, fun f fn c _ _ p ann s h => by cases h⟩
/-- what is known of a loop of a function -/
def LpAt (f0 : Nat) (p0 : List Nat) (ann : Ann) : Prop := ∀ s, ann.sum = some s → LoopOKP Try.prog ann.fuel (bodyOf f0 p0) (fun st => (s st).opt)
/-- the loops that are known -/
def lpL (l : List (Nat × List Nat × Ann)) : FuncId → List Nat → Option Ann := fun f p => match l with
  | [] => none
  | (f0, p0, ann) :: l => match decide (f = f0 ∧ p = p0) with
    | true => some ann
    | false => lpL l f p
theorem factsL {Γ : FuncId → Option (List SV → GT SV)} (hΓ : ∀ g s, Γ g = some s → SummT Try.prog g s) (l : List (Nat × List Nat × Ann)) (h : ∀ x ∈ l, LpAt x.1 x.2.1 x.2.2) : Facts Try.prog Γ ents (lpL l) :=
  ⟨Checked.mixed Try.checked, hΓ, ents_ok, fun f fn c hf hc p a s ha hs c' hc' => by
    have key : ∀ l : List (Nat × List Nat × Ann), (∀ x ∈ l, LpAt x.1 x.2.1 x.2.2) → lpL l f p = some a → LoopOKP Try.prog a.fuel (bodyOf f p) (fun st => (s st).opt) := by
      intro l
      induction l with
      | nil => intro _ h; cases h
      | cons x l ih =>
        intro hx h
        unfold lpL at h
        split at h
        · rename_i hd
          cases h
          obtain ⟨rfl, rfl⟩ := of_decide_eq_true hd
          exact hx x (by simp) s hs
        · exact ih (fun y hy => hx y (by simp [hy])) h
    have e : bodyOf f p = c' := by unfold bodyOf; rw [hf]; simp only; rw [hc]; simp only; rw [hc']
    rw [← e]
    exact key l h ha⟩
def lpC (l : List (List Nat × Ann)) : List Nat → Option Ann := fun p => match l with
  | [] => none
  | (p0, ann) :: l => match decide (p = p0) with
    | true => some ann
    | false => lpC l p
theorem lpC_ok {root : Code} (l : List (List Nat × Ann)) (h : ∀ x ∈ l, ∀ s, x.2.sum = some s → ∀ c, codeAt root x.1 = some (.loop c) → LoopOKP Try.prog x.2.fuel c (fun st => (s st).opt)) : LpOK Try.prog root (lpC l) := by
  intro p a s ha hs c hc
  induction l with
  | nil => cases ha
  | cons x l ih =>
    unfold lpC at ha
    split at ha
    · rename_i hd
      cases ha
      have hd' := of_decide_eq_true hd
      subst hd'
      exact h x (by simp) s hs c hc
    · exact ih (fun y hy => h y (by simp [hy])) ha
def G0 : FuncId → Option (List SV → GT SV) := fun _ => none
theorem G0_ok : ∀ g s, G0 g = some s → SummT Try.prog g s := fun g s h => by cases h
noncomputable def ev (G : FuncId → Option (List SV → GT SV)) (d f : Nat) (l : List SV) := evFn Try.prog G ents [] nolp d f l
/-- the first table of bytes that a code indexes -/
def tabIn : Code → Option ByteArray
  | .region _ ops _ => ops.toList.findSome? fun o => match o.op with
    | .index _ (.const (.string s)) _ => some s
    | _ => none
  | .seq a b => match tabIn a with
    | some s => some s
    | none => tabIn b
  | .cond _ a b => match tabIn a with
    | some s => some s
    | none => tabIn b
  | .block _ a => tabIn a
  | .scope a => tabIn a
  | .loop a => tabIn a
  | _ => none
noncomputable def tabOf (f : Nat) : ByteArray := match Try.prog.funcs[f]? with
  | some fn => match fn.body with
    | some c => match tabIn c with
      | some s => s
      | none => .empty
    | none => .empty
  | none => .empty
theorem GT.opt_leaf {α : Type} (a : α) : (GT.leaf a).opt = some a := rfl
theorem GT.opt_br {α : Type} (c : Bool) (t f : GT α) : (GT.br c t f).opt = sure c t.opt f.opt := by cases c <;> rfl
end Go.Sx.Mk


/- Layer 6, by value: the program's functions on headers. -/
namespace Go.Sx.Mk
open Go.Proofs Go.RowKit
def hx (s d p q t : Int) : SV := .agg [.int .u32 s, .int .u32 d, .int .u16 p, .int .u16 q, .int .u8 t]
def sgH (f : Int → Int → Int → Int → Int → GT SV) : List SV → GT SV
  | [.agg [.int .u32 s, .int .u32 d, .int .u16 p, .int .u16 q, .int .u8 t]] => f s d p q t
  | _ => .stop
theorem sgH.summ {P : Program} {g : FuncId} {s0 : List SV → Option SV} (h : Summ P g s0) {f : Int → Int → Int → Int → Int → GT SV} (hf : ∀ (s : Int) (d : Int) (p : Int) (q : Int) (t : Int) sv, (f s d p q t).opt = some sv → s0 [.agg [.int .u32 s, .int .u32 d, .int .u16 p, .int .u16 q, .int .u8 t]] = some sv) : SummT P g (sgH f) := h.weaken (by
  intro svs sv h'
  unfold sgH at h'
  split at h'
  · exact hf _ _ _ _ _ sv h'
  · cases h')
def sgHI (f : Int → Int → Int → Int → Int → Int → GT SV) : List SV → GT SV
  | [.agg [.int .u32 s, .int .u32 d, .int .u16 p, .int .u16 q, .int .u8 t], .int .i64 i] => f s d p q t i
  | _ => .stop
theorem sgHI.summ {P : Program} {g : FuncId} {s0 : List SV → Option SV} (h : Summ P g s0) {f : Int → Int → Int → Int → Int → Int → GT SV} (hf : ∀ (s : Int) (d : Int) (p : Int) (q : Int) (t : Int) (i : Int) sv, (f s d p q t i).opt = some sv → s0 [.agg [.int .u32 s, .int .u32 d, .int .u16 p, .int .u16 q, .int .u8 t], .int .i64 i] = some sv) : SummT P g (sgHI f) := h.weaken (by
  intro svs sv h'
  unfold sgHI at h'
  split at h'
  · exact hf _ _ _ _ _ _ sv h'
  · cases h')
def sgHH (f : Int → Int → Int → Int → Int → Int → Int → Int → Int → Int → GT SV) : List SV → GT SV
  | [.agg [.int .u32 s, .int .u32 d, .int .u16 p, .int .u16 q, .int .u8 t], .agg [.int .u32 s', .int .u32 d', .int .u16 p', .int .u16 q', .int .u8 t']] => f s d p q t s' d' p' q' t'
  | _ => .stop
theorem sgHH.summ {P : Program} {g : FuncId} {s0 : List SV → Option SV} (h : Summ P g s0) {f : Int → Int → Int → Int → Int → Int → Int → Int → Int → Int → GT SV} (hf : ∀ (s : Int) (d : Int) (p : Int) (q : Int) (t : Int) (s' : Int) (d' : Int) (p' : Int) (q' : Int) (t' : Int) sv, (f s d p q t s' d' p' q' t').opt = some sv → s0 [.agg [.int .u32 s, .int .u32 d, .int .u16 p, .int .u16 q, .int .u8 t], .agg [.int .u32 s', .int .u32 d', .int .u16 p', .int .u16 q', .int .u8 t']] = some sv) : SummT P g (sgHH f) := h.weaken (by
  intro svs sv h'
  unfold sgHH at h'
  split at h'
  · exact hf _ _ _ _ _ _ _ _ _ _ sv h'
  · cases h')
def sgB (f : (List Row) → GT SV) : List SV → GT SV
  | [.rows [.i .u8] l] => f l
  | _ => .stop
theorem sgB.summ {P : Program} {g : FuncId} {s0 : List SV → Option SV} (h : Summ P g s0) {f : (List Row) → GT SV} (hf : ∀ (l : List Row) sv, (f l).opt = some sv → s0 [.rows [.i .u8] l] = some sv) : SummT P g (sgB f) := h.weaken (by
  intro svs sv h'
  unfold sgB at h'
  split at h'
  · exact hf _ sv h'
  · cases h')
def sgW (f : (List Row) → GT SV) : List SV → GT SV
  | [.rows [.i .u32] l] => f l
  | _ => .stop
theorem sgW.summ {P : Program} {g : FuncId} {s0 : List SV → Option SV} (h : Summ P g s0) {f : (List Row) → GT SV} (hf : ∀ (l : List Row) sv, (f l).opt = some sv → s0 [.rows [.i .u32] l] = some sv) : SummT P g (sgW f) := h.weaken (by
  intro svs sv h'
  unfold sgW at h'
  split at h'
  · exact hf _ sv h'
  · cases h')
noncomputable def T_packed (s d p q t : Int) : GT SV := GT.leaf
    (SV.agg
      [SV.int IntKind.u8 (IntKind.u8.wrap (s.fdiv (16777216 : Int))),
        SV.int IntKind.u8 (IntKind.u8.wrap (s.fdiv (65536 : Int))),
        SV.int IntKind.u8 (IntKind.u8.wrap (s.fdiv (256 : Int))), SV.int IntKind.u8 (IntKind.u8.wrap s),
        SV.int IntKind.u8 (IntKind.u8.wrap (d.fdiv (16777216 : Int))),
        SV.int IntKind.u8 (IntKind.u8.wrap (d.fdiv (65536 : Int))),
        SV.int IntKind.u8 (IntKind.u8.wrap (d.fdiv (256 : Int))), SV.int IntKind.u8 (IntKind.u8.wrap d),
        SV.int IntKind.u8 (IntKind.u8.wrap (p.fdiv (256 : Int))), SV.int IntKind.u8 (IntKind.u8.wrap p),
        SV.int IntKind.u8 (IntKind.u8.wrap (q.fdiv (256 : Int))), SV.int IntKind.u8 (IntKind.u8.wrap q),
        SV.int IntKind.u8 t])
theorem e_packed (s d p q t : Int) : ev G0 1 32 [hx s d p q t] = (T_packed s d p q t).opt := by kernel_rfl
noncomputable def T_word (l : List Row) : GT SV := GT.br (decide ((0 : Int) ≤ (0 : Int) ∧ (0 : Int) < (↑l.length : Int)))
    (GT.br (decide ((0 : Int) ≤ (1 : Int) ∧ (1 : Int) < (↑l.length : Int)))
      (GT.br (decide ((0 : Int) ≤ (2 : Int) ∧ (2 : Int) < (↑l.length : Int)))
        (GT.br (decide ((0 : Int) ≤ (3 : Int) ∧ (3 : Int) < (↑l.length : Int)))
          (GT.leaf
            (SV.int IntKind.u32
              (bits BinOp.or IntKind.u32
                (bits BinOp.or IntKind.u32
                  (bits BinOp.or IntKind.u32
                    (IntKind.u32.wrap
                      (IntKind.u32.wrap (List.getD (l.getD ((0 : Nat) + Int.toNat (0 : Int)) []) (0 : Nat) (0 : Int)) *
                        (16777216 : Int)))
                    (IntKind.u32.wrap
                      (IntKind.u32.wrap (List.getD (l.getD ((0 : Nat) + Int.toNat (1 : Int)) []) (0 : Nat) (0 : Int)) *
                        (65536 : Int))))
                  (IntKind.u32.wrap
                    (IntKind.u32.wrap (List.getD (l.getD ((0 : Nat) + Int.toNat (2 : Int)) []) (0 : Nat) (0 : Int)) *
                      (256 : Int))))
                (IntKind.u32.wrap (List.getD (l.getD ((0 : Nat) + Int.toNat (3 : Int)) []) (0 : Nat) (0 : Int))))))
          GT.stop)
        GT.stop)
      GT.stop)
    GT.stop
theorem e_word (l : List Row) : ev G0 1 29 [.rows [.i .u8] l] = (T_word l).opt := by kernel_rfl
noncomputable def T_port (l : List Row) : GT SV := GT.br (decide ((0 : Int) ≤ (0 : Int) ∧ (0 : Int) < (↑l.length : Int)))
    (GT.br (decide ((0 : Int) ≤ (1 : Int) ∧ (1 : Int) < (↑l.length : Int)))
      (GT.leaf
        (SV.int IntKind.u16
          (bits BinOp.or IntKind.u16
            (IntKind.u16.wrap
              (IntKind.u16.wrap (List.getD (l.getD ((0 : Nat) + Int.toNat (0 : Int)) []) (0 : Nat) (0 : Int)) *
                (256 : Int)))
            (IntKind.u16.wrap (List.getD (l.getD ((0 : Nat) + Int.toNat (1 : Int)) []) (0 : Nat) (0 : Int))))))
      GT.stop)
    GT.stop
theorem e_port (l : List Row) : ev G0 1 30 [.rows [.i .u8] l] = (T_port l).opt := by kernel_rfl
noncomputable def T_next (s d p q t : Int) : GT SV := GT.br (IntKind.u8.wrap (t + (1 : Int)) == (0 : Int))
    (GT.br (IntKind.u16.wrap (q + (1 : Int)) == (0 : Int))
      (GT.br (IntKind.u16.wrap (p + (1 : Int)) == (0 : Int))
        (GT.br (IntKind.u32.wrap (d + (1 : Int)) == (0 : Int))
          (GT.br
            (!(IntKind.u32.wrap (s + (1 : Int)) == (0 : Int) &&
                (IntKind.u32.wrap (d + (1 : Int)) == (0 : Int) &&
                  (IntKind.u16.wrap (p + (1 : Int)) == (0 : Int) &&
                    (IntKind.u16.wrap (q + (1 : Int)) == (0 : Int) &&
                      (IntKind.u8.wrap (t + (1 : Int)) == (0 : Int) && true))))))
            (GT.leaf
              (SV.tup
                [SV.agg
                    [SV.int IntKind.u32 (IntKind.u32.wrap (s + (1 : Int))),
                      SV.int IntKind.u32 (IntKind.u32.wrap (d + (1 : Int))),
                      SV.int IntKind.u16 (IntKind.u16.wrap (p + (1 : Int))),
                      SV.int IntKind.u16 (IntKind.u16.wrap (q + (1 : Int))),
                      SV.int IntKind.u8 (IntKind.u8.wrap (t + (1 : Int)))],
                  SV.bool true]))
            (GT.leaf
              (SV.tup
                [SV.agg
                    [SV.int IntKind.u32 (IntKind.u32.wrap (s + (1 : Int))),
                      SV.int IntKind.u32 (IntKind.u32.wrap (d + (1 : Int))),
                      SV.int IntKind.u16 (IntKind.u16.wrap (p + (1 : Int))),
                      SV.int IntKind.u16 (IntKind.u16.wrap (q + (1 : Int))),
                      SV.int IntKind.u8 (IntKind.u8.wrap (t + (1 : Int)))],
                  SV.bool false])))
          (GT.br
            (!(s == (0 : Int) &&
                (IntKind.u32.wrap (d + (1 : Int)) == (0 : Int) &&
                  (IntKind.u16.wrap (p + (1 : Int)) == (0 : Int) &&
                    (IntKind.u16.wrap (q + (1 : Int)) == (0 : Int) &&
                      (IntKind.u8.wrap (t + (1 : Int)) == (0 : Int) && true))))))
            (GT.leaf
              (SV.tup
                [SV.agg
                    [SV.int IntKind.u32 s, SV.int IntKind.u32 (IntKind.u32.wrap (d + (1 : Int))),
                      SV.int IntKind.u16 (IntKind.u16.wrap (p + (1 : Int))),
                      SV.int IntKind.u16 (IntKind.u16.wrap (q + (1 : Int))),
                      SV.int IntKind.u8 (IntKind.u8.wrap (t + (1 : Int)))],
                  SV.bool true]))
            (GT.leaf
              (SV.tup
                [SV.agg
                    [SV.int IntKind.u32 s, SV.int IntKind.u32 (IntKind.u32.wrap (d + (1 : Int))),
                      SV.int IntKind.u16 (IntKind.u16.wrap (p + (1 : Int))),
                      SV.int IntKind.u16 (IntKind.u16.wrap (q + (1 : Int))),
                      SV.int IntKind.u8 (IntKind.u8.wrap (t + (1 : Int)))],
                  SV.bool false]))))
        (GT.br
          (!(s == (0 : Int) &&
              (d == (0 : Int) &&
                (IntKind.u16.wrap (p + (1 : Int)) == (0 : Int) &&
                  (IntKind.u16.wrap (q + (1 : Int)) == (0 : Int) &&
                    (IntKind.u8.wrap (t + (1 : Int)) == (0 : Int) && true))))))
          (GT.leaf
            (SV.tup
              [SV.agg
                  [SV.int IntKind.u32 s, SV.int IntKind.u32 d, SV.int IntKind.u16 (IntKind.u16.wrap (p + (1 : Int))),
                    SV.int IntKind.u16 (IntKind.u16.wrap (q + (1 : Int))),
                    SV.int IntKind.u8 (IntKind.u8.wrap (t + (1 : Int)))],
                SV.bool true]))
          (GT.leaf
            (SV.tup
              [SV.agg
                  [SV.int IntKind.u32 s, SV.int IntKind.u32 d, SV.int IntKind.u16 (IntKind.u16.wrap (p + (1 : Int))),
                    SV.int IntKind.u16 (IntKind.u16.wrap (q + (1 : Int))),
                    SV.int IntKind.u8 (IntKind.u8.wrap (t + (1 : Int)))],
                SV.bool false]))))
      (GT.br
        (!(s == (0 : Int) &&
            (d == (0 : Int) &&
              (p == (0 : Int) &&
                (IntKind.u16.wrap (q + (1 : Int)) == (0 : Int) &&
                  (IntKind.u8.wrap (t + (1 : Int)) == (0 : Int) && true))))))
        (GT.leaf
          (SV.tup
            [SV.agg
                [SV.int IntKind.u32 s, SV.int IntKind.u32 d, SV.int IntKind.u16 p,
                  SV.int IntKind.u16 (IntKind.u16.wrap (q + (1 : Int))),
                  SV.int IntKind.u8 (IntKind.u8.wrap (t + (1 : Int)))],
              SV.bool true]))
        (GT.leaf
          (SV.tup
            [SV.agg
                [SV.int IntKind.u32 s, SV.int IntKind.u32 d, SV.int IntKind.u16 p,
                  SV.int IntKind.u16 (IntKind.u16.wrap (q + (1 : Int))),
                  SV.int IntKind.u8 (IntKind.u8.wrap (t + (1 : Int)))],
              SV.bool false]))))
    (GT.br
      (!(s == (0 : Int) &&
          (d == (0 : Int) &&
            (p == (0 : Int) && (q == (0 : Int) && (IntKind.u8.wrap (t + (1 : Int)) == (0 : Int) && true))))))
      (GT.leaf
        (SV.tup
          [SV.agg
              [SV.int IntKind.u32 s, SV.int IntKind.u32 d, SV.int IntKind.u16 p, SV.int IntKind.u16 q,
                SV.int IntKind.u8 (IntKind.u8.wrap (t + (1 : Int)))],
            SV.bool true]))
      (GT.leaf
        (SV.tup
          [SV.agg
              [SV.int IntKind.u32 s, SV.int IntKind.u32 d, SV.int IntKind.u16 p, SV.int IntKind.u16 q,
                SV.int IntKind.u8 (IntKind.u8.wrap (t + (1 : Int)))],
            SV.bool false])))
theorem e_next (s d p q t : Int) : ev G0 1 21 [hx s d p q t] = (T_next s d p q t).opt := by kernel_rfl
noncomputable def T_of (l : List Row) : GT SV := GT.br ((↑l.length : Int) != (5 : Int))
    (GT.leaf
      (SV.tup
        [SV.agg
            [SV.int IntKind.u32 (0 : Int), SV.int IntKind.u32 (0 : Int), SV.int IntKind.u16 (0 : Int),
              SV.int IntKind.u16 (0 : Int), SV.int IntKind.u8 (0 : Int)],
          SV.int IntKind.i64 (1 : Int)]))
    (GT.br (decide ((0 : Int) ≤ (2 : Int) ∧ (2 : Int) < (↑l.length : Int)))
      (GT.br (decide ((65535 : Int) < List.getD (l.getD ((0 : Nat) + Int.toNat (2 : Int)) []) (0 : Nat) (0 : Int)))
        (GT.leaf
          (SV.tup
            [SV.agg
                [SV.int IntKind.u32 (0 : Int), SV.int IntKind.u32 (0 : Int), SV.int IntKind.u16 (0 : Int),
                  SV.int IntKind.u16 (0 : Int), SV.int IntKind.u8 (0 : Int)],
              SV.int IntKind.i64 (61 : Int)]))
        (GT.br (decide ((0 : Int) ≤ (3 : Int) ∧ (3 : Int) < (↑l.length : Int)))
          (GT.br (decide ((65535 : Int) < List.getD (l.getD ((0 : Nat) + Int.toNat (3 : Int)) []) (0 : Nat) (0 : Int)))
            (GT.leaf
              (SV.tup
                [SV.agg
                    [SV.int IntKind.u32 (0 : Int), SV.int IntKind.u32 (0 : Int), SV.int IntKind.u16 (0 : Int),
                      SV.int IntKind.u16 (0 : Int), SV.int IntKind.u8 (0 : Int)],
                  SV.int IntKind.i64 (61 : Int)]))
            (GT.br (decide ((0 : Int) ≤ (4 : Int) ∧ (4 : Int) < (↑l.length : Int)))
              (GT.br
                (decide ((255 : Int) < List.getD (l.getD ((0 : Nat) + Int.toNat (4 : Int)) []) (0 : Nat) (0 : Int)))
                (GT.leaf
                  (SV.tup
                    [SV.agg
                        [SV.int IntKind.u32 (0 : Int), SV.int IntKind.u32 (0 : Int), SV.int IntKind.u16 (0 : Int),
                          SV.int IntKind.u16 (0 : Int), SV.int IntKind.u8 (0 : Int)],
                      SV.int IntKind.i64 (61 : Int)]))
                (GT.br (decide ((0 : Int) ≤ (0 : Int) ∧ (0 : Int) < (↑l.length : Int)))
                  (GT.br (decide ((0 : Int) ≤ (1 : Int) ∧ (1 : Int) < (↑l.length : Int)))
                    (GT.br (decide ((0 : Int) ≤ (2 : Int) ∧ (2 : Int) < (↑l.length : Int)))
                      (GT.br (decide ((0 : Int) ≤ (3 : Int) ∧ (3 : Int) < (↑l.length : Int)))
                        (GT.br (decide ((0 : Int) ≤ (4 : Int) ∧ (4 : Int) < (↑l.length : Int)))
                          (GT.leaf
                            (SV.tup
                              [SV.agg
                                  [SV.int IntKind.u32
                                      (List.getD (l.getD ((0 : Nat) + Int.toNat (0 : Int)) []) (0 : Nat) (0 : Int)),
                                    SV.int IntKind.u32
                                      (List.getD (l.getD ((0 : Nat) + Int.toNat (1 : Int)) []) (0 : Nat) (0 : Int)),
                                    SV.int IntKind.u16
                                      (IntKind.u16.wrap
                                        (List.getD (l.getD ((0 : Nat) + Int.toNat (2 : Int)) []) (0 : Nat) (0 : Int))),
                                    SV.int IntKind.u16
                                      (IntKind.u16.wrap
                                        (List.getD (l.getD ((0 : Nat) + Int.toNat (3 : Int)) []) (0 : Nat) (0 : Int))),
                                    SV.int IntKind.u8
                                      (IntKind.u8.wrap
                                        (List.getD (l.getD ((0 : Nat) + Int.toNat (4 : Int)) []) (0 : Nat) (0 : Int)))],
                                SV.int IntKind.i64 (0 : Int)]))
                          GT.stop)
                        GT.stop)
                      GT.stop)
                    GT.stop)
                  GT.stop))
              GT.stop))
          GT.stop))
      GT.stop)
theorem e_of (l : List Row) : ev G0 1 23 [.rows [.i .u32] l] = (T_of l).opt := by kernel_rfl
noncomputable def T_rof (l : List Row) : GT SV := GT.br ((↑l.length : Int) != (5 : Int))
    (GT.leaf
      (SV.tup
        [SV.agg
            [SV.int IntKind.u32 (0 : Int), SV.int IntKind.u32 (0 : Int), SV.int IntKind.u16 (0 : Int),
              SV.int IntKind.u16 (0 : Int), SV.int IntKind.u8 (0 : Int)],
          SV.int IntKind.i64 (1 : Int)]))
    (GT.br (decide ((0 : Int) ≤ (2 : Int) ∧ (2 : Int) < (↑l.length : Int)))
      (GT.br (decide ((65535 : Int) < List.getD (l.getD ((0 : Nat) + Int.toNat (2 : Int)) []) (0 : Nat) (0 : Int)))
        (GT.leaf
          (SV.tup
            [SV.agg
                [SV.int IntKind.u32 (0 : Int), SV.int IntKind.u32 (0 : Int), SV.int IntKind.u16 (0 : Int),
                  SV.int IntKind.u16 (0 : Int), SV.int IntKind.u8 (0 : Int)],
              SV.int IntKind.i64 (61 : Int)]))
        (GT.br (decide ((0 : Int) ≤ (3 : Int) ∧ (3 : Int) < (↑l.length : Int)))
          (GT.br (decide ((65535 : Int) < List.getD (l.getD ((0 : Nat) + Int.toNat (3 : Int)) []) (0 : Nat) (0 : Int)))
            (GT.leaf
              (SV.tup
                [SV.agg
                    [SV.int IntKind.u32 (0 : Int), SV.int IntKind.u32 (0 : Int), SV.int IntKind.u16 (0 : Int),
                      SV.int IntKind.u16 (0 : Int), SV.int IntKind.u8 (0 : Int)],
                  SV.int IntKind.i64 (61 : Int)]))
            (GT.br (decide ((0 : Int) ≤ (4 : Int) ∧ (4 : Int) < (↑l.length : Int)))
              (GT.br
                (decide ((255 : Int) < List.getD (l.getD ((0 : Nat) + Int.toNat (4 : Int)) []) (0 : Nat) (0 : Int)))
                (GT.leaf
                  (SV.tup
                    [SV.agg
                        [SV.int IntKind.u32 (0 : Int), SV.int IntKind.u32 (0 : Int), SV.int IntKind.u16 (0 : Int),
                          SV.int IntKind.u16 (0 : Int), SV.int IntKind.u8 (0 : Int)],
                      SV.int IntKind.i64 (61 : Int)]))
                (GT.br (decide ((0 : Int) ≤ (0 : Int) ∧ (0 : Int) < (↑l.length : Int)))
                  (GT.br (decide ((0 : Int) ≤ (1 : Int) ∧ (1 : Int) < (↑l.length : Int)))
                    (GT.br (decide ((0 : Int) ≤ (2 : Int) ∧ (2 : Int) < (↑l.length : Int)))
                      (GT.br (decide ((0 : Int) ≤ (3 : Int) ∧ (3 : Int) < (↑l.length : Int)))
                        (GT.br (decide ((0 : Int) ≤ (4 : Int) ∧ (4 : Int) < (↑l.length : Int)))
                          (GT.leaf
                            (SV.tup
                              [SV.agg
                                  [SV.int IntKind.u32
                                      (List.getD (l.getD ((0 : Nat) + Int.toNat (0 : Int)) []) (0 : Nat) (0 : Int)),
                                    SV.int IntKind.u32
                                      (List.getD (l.getD ((0 : Nat) + Int.toNat (1 : Int)) []) (0 : Nat) (0 : Int)),
                                    SV.int IntKind.u16
                                      (IntKind.u16.wrap
                                        (List.getD (l.getD ((0 : Nat) + Int.toNat (2 : Int)) []) (0 : Nat) (0 : Int))),
                                    SV.int IntKind.u16
                                      (IntKind.u16.wrap
                                        (List.getD (l.getD ((0 : Nat) + Int.toNat (3 : Int)) []) (0 : Nat) (0 : Int))),
                                    SV.int IntKind.u8
                                      (IntKind.u8.wrap
                                        (List.getD (l.getD ((0 : Nat) + Int.toNat (4 : Int)) []) (0 : Nat) (0 : Int)))],
                                SV.int IntKind.i64 (0 : Int)]))
                          GT.stop)
                        GT.stop)
                      GT.stop)
                    GT.stop)
                  GT.stop))
              GT.stop))
          GT.stop))
      GT.stop)
theorem e_rof (l : List Row) : ev G0 1 24 [.rows [.i .u32] l] = (T_rof l).opt := by kernel_rfl
def fW (l : List Row) (i : Nat) : Int := (l.getD i []).getD 0 0
/-- what Of answers: the error, and whether the fields are those that were handed in -/
def ofE (l : List Row) : Int := sure ((l.length : Int) != 5) 1 (sure (decide (65535 < fW l 2)) 61 (sure (decide (65535 < fW l 3)) 61 (sure (decide (255 < fW l 4)) 61 0)))
def ofV (l : List Row) (v : Int) : Int := sure (ofE l == 0) v 0
def ofH (l : List Row) : SV := hx (ofV l (fW l 0)) (ofV l (fW l 1)) (ofV l (IntKind.wrap .u16 (fW l 2))) (ofV l (IntKind.wrap .u16 (fW l 3))) (ofV l (IntKind.wrap .u8 (fW l 4)))
theorem T_of_eq (l : List Row) : (T_of l).opt = some (.tup [ofH l, .int .i64 (ofE l)]) := by
  unfold T_of ofH ofV ofE
  cases h : ((l.length : Int) != 5) with
  | true => rfl
  | false =>
    have h5 : (l.length : Int) = 5 := by simpa using h
    rw [h5]
    cases h2 : decide ((65535 : Int) < fW l 2) with
    | true =>
      have h2' : decide ((65535 : Int) < List.getD (l.getD ((0 : Nat) + Int.toNat (2 : Int)) []) (0 : Nat) (0 : Int)) = true := h2
      rw [h2']; rfl
    | false =>
      have h2' : decide ((65535 : Int) < List.getD (l.getD ((0 : Nat) + Int.toNat (2 : Int)) []) (0 : Nat) (0 : Int)) = false := h2
      rw [h2']
      cases h3 : decide ((65535 : Int) < fW l 3) with
      | true =>
        have h3' : decide ((65535 : Int) < List.getD (l.getD ((0 : Nat) + Int.toNat (3 : Int)) []) (0 : Nat) (0 : Int)) = true := h3
        rw [h3']; rfl
      | false =>
        have h3' : decide ((65535 : Int) < List.getD (l.getD ((0 : Nat) + Int.toNat (3 : Int)) []) (0 : Nat) (0 : Int)) = false := h3
        rw [h3']
        cases h4 : decide ((255 : Int) < fW l 4) with
        | true =>
          have h4' : decide ((255 : Int) < List.getD (l.getD ((0 : Nat) + Int.toNat (4 : Int)) []) (0 : Nat) (0 : Int)) = true := h4
          rw [h4']; rfl
        | false =>
          have h4' : decide ((255 : Int) < List.getD (l.getD ((0 : Nat) + Int.toNat (4 : Int)) []) (0 : Nat) (0 : Int)) = false := h4
          rw [h4']; rfl
theorem S_of : SummT Try.prog 23 (sgW fun l => .leaf (.tup [ofH l, .int .i64 (ofE l)])) := sgW.summ (evFn_summ (facts G0_ok) 1 23) (fun l sv h => ((e_of l).trans (T_of_eq l)).trans h)
theorem S_rof : SummT Try.prog 24 (sgW fun l => .leaf (.tup [ofH l, .int .i64 (ofE l)])) := sgW.summ (evFn_summ (facts G0_ok) 1 24) (fun l sv h => ((e_rof l).trans (T_of_eq l)).trans h)
def byS (x k : Int) : Int := IntKind.wrap .u8 (x.fdiv k)
def pkL (s d p q t : Int) : List Int := [byS s 16777216, byS s 65536, byS s 256, IntKind.wrap .u8 s, byS d 16777216, byS d 65536, byS d 256, IntKind.wrap .u8 d, byS p 256, IntKind.wrap .u8 p, byS q 256, IntKind.wrap .u8 q, t]
theorem S_packed : SummT Try.prog 32 (sgH fun s d p q t => .leaf (.agg [.int .u8 (byS s 16777216), .int .u8 (byS s 65536), .int .u8 (byS s 256), .int .u8 (IntKind.wrap .u8 s), .int .u8 (byS d 16777216), .int .u8 (byS d 65536), .int .u8 (byS d 256), .int .u8 (IntKind.wrap .u8 d), .int .u8 (byS p 256), .int .u8 (IntKind.wrap .u8 p), .int .u8 (byS q 256), .int .u8 (IntKind.wrap .u8 q), .int .u8 t])) :=
  sgH.summ (evFn_summ (facts G0_ok) 1 32) (fun s d p q t sv h => (e_packed s d p q t).trans h)
end Go.Sx.Mk


/- Layer 6, by value: awake; HeaderOfs. -/
namespace Go.Sx.Mk
open Go.Proofs Go.RowKit
def f1 (l : List Row) (i : Nat) : Int := (l.getD (0 + i) []).getD 0 0
def wordV (l : List Row) : Int := Go.bits .or .u32 (Go.bits .or .u32 (Go.bits .or .u32 (IntKind.wrap .u32 (IntKind.wrap .u32 (f1 l 0) * 16777216)) (IntKind.wrap .u32 (IntKind.wrap .u32 (f1 l 1) * 65536))) (IntKind.wrap .u32 (IntKind.wrap .u32 (f1 l 2) * 256))) (IntKind.wrap .u32 (f1 l 3))
def portV (l : List Row) : Int := Go.bits .or .u16 (IntKind.wrap .u16 (IntKind.wrap .u16 (f1 l 0) * 256)) (IntKind.wrap .u16 (f1 l 1))
theorem S_word : SummT Try.prog 29 (sgB fun l => .when (decide (4 ≤ l.length)) (.leaf (.int .u32 (wordV l)))) := sgB.summ (evFn_summ (facts G0_ok) 1 29) (fun l sv h => by
  obtain ⟨h1, h2⟩ := GT.opt_when h
  have hl := of_decide_eq_true h1
  refine (e_word l).trans (Eq.trans ?_ h2)
  unfold T_word
  rw [decide_eq_true (show (0 : Int) ≤ 0 ∧ (0 : Int) < (l.length : Int) by omega), decide_eq_true (show (0 : Int) ≤ 1 ∧ (1 : Int) < (l.length : Int) by omega), decide_eq_true (show (0 : Int) ≤ 2 ∧ (2 : Int) < (l.length : Int) by omega), decide_eq_true (show (0 : Int) ≤ 3 ∧ (3 : Int) < (l.length : Int) by omega)]
  rfl)
theorem S_port : SummT Try.prog 30 (sgB fun l => .when (decide (2 ≤ l.length)) (.leaf (.int .u16 (portV l)))) := sgB.summ (evFn_summ (facts G0_ok) 1 30) (fun l sv h => by
  obtain ⟨h1, h2⟩ := GT.opt_when h
  have hl := of_decide_eq_true h1
  refine (e_port l).trans (Eq.trans ?_ h2)
  unfold T_port
  rw [decide_eq_true (show (0 : Int) ≤ 0 ∧ (0 : Int) < (l.length : Int) by omega), decide_eq_true (show (0 : Int) ≤ 1 ∧ (1 : Int) < (l.length : Int) by omega)]
  rfl)
def sgU2 (f : Int → Int → GT SV) : List SV → GT SV
  | [.int .u32 a, .int .u32 b] => f a b
  | _ => .stop
theorem sgU2.summ {P : Program} {g : FuncId} {s0 : List SV → Option SV} (h : Summ P g s0) {f : Int → Int → GT SV} (hf : ∀ (a : Int) (b : Int) sv, (f a b).opt = some sv → s0 [.int .u32 a, .int .u32 b] = some sv) : SummT P g (sgU2 f) := h.weaken (by
  intro svs sv h'
  unfold sgU2 at h'
  split at h'
  · exact hf _ _ sv h'
  · cases h')
def sgX2 (f : Int → Int → GT SV) : List SV → GT SV
  | [.int .u16 a, .int .u16 b] => f a b
  | _ => .stop
theorem sgX2.summ {P : Program} {g : FuncId} {s0 : List SV → Option SV} (h : Summ P g s0) {f : Int → Int → GT SV} (hf : ∀ (a : Int) (b : Int) sv, (f a b).opt = some sv → s0 [.int .u16 a, .int .u16 b] = some sv) : SummT P g (sgX2 f) := h.weaken (by
  intro svs sv h'
  unfold sgX2 at h'
  split at h'
  · exact hf _ _ sv h'
  · cases h')
def sgY2 (f : Int → Int → GT SV) : List SV → GT SV
  | [.int .u8 a, .int .u8 b] => f a b
  | _ => .stop
theorem sgY2.summ {P : Program} {g : FuncId} {s0 : List SV → Option SV} (h : Summ P g s0) {f : Int → Int → GT SV} (hf : ∀ (a : Int) (b : Int) sv, (f a b).opt = some sv → s0 [.int .u8 a, .int .u8 b] = some sv) : SummT P g (sgY2 f) := h.weaken (by
  intro svs sv h'
  unfold sgY2 at h'
  split at h'
  · exact hf _ _ sv h'
  · cases h')
def sgY (f : Int → GT SV) : List SV → GT SV
  | [.int .u8 a] => f a
  | _ => .stop
theorem sgY.summ {P : Program} {g : FuncId} {s0 : List SV → Option SV} (h : Summ P g s0) {f : Int → GT SV} (hf : ∀ (a : Int) sv, (f a).opt = some sv → s0 [.int .u8 a] = some sv) : SummT P g (sgY f) := h.weaken (by
  intro svs sv h'
  unfold sgY at h'
  split at h'
  · exact hf _ sv h'
  · cases h')
def sgO5 (f : Int → Int → Int → Int → Int → GT SV) : List SV → GT SV
  | [.rows [.i .i64] [[a], [b], [c], [d], [e]]] => f a b c d e
  | _ => .stop
theorem sgO5.summ {P : Program} {g : FuncId} {s0 : List SV → Option SV} (h : Summ P g s0) {f : Int → Int → Int → Int → Int → GT SV} (hf : ∀ (a : Int) (b : Int) (c : Int) (d : Int) (e : Int) sv, (f a b c d e).opt = some sv → s0 [.rows [.i .i64] [[a], [b], [c], [d], [e]]] = some sv) : SummT P g (sgO5 f) := h.weaken (by
  intro svs sv h'
  unfold sgO5 at h'
  split at h'
  · exact hf _ _ _ _ _ sv h'
  · cases h')
noncomputable def T_c32 (a b : Int) : GT SV := GT.br (a != a) (GT.br (b != b) (GT.leaf (SV.int IntKind.i64 (0 : Int))) (GT.leaf (SV.int IntKind.i64 (-1 : Int))))
    (GT.br (b != b) (GT.leaf (SV.int IntKind.i64 (1 : Int)))
      (GT.br (decide (a < b)) (GT.leaf (SV.int IntKind.i64 (-1 : Int)))
        (GT.br (decide (b < a)) (GT.leaf (SV.int IntKind.i64 (1 : Int))) (GT.leaf (SV.int IntKind.i64 (0 : Int))))))
theorem e_c32 (a b : Int) : ev G0 2 35 [.int .u32 a, .int .u32 b] = (T_c32 a b).opt := by kernel_rfl
noncomputable def T_c16 (a b : Int) : GT SV := GT.br (a != a) (GT.br (b != b) (GT.leaf (SV.int IntKind.i64 (0 : Int))) (GT.leaf (SV.int IntKind.i64 (-1 : Int))))
    (GT.br (b != b) (GT.leaf (SV.int IntKind.i64 (1 : Int)))
      (GT.br (decide (a < b)) (GT.leaf (SV.int IntKind.i64 (-1 : Int)))
        (GT.br (decide (b < a)) (GT.leaf (SV.int IntKind.i64 (1 : Int))) (GT.leaf (SV.int IntKind.i64 (0 : Int))))))
theorem e_c16 (a b : Int) : ev G0 2 36 [.int .u16 a, .int .u16 b] = (T_c16 a b).opt := by kernel_rfl
noncomputable def T_c8 (a b : Int) : GT SV := GT.br (a != a) (GT.br (b != b) (GT.leaf (SV.int IntKind.i64 (0 : Int))) (GT.leaf (SV.int IntKind.i64 (-1 : Int))))
    (GT.br (b != b) (GT.leaf (SV.int IntKind.i64 (1 : Int)))
      (GT.br (decide (a < b)) (GT.leaf (SV.int IntKind.i64 (-1 : Int)))
        (GT.br (decide (b < a)) (GT.leaf (SV.int IntKind.i64 (1 : Int))) (GT.leaf (SV.int IntKind.i64 (0 : Int))))))
theorem e_c8 (a b : Int) : ev G0 2 37 [.int .u8 a, .int .u8 b] = (T_c8 a b).opt := by kernel_rfl
noncomputable def T_or5 (a b c d e : Int) : GT SV := GT.br (a != (0 : Int)) (GT.leaf (SV.int IntKind.i64 a))
    (GT.br (b != (0 : Int)) (GT.leaf (SV.int IntKind.i64 b))
      (GT.br (c != (0 : Int)) (GT.leaf (SV.int IntKind.i64 c))
        (GT.br (d != (0 : Int)) (GT.leaf (SV.int IntKind.i64 d))
          (GT.br (e != (0 : Int)) (GT.leaf (SV.int IntKind.i64 e)) (GT.leaf (SV.int IntKind.i64 (0 : Int)))))))
theorem e_or5 (a b c d e : Int) : ev G0 2 34 [.rows [.i .i64] [[a], [b], [c], [d], [e]]] = (T_or5 a b c d e).opt := by kernel_rfl
noncomputable def lenTab : ByteArray := tabOf 43
noncomputable def T_lz8 (a : Int) : GT SV := GT.br (decide ((0 : Int) ≤ a ∧ a < (256 : Int)))
    (GT.leaf (SV.int IntKind.i64 (IntKind.i64.wrap ((8 : Int) - IntKind.i64.wrap (strAt lenTab a.toNat))))) GT.stop
theorem e_lz8 (a : Int) : ev G0 2 38 [.int .u8 a] = (T_lz8 a).opt := by kernel_rfl
def cmpV (a b : Int) : Int := sure (decide (a < b)) (-1) (sure (decide (b < a)) 1 0)
theorem S_c32 : SummT Try.prog 35 (sgU2 fun a b => .leaf (.int .i64 (cmpV a b))) := sgU2.summ (evFn_summ (facts G0_ok) 2 35) (fun a b sv h => by
  refine (e_c32 a b).trans (Eq.trans ?_ h)
  unfold T_c32 cmpV
  rw [show (a != a) = false by simp, show (b != b) = false by simp]
  cases decide (a < b) <;> cases decide (b < a) <;> rfl)
theorem S_c16 : SummT Try.prog 36 (sgX2 fun a b => .leaf (.int .i64 (cmpV a b))) := sgX2.summ (evFn_summ (facts G0_ok) 2 36) (fun a b sv h => by
  refine (e_c16 a b).trans (Eq.trans ?_ h)
  unfold T_c16 cmpV
  rw [show (a != a) = false by simp, show (b != b) = false by simp]
  cases decide (a < b) <;> cases decide (b < a) <;> rfl)
theorem S_c8 : SummT Try.prog 37 (sgY2 fun a b => .leaf (.int .i64 (cmpV a b))) := sgY2.summ (evFn_summ (facts G0_ok) 2 37) (fun a b sv h => by
  refine (e_c8 a b).trans (Eq.trans ?_ h)
  unfold T_c8 cmpV
  rw [show (a != a) = false by simp, show (b != b) = false by simp]
  cases decide (a < b) <;> cases decide (b < a) <;> rfl)
def or5 (a b c d e : Int) : Int := sure (a != 0) a (sure (b != 0) b (sure (c != 0) c (sure (d != 0) d (sure (e != 0) e 0))))
theorem S_or5 : SummT Try.prog 34 (sgO5 fun a b c d e => .leaf (.int .i64 (or5 a b c d e))) := sgO5.summ (evFn_summ (facts G0_ok) 2 34) (fun a b c d e sv h => by
  refine (e_or5 a b c d e).trans (Eq.trans ?_ h)
  unfold T_or5 or5
  cases (a != 0) <;> cases (b != 0) <;> cases (c != 0) <;> cases (d != 0) <;> cases (e != 0) <;> rfl)
noncomputable def lz8 (a : Int) : Int := IntKind.wrap .i64 (8 - IntKind.wrap .i64 (strAt lenTab a.toNat))
theorem S_lz8 : SummT Try.prog 38 (sgY fun a => .when (decide (0 ≤ a ∧ a < 256)) (.leaf (.int .i64 (lz8 a)))) := sgY.summ (evFn_summ (facts G0_ok) 2 38) (fun a sv h => by
  obtain ⟨h1, h2⟩ := GT.opt_when h
  refine (e_lz8 a).trans (Eq.trans ?_ h2)
  unfold T_lz8
  rw [h1]; rfl)
noncomputable def Gaw : FuncId → Option (List SV → GT SV)
  | 32 => some (sgH fun s d p q t => .leaf (.agg [.int .u8 (byS s 16777216), .int .u8 (byS s 65536), .int .u8 (byS s 256), .int .u8 (IntKind.wrap .u8 s), .int .u8 (byS d 16777216), .int .u8 (byS d 65536), .int .u8 (byS d 256), .int .u8 (IntKind.wrap .u8 d), .int .u8 (byS p 256), .int .u8 (IntKind.wrap .u8 p), .int .u8 (byS q 256), .int .u8 (IntKind.wrap .u8 q), .int .u8 t]))
  | 29 => some (sgB fun l => .when (decide (4 ≤ l.length)) (.leaf (.int .u32 (wordV l))))
  | 30 => some (sgB fun l => .when (decide (2 ≤ l.length)) (.leaf (.int .u16 (portV l))))
  | 35 => some (sgU2 fun a b => .leaf (.int .i64 (cmpV a b)))
  | 36 => some (sgX2 fun a b => .leaf (.int .i64 (cmpV a b)))
  | 37 => some (sgY2 fun a b => .leaf (.int .i64 (cmpV a b)))
  | 34 => some (sgO5 fun a b c d e => .leaf (.int .i64 (or5 a b c d e)))
  | 38 => some (sgY fun a => .when (decide (0 ≤ a ∧ a < 256)) (.leaf (.int .i64 (lz8 a))))
  | _ => none
theorem Gaw_ok : ∀ g s, Gaw g = some s → SummT Try.prog g s := fun g s h => by
  unfold Gaw at h
  split at h
  · cases h; exact S_packed
  · cases h; exact S_word
  · cases h; exact S_port
  · cases h; exact S_c32
  · cases h; exact S_c16
  · cases h; exact S_c8
  · cases h; exact S_or5
  · cases h; exact S_lz8
  · cases h
theorem e_awake : ev Gaw 4 11 [] = some (.bool true) := by kernel_rfl
theorem S_awake : SummT Try.prog 11 (sg0 (.leaf (.bool true))) := sg0.summ (evFn_summ (facts Gaw_ok) 4 11) (fun sv h => e_awake.trans h)
end Go.Sx.Mk


/- Layer 6: HeaderOfs. -/
namespace Go.Sx.Mk
open Go.Proofs Go.RowKit
theorem at_one {f0 : Nat} {p0 : List Nat} {ann : Ann} (h : LpAt f0 p0 ann) : ∀ x ∈ [(f0, p0, ann)], LpAt x.1 x.2.1 x.2.2 := by
  intro x hx
  rw [List.mem_singleton] at hx
  subst hx
  exact h
def o1 (l : List Row) : Int := ofV l (fW l 0)
def o2 (l : List Row) : Int := ofV l (fW l 1)
def o3 (l : List Row) : Int := ofV l (IntKind.wrap .u16 (fW l 2))
def o4 (l : List Row) : Int := ofV l (IntKind.wrap .u16 (fW l 3))
def o5 (l : List Row) : Int := ofV l (IntKind.wrap .u8 (fW l 4))
noncomputable def bodyho : Code := bodyOf 6 [0,1,0,1,1,1,1,1,1,1,1,1]
def liveho : List (Nat × Option (List CK)) := [(0, none), (3, none), (5, none), (6, none), (7, none), (8, none), (9, none), (10, none)]
def outho : List (Nat × Option (List CK)) := [(5, none), (6, none), (7, none), (8, none), (9, none)]
def mkho (l : List Row) (r : List Row) (n : Nat) (nr : Nat) (m1 : Int) (m2 : Int) (m3 : Int) (m4 : Int) (m5 : Int) (r1 : Int) (r2 : Int) (r3 : Int) (r4 : Int) (r5 : Int) (e : Int) (f : Int) (s : Bool) (i : Int) : St := ⟨sel 81 [0, 3, 5, 6, 7, 8, 9, 10] [.vs 0 0 n, .vs 1 0 nr, .ptr 2 0, .int .i64 e, .ptr 3 0, .int .i64 f, .bool s, .int .i64 i], [.vec false [.i .u32] l none, .vec true [.i .u32] r none, .cells [.int .u32 m1, .int .u32 m2, .int .u16 m3, .int .u16 m4, .int .u8 m5], .cells [.int .u32 r1, .int .u32 r2, .int .u16 r3, .int .u16 r4, .int .u8 r5]]⟩
def finho (m1 : Int) (m2 : Int) (m3 : Int) (m4 : Int) (m5 : Int) (r1 : Int) (r2 : Int) (r3 : Int) (r4 : Int) (r5 : Int) (e : Int) (f : Int) (s : Bool) : St := ⟨sel 81 [5, 6, 7, 8, 9] [.ptr 0 0, .int .i64 e, .ptr 1 0, .int .i64 f, .bool s], [.cells [.int .u32 m1, .int .u32 m2, .int .u16 m3, .int .u16 m4, .int .u8 m5], .cells [.int .u32 r1, .int .u32 r2, .int .u16 r3, .int .u16 r4, .int .u8 r5]]⟩
structure Xho where
  l : List Row
  r : List Row
  n : Nat
  nr : Nat
  m1 : Int
  m2 : Int
  m3 : Int
  m4 : Int
  m5 : Int
  r1 : Int
  r2 : Int
  r3 : Int
  r4 : Int
  r5 : Int
  e : Int
  f : Int
  s : Bool
  i : Int
def Xho.st (x : Xho) : St := mkho x.l x.r x.n x.nr x.m1 x.m2 x.m3 x.m4 x.m5 x.r1 x.r2 x.r3 x.r4 x.r5 x.e x.f x.s x.i
def pickho : List SV → List Blk → Option Xho
  | [.vs 0 0 n, .vs 1 0 nr, .ptr 2 0, .int .i64 e, .ptr 3 0, .int .i64 f, .bool s, .int .i64 i], [.vec false [.i .u32] l none, .vec true [.i .u32] r none, .cells [.int .u32 m1, .int .u32 m2, .int .u16 m3, .int .u16 m4, .int .u8 m5], .cells [.int .u32 r1, .int .u32 r2, .int .u16 r3, .int .u16 r4, .int .u8 r5]] => some ⟨l, r, n, nr, m1, m2, m3, m4, m5, r1, r2, r3, r4, r5, e, f, s, i⟩
  | _, _ => none
theorem pickho_ok : ∀ vals mem x, pickho vals mem = some x → x.st = ⟨sel 81 [0, 3, 5, 6, 7, 8, 9, 10] vals, mem⟩ := by
  intro vals mem x h
  unfold pickho at h
  split at h
  · cases h; rfl
  · cases h
theorem step_ho (again : St → Option (E × St)) (l r : List Row) (n nr : Nat) (m1 m2 m3 m4 m5 r1 r2 r3 r4 r5 e f : Int) (s : Bool) (i : Int) : step Try.prog G0 ents [] 1 bodyho liveho outho again (mkho l r n nr m1 m2 m3 m4 m5 r1 r2 r3 r4 r5 e f s i) = sure (decide (i < (↑n : Int)))
    (sure s
      (sure (decide ((0 : Int) ≤ i ∧ i < (↑nr : Int)))
        (sure (decide ((0 : Int) ≤ i ∧ i < (↑n : Int)))
          (sure
            (List.getD (r.getD ((0 : Nat) + i.toNat) []) (0 : Nat) (0 : Int) ==
              List.getD (l.getD ((0 : Nat) + i.toNat) []) (0 : Nat) (0 : Int))
            (again (mkho l r n nr m1 m2 m3 m4 m5 r1 r2 r3 r4 r5 e f true (IntKind.i64.wrap (i + (1 : Int)))))
            (again (mkho l r n nr m1 m2 m3 m4 m5 r1 r2 r3 r4 r5 e f false (IntKind.i64.wrap (i + (1 : Int))))))
          none)
        none)
      (again (mkho l r n nr m1 m2 m3 m4 m5 r1 r2 r3 r4 r5 e f false (IntKind.i64.wrap (i + (1 : Int))))))
    (some (E.brk (0 : Nat), finho m1 m2 m3 m4 m5 r1 r2 r3 r4 r5 e f s)) := by kernel_rfl
def stF : List Row → List Row → Bool → Bool
  | [], _, s => s
  | x :: rs, y :: rr, s => stF rs rr (match s with
    | true => y.getD 0 0 == x.getD 0 0
    | false => false)
  | _ :: _, [], _ => false
theorem stF_same : ∀ (l : List Row) (m : List Row) (s : Bool), stF l (l ++ m) s = s
  | [], m, s => rfl
  | x :: l, m, s => by
    show stF l (l ++ m) _ = s
    rw [stF_same l m]
    cases s <;> simp
theorem run_ho (m1 m2 m3 m4 m5 r1 r2 r3 r4 r5 e f : Int) : ∀ (rs rr pre prr : List Row) (s : Bool), (pre ++ rs).length ≤ maxLen → prr.length = pre.length → rs.length ≤ rr.length →
    loopN (step Try.prog G0 ents [] 1 bodyho liveho outho) (rs.length + 1) (mkho (pre ++ rs) (prr ++ rr) (pre ++ rs).length (pre ++ rs).length m1 m2 m3 m4 m5 r1 r2 r3 r4 r5 e f s (pre.length : Nat)) = some (.brk 0, finho m1 m2 m3 m4 m5 r1 r2 r3 r4 r5 e f (stF rs rr s))
  | [], rr, pre, prr, s, _, _, _ => by
    show step _ _ _ _ _ _ _ _ _ _ = _
    rw [step_ho]
    simp [stF, sure]
  | x :: rs, [], pre, prr, s, _, _, h => by simp at h
  | x :: rs, y :: rr, pre, prr, s, hlen, hp, h => by
    show step _ _ _ _ _ _ _ _ (loopN _ (rs.length + 1)) _ = _
    rw [step_ho]
    have hm : maxLen = 9223372036854775807 := rfl
    have hl : ((pre.length : Nat) : Int) < (((pre ++ x :: rs).length : Nat) : Int) := by simp; omega
    have h1 : (0 : Int) ≤ ((pre.length : Nat) : Int) ∧ ((pre.length : Nat) : Int) < (((pre ++ x :: rs).length : Nat) : Int) := ⟨by omega, hl⟩
    have h3 : IntKind.wrap .i64 (((pre.length : Nat) : Int) + 1) = (((pre ++ [x]).length : Nat) : Int) := by rw [wrap_i64 (by omega) (by omega)]; simp
    have h5 : pre ++ x :: rs = (pre ++ [x]) ++ rs := by simp
    have h5' : prr ++ y :: rr = (prr ++ [y]) ++ rr := by simp
    have ih := fun s => run_ho m1 m2 m3 m4 m5 r1 r2 r3 r4 r5 e f rs rr (pre ++ [x]) (prr ++ [y]) s (by rw [← h5]; exact hlen) (by simp [hp]) (by simpa using h)
    rw [← h5, ← h5'] at ih
    rw [mid_get, mid_get' prr y rr _ hp.symm, h3]
    simp only [hl, h1, decide_true, and_self, stF]
    cases s with
    | true =>
      simp only [sure]
      cases (y.getD 0 0 == x.getD 0 0) with
      | true => exact ih _
      | false => exact ih _
    | false => exact ih _
def okho (l r : List Row) (n nr : Nat) : Bool := decide (n = l.length ∧ nr = l.length ∧ l.length ≤ r.length)
def resho (ok : List Row → List Row → Nat → Nat → Bool) (sf : List Row → List Row → Bool → Bool) (x : Xho) : GT (E × St) := .br (x.i == 0) (.when (ok x.l x.r x.n x.nr) (.leaf (.brk 0, finho x.m1 x.m2 x.m3 x.m4 x.m5 x.r1 x.r2 x.r3 x.r4 x.r5 x.e x.f (sf x.l x.r x.s)))) .stop
theorem loopho : LoopOK Try.prog bodyho (fun st => (sumT 81 [0, 3, 5, 6, 7, 8, 9, 10] pickho (resho okho stF) st).opt) := by
  refine loopOK_p (imp := []) (facts G0_ok) 0 1 bodyho (lpOK_none _) liveho outho 81 [0, 3, 5, 6, 7, 8, 9, 10] pickho Xho.st (resho okho stF) pickho_ok ?_
  intro x e st' h hlen
  unfold resho at h
  cases h1 : (x.i == 0) with
  | false => rw [h1] at h; cases h
  | true =>
    cases h2 : okho x.l x.r x.n x.nr with
    | false => rw [h1, h2] at h; cases h
    | true =>
      rw [h1, h2] at h
      have h' : (E.brk 0, finho x.m1 x.m2 x.m3 x.m4 x.m5 x.r1 x.r2 x.r3 x.r4 x.r5 x.e x.f (stF x.l x.r x.s)) = (e, st') := Option.some.inj h
      rw [← h']
      obtain ⟨hn, hnr, hp⟩ := of_decide_eq_true h2
      have hl := hlen 0 false [.i .u32] x.l none rfl
      have h5 := run_ho x.m1 x.m2 x.m3 x.m4 x.m5 x.r1 x.r2 x.r3 x.r4 x.r5 x.e x.f x.l x.r [] [] x.s (by simpa using hl) rfl hp
      refine ⟨x.l.length + 1, ?_⟩
      unfold Xho.st
      rw [eq_of_beq h1, hn, hnr]
      exact h5
def annho (ok : List Row → List Row → Nat → Nat → Bool) (sf : List Row → List Row → Bool → Bool) : Ann := ⟨liveho, 0, some (sumT 81 [0, 3, 5, 6, 7, 8, 9, 10] pickho (resho ok sf))⟩
noncomputable def Gho (x1 x2 x3 x4 x5 xe : List Row → Int) : FuncId → Option (List SV → GT SV)
  | 11 => some (sg0 (.leaf (.bool true)))
  | 23 => some (sgW fun l => .leaf (.tup [hx (x1 l) (x2 l) (x3 l) (x4 l) (x5 l), .int .i64 (xe l)]))
  | 24 => some (sgW fun l => .leaf (.tup [hx (x1 l) (x2 l) (x3 l) (x4 l) (x5 l), .int .i64 (xe l)]))
  | _ => none
theorem Gho_ok : ∀ g s, Gho o1 o2 o3 o4 o5 ofE g = some s → SummT Try.prog g s := fun g s h => by
  unfold Gho at h
  split at h
  · cases h; exact S_awake
  · cases h; exact S_of
  · cases h; exact S_rof
  · cases h
noncomputable def T_ho (x1 x2 x3 x4 x5 xe : List Row → Int) (ok : List Row → List Row → Nat → Nat → Bool) (sf : List Row → List Row → Bool → Bool) (l : List Row) : GT SV := GT.br (decide ((16777216 : Int) < (↑l.length : Int))) (GT.leaf (SV.bool true))
    (GT.br
      (decide
        ((0 : Int) ≤ (↑l.length : Int) ∧
          (↑l.length : Int) ≤ IntKind.i64.wrap ((↑l.length : Int) + (1 : Int)) ∧
            IntKind.i64.wrap ((↑l.length : Int) + (1 : Int)) < (4000000000 : Int)))
      (GT.br
        (decide
          ((0 : Int) ≤ IntKind.i64.wrap ((↑l.length : Int) + (1 : Int)) ∧
            IntKind.i64.wrap ((↑l.length : Int) + (1 : Int)) ≤
              (↑(cpR (List.replicate (IntKind.i64.wrap ((↑l.length : Int) + (1 : Int))).toNat [(0 : Int)])
                        (List.take l.length (List.drop (0 : Nat) l)) (0 : Nat) (↑l.length : Int).toNat).length :
                  Int) -
                (0 : Int)))
        (GT.br
          (decide
            ((0 : Int) ≤ (↑l.length : Int) ∧
              (↑l.length : Int) < (↑(IntKind.i64.wrap ((↑l.length : Int) + (1 : Int))).toNat : Int)))
          (GT.br
            (decide
              ((0 : Int) ≤ (↑l.length : Int) ∧
                (↑l.length : Int) < (↑(IntKind.i64.wrap ((↑l.length : Int) + (1 : Int))).toNat : Int)))
            (GT.br
              (List.getD
                  ((stR
                        (cpR (List.replicate (IntKind.i64.wrap ((↑l.length : Int) + (1 : Int))).toNat [(0 : Int)])
                          (List.take l.length (List.drop (0 : Nat) l)) (0 : Nat) (↑l.length : Int).toNat)
                        ((0 : Nat) + (↑l.length : Int).toNat) (0 : Nat) (1 : Nat) [(99 : Int)]).getD
                    ((0 : Nat) + (↑l.length : Int).toNat) [])
                  (0 : Nat) (0 : Int) ==
                (99 : Int))
              (GT.br
                (ok l
                  (stR
                    (cpR (List.replicate (IntKind.i64.wrap ((↑l.length : Int) + (1 : Int))).toNat [(0 : Int)])
                      (List.take l.length (List.drop (0 : Nat) l)) (0 : Nat) (↑l.length : Int).toNat)
                    ((0 : Nat) + (↑l.length : Int).toNat) (0 : Nat) (1 : Nat) [(99 : Int)])
                  l.length (↑l.length : Int).toNat)
                (GT.br
                  (x1
                        (List.take (↑l.length : Int).toNat
                          (List.drop (0 : Nat)
                            (stR
                              (cpR (List.replicate (IntKind.i64.wrap ((↑l.length : Int) + (1 : Int))).toNat [(0 : Int)])
                                (List.take l.length (List.drop (0 : Nat) l)) (0 : Nat) (↑l.length : Int).toNat)
                              ((0 : Nat) + (↑l.length : Int).toNat) (0 : Nat) (1 : Nat) [(99 : Int)]))) ==
                      x1 (List.take l.length (List.drop (0 : Nat) l)) &&
                    (x2
                          (List.take (↑l.length : Int).toNat
                            (List.drop (0 : Nat)
                              (stR
                                (cpR
                                  (List.replicate (IntKind.i64.wrap ((↑l.length : Int) + (1 : Int))).toNat [(0 : Int)])
                                  (List.take l.length (List.drop (0 : Nat) l)) (0 : Nat) (↑l.length : Int).toNat)
                                ((0 : Nat) + (↑l.length : Int).toNat) (0 : Nat) (1 : Nat) [(99 : Int)]))) ==
                        x2 (List.take l.length (List.drop (0 : Nat) l)) &&
                      (x3
                            (List.take (↑l.length : Int).toNat
                              (List.drop (0 : Nat)
                                (stR
                                  (cpR
                                    (List.replicate (IntKind.i64.wrap ((↑l.length : Int) + (1 : Int))).toNat
                                      [(0 : Int)])
                                    (List.take l.length (List.drop (0 : Nat) l)) (0 : Nat) (↑l.length : Int).toNat)
                                  ((0 : Nat) + (↑l.length : Int).toNat) (0 : Nat) (1 : Nat) [(99 : Int)]))) ==
                          x3 (List.take l.length (List.drop (0 : Nat) l)) &&
                        (x4
                              (List.take (↑l.length : Int).toNat
                                (List.drop (0 : Nat)
                                  (stR
                                    (cpR
                                      (List.replicate (IntKind.i64.wrap ((↑l.length : Int) + (1 : Int))).toNat
                                        [(0 : Int)])
                                      (List.take l.length (List.drop (0 : Nat) l)) (0 : Nat) (↑l.length : Int).toNat)
                                    ((0 : Nat) + (↑l.length : Int).toNat) (0 : Nat) (1 : Nat) [(99 : Int)]))) ==
                            x4 (List.take l.length (List.drop (0 : Nat) l)) &&
                          (x5
                                (List.take (↑l.length : Int).toNat
                                  (List.drop (0 : Nat)
                                    (stR
                                      (cpR
                                        (List.replicate (IntKind.i64.wrap ((↑l.length : Int) + (1 : Int))).toNat
                                          [(0 : Int)])
                                        (List.take l.length (List.drop (0 : Nat) l)) (0 : Nat) (↑l.length : Int).toNat)
                                      ((0 : Nat) + (↑l.length : Int).toNat) (0 : Nat) (1 : Nat) [(99 : Int)]))) ==
                              x5 (List.take l.length (List.drop (0 : Nat) l)) &&
                            true)))))
                  (GT.br
                    (xe
                        (List.take (↑l.length : Int).toNat
                          (List.drop (0 : Nat)
                            (stR
                              (cpR (List.replicate (IntKind.i64.wrap ((↑l.length : Int) + (1 : Int))).toNat [(0 : Int)])
                                (List.take l.length (List.drop (0 : Nat) l)) (0 : Nat) (↑l.length : Int).toNat)
                              ((0 : Nat) + (↑l.length : Int).toNat) (0 : Nat) (1 : Nat) [(99 : Int)]))) ==
                      xe (List.take l.length (List.drop (0 : Nat) l)))
                    (GT.leaf
                      (SV.bool
                        (sf l
                          (stR
                            (cpR (List.replicate (IntKind.i64.wrap ((↑l.length : Int) + (1 : Int))).toNat [(0 : Int)])
                              (List.take l.length (List.drop (0 : Nat) l)) (0 : Nat) (↑l.length : Int).toNat)
                            ((0 : Nat) + (↑l.length : Int).toNat) (0 : Nat) (1 : Nat) [(99 : Int)])
                          true)))
                    (GT.leaf (SV.bool false)))
                  (GT.leaf (SV.bool false)))
                GT.stop)
              (GT.br
                (ok l
                  (stR
                    (cpR (List.replicate (IntKind.i64.wrap ((↑l.length : Int) + (1 : Int))).toNat [(0 : Int)])
                      (List.take l.length (List.drop (0 : Nat) l)) (0 : Nat) (↑l.length : Int).toNat)
                    ((0 : Nat) + (↑l.length : Int).toNat) (0 : Nat) (1 : Nat) [(99 : Int)])
                  l.length (↑l.length : Int).toNat)
                (GT.br
                  (x1
                        (List.take (↑l.length : Int).toNat
                          (List.drop (0 : Nat)
                            (stR
                              (cpR (List.replicate (IntKind.i64.wrap ((↑l.length : Int) + (1 : Int))).toNat [(0 : Int)])
                                (List.take l.length (List.drop (0 : Nat) l)) (0 : Nat) (↑l.length : Int).toNat)
                              ((0 : Nat) + (↑l.length : Int).toNat) (0 : Nat) (1 : Nat) [(99 : Int)]))) ==
                      x1 (List.take l.length (List.drop (0 : Nat) l)) &&
                    (x2
                          (List.take (↑l.length : Int).toNat
                            (List.drop (0 : Nat)
                              (stR
                                (cpR
                                  (List.replicate (IntKind.i64.wrap ((↑l.length : Int) + (1 : Int))).toNat [(0 : Int)])
                                  (List.take l.length (List.drop (0 : Nat) l)) (0 : Nat) (↑l.length : Int).toNat)
                                ((0 : Nat) + (↑l.length : Int).toNat) (0 : Nat) (1 : Nat) [(99 : Int)]))) ==
                        x2 (List.take l.length (List.drop (0 : Nat) l)) &&
                      (x3
                            (List.take (↑l.length : Int).toNat
                              (List.drop (0 : Nat)
                                (stR
                                  (cpR
                                    (List.replicate (IntKind.i64.wrap ((↑l.length : Int) + (1 : Int))).toNat
                                      [(0 : Int)])
                                    (List.take l.length (List.drop (0 : Nat) l)) (0 : Nat) (↑l.length : Int).toNat)
                                  ((0 : Nat) + (↑l.length : Int).toNat) (0 : Nat) (1 : Nat) [(99 : Int)]))) ==
                          x3 (List.take l.length (List.drop (0 : Nat) l)) &&
                        (x4
                              (List.take (↑l.length : Int).toNat
                                (List.drop (0 : Nat)
                                  (stR
                                    (cpR
                                      (List.replicate (IntKind.i64.wrap ((↑l.length : Int) + (1 : Int))).toNat
                                        [(0 : Int)])
                                      (List.take l.length (List.drop (0 : Nat) l)) (0 : Nat) (↑l.length : Int).toNat)
                                    ((0 : Nat) + (↑l.length : Int).toNat) (0 : Nat) (1 : Nat) [(99 : Int)]))) ==
                            x4 (List.take l.length (List.drop (0 : Nat) l)) &&
                          (x5
                                (List.take (↑l.length : Int).toNat
                                  (List.drop (0 : Nat)
                                    (stR
                                      (cpR
                                        (List.replicate (IntKind.i64.wrap ((↑l.length : Int) + (1 : Int))).toNat
                                          [(0 : Int)])
                                        (List.take l.length (List.drop (0 : Nat) l)) (0 : Nat) (↑l.length : Int).toNat)
                                      ((0 : Nat) + (↑l.length : Int).toNat) (0 : Nat) (1 : Nat) [(99 : Int)]))) ==
                              x5 (List.take l.length (List.drop (0 : Nat) l)) &&
                            true)))))
                  (GT.br
                    (xe
                        (List.take (↑l.length : Int).toNat
                          (List.drop (0 : Nat)
                            (stR
                              (cpR (List.replicate (IntKind.i64.wrap ((↑l.length : Int) + (1 : Int))).toNat [(0 : Int)])
                                (List.take l.length (List.drop (0 : Nat) l)) (0 : Nat) (↑l.length : Int).toNat)
                              ((0 : Nat) + (↑l.length : Int).toNat) (0 : Nat) (1 : Nat) [(99 : Int)]))) ==
                      xe (List.take l.length (List.drop (0 : Nat) l)))
                    (GT.leaf
                      (SV.bool
                        (sf l
                          (stR
                            (cpR (List.replicate (IntKind.i64.wrap ((↑l.length : Int) + (1 : Int))).toNat [(0 : Int)])
                              (List.take l.length (List.drop (0 : Nat) l)) (0 : Nat) (↑l.length : Int).toNat)
                            ((0 : Nat) + (↑l.length : Int).toNat) (0 : Nat) (1 : Nat) [(99 : Int)])
                          false)))
                    (GT.leaf (SV.bool false)))
                  (GT.leaf (SV.bool false)))
                GT.stop))
            GT.stop)
          GT.stop)
        GT.stop)
      GT.stop)
theorem e_ho (x1 x2 x3 x4 x5 xe : List Row → Int) (ok : List Row → List Row → Nat → Nat → Bool) (sf : List Row → List Row → Bool → Bool) (l : List Row) : evFn Try.prog (Gho x1 x2 x3 x4 x5 xe) ents [] (lpL [(6, [0, 1, 0, 1, 1, 1, 1, 1, 1, 1, 1, 1], annho ok sf)]) 1 6 [.rows [.i .u32] l] = (T_ho x1 x2 x3 x4 x5 xe ok sf l).opt := by kernel_rfl
theorem ofs (l : List Row) : (T_ho o1 o2 o3 o4 o5 ofE okho stF l).opt = some (.bool true) := by
  unfold T_ho
  by_cases hl : 16777216 < (l.length : Int)
  · simp only [hl, decide_true]; rfl
  · have hw : IntKind.wrap .i64 ((l.length : Int) + 1) = ((l.length + 1 : Nat) : Int) := by rw [wrap_i64 (by omega) (by omega)]; simp
    have hn : ((l.length : Int)).toNat = l.length := by simp
    have hn1 : (((l.length + 1 : Nat) : Int)).toNat = l.length + 1 := by simp
    have hr := room_eq l 0 99
    have ht : List.take l.length (List.drop 0 l) = l := by simp
    have hlen : (cpR (List.replicate (l.length + 1) [(0 : Int)]) l 0 l.length).length = l.length + 1 := by
      have := congrArg List.length hr
      simpa [stR] using this
    rw [hw, hn, hn1, ht, hlen, Nat.zero_add, hr]
    have ht2 : List.take l.length (List.drop 0 (l ++ [[(99 : Int)]])) = l := by simp
    have hg : (l ++ [[(99 : Int)]]).getD l.length [] = [99] := by simp [List.getD_eq_getElem?_getD]
    have hst : stF l (l ++ [[(99 : Int)]]) true = true := stF_same l _ true
    have hok : okho l (l ++ [[(99 : Int)]]) l.length l.length = true := decide_eq_true ⟨rfl, rfl, by simp⟩
    rw [ht2, hg, hok, hst]
    have g1 : decide ((0 : Int) ≤ (l.length : Int) ∧ (l.length : Int) ≤ ((l.length + 1 : Nat) : Int) ∧ ((l.length + 1 : Nat) : Int) < 4000000000) = true := decide_eq_true (by omega)
    have g2 : decide ((0 : Int) ≤ ((l.length + 1 : Nat) : Int) ∧ ((l.length + 1 : Nat) : Int) ≤ ((l.length + 1 : Nat) : Int) - ((0 : Nat) : Int)) = true := decide_eq_true (by omega)
    have g3 : decide ((0 : Int) ≤ (l.length : Int) ∧ (l.length : Int) < ((l.length + 1 : Nat) : Int)) = true := decide_eq_true (by omega)
    have g4 : decide ((0 : Int) ≤ ((l.length + 1 : Nat) : Int) ∧ ((l.length + 1 : Nat) : Int) ≤ ((l.length + 1 : Nat) : Int) - 0) = true := decide_eq_true (by omega)
    try rw [g2]
    try rw [g4]
    simp only [hl, decide_false, g1, g3, BEq.rfl, Bool.true_and, Bool.and_true, List.getD_cons_zero]
    rfl
noncomputable def evOfs (svs : List SV) : Option SV := evFn Try.prog (Gho o1 o2 o3 o4 o5 ofE) ents [] (lpL [(6, [0, 1, 0, 1, 1, 1, 1, 1, 1, 1, 1, 1], annho okho stF)]) 1 6 svs
theorem LOfs.summ : Summ Try.prog 6 evOfs := evFn_summ (factsL Gho_ok _ (at_one (f0 := 6) (p0 := [0, 1, 0, 1, 1, 1, 1, 1, 1, 1, 1, 1]) (ann := annho okho stF) (fun s h => by cases h; exact loopho))) 1 6
theorem LOfs.ok (z : List Int) (_ : ∀ n ∈ z, U32 n) : evOfs [.rows [.i .u32] (z.map fun n => ([n] : List Int))] = some (.bool true) :=
  (e_ho o1 o2 o3 o4 o5 ofE okho stF _).trans (ofs _)
end Go.Sx.Mk


/- Layer 6: the reference's low, Unpack, Pack; Next. -/
namespace Go.Sx.Mk
open Go.Proofs Go.RowKit
noncomputable def bodylo : Code := bodyOf 31 [0,1,0,1,1]
def livelo : List (Nat × Option (List CK)) := [(0, none), (3, none), (4, none)]
def outlo : List (Nat × Option (List CK)) := [(3, none)]
def mklo (l : List Row) (n : Nat) (v : Int) (i : Int) : St := ⟨sel 20 [0, 3, 4] [.vs 0 0 n, .int .u64 v, .int .i64 i], [.vec false [.i .u8] l none]⟩
def finlo (v : Int) : St := ⟨sel 20 [3] [.int .u64 v], []⟩
structure Xlo where
  l : List Row
  n : Nat
  v : Int
  i : Int
def Xlo.st (x : Xlo) : St := mklo x.l x.n x.v x.i
def picklo : List SV → List Blk → Option Xlo
  | [.vs 0 0 n, .int .u64 v, .int .i64 i], [.vec false [.i .u8] l none] => some ⟨l, n, v, i⟩
  | _, _ => none
theorem picklo_ok : ∀ vals mem x, picklo vals mem = some x → x.st = ⟨sel 20 [0, 3, 4] vals, mem⟩ := by
  intro vals mem x h
  unfold picklo at h
  split at h
  · cases h; rfl
  · cases h
theorem step_lo (again : St → Option (E × St)) (l : List Row) (n : Nat) (v i : Int) : step Try.prog G0 ents [] 1 bodylo livelo outlo again (mklo l n v i) = sure (decide (i < (↑n : Int)))
    (sure (decide ((0 : Int) ≤ i ∧ i < (↑n : Int)))
      (again
        (mklo l n
          (IntKind.u64.wrap
            (IntKind.u64.wrap ((256 : Int) * v) +
              IntKind.u64.wrap (List.getD (l.getD ((0 : Nat) + i.toNat) []) (0 : Nat) (0 : Int))))
          (IntKind.i64.wrap (i + (1 : Int)))))
      none)
    (some (E.brk (0 : Nat), finlo v)) := by kernel_rfl
def loF : List Row → Int → Int
  | [], v => v
  | x :: l, v => loF l (IntKind.wrap .u64 (IntKind.wrap .u64 (256 * v) + IntKind.wrap .u64 (x.getD 0 0)))
theorem run_lo : ∀ (rs pre : List Row) (v : Int), (pre ++ rs).length ≤ maxLen →
    loopN (step Try.prog G0 ents [] 1 bodylo livelo outlo) (rs.length + 1) (mklo (pre ++ rs) (pre ++ rs).length v (pre.length : Nat)) = some (.brk 0, finlo (loF rs v))
  | [], pre, v, _ => by
    show step _ _ _ _ _ _ _ _ _ _ = _
    rw [step_lo]
    simp [loF, sure]
  | x :: rs, pre, v, hlen => by
    show step _ _ _ _ _ _ _ _ (loopN _ (rs.length + 1)) _ = _
    rw [step_lo]
    have hm : maxLen = 9223372036854775807 := rfl
    have hl : ((pre.length : Nat) : Int) < (((pre ++ x :: rs).length : Nat) : Int) := by simp; omega
    have h1 : (0 : Int) ≤ ((pre.length : Nat) : Int) ∧ ((pre.length : Nat) : Int) < (((pre ++ x :: rs).length : Nat) : Int) := ⟨by omega, hl⟩
    have h3 : IntKind.wrap .i64 (((pre.length : Nat) : Int) + 1) = (((pre ++ [x]).length : Nat) : Int) := by rw [wrap_i64 (by omega) (by omega)]; simp
    have h5 : pre ++ x :: rs = (pre ++ [x]) ++ rs := by simp
    have ih := fun v => run_lo rs (pre ++ [x]) v (by rw [← h5]; exact hlen)
    rw [← h5] at ih
    rw [mid_get, h3]
    simp only [hl, h1, decide_true, and_self, sure]
    exact ih _
theorem looplo : LoopOK Try.prog bodylo (fun st => (sumT 20 [0, 3, 4] picklo (fun x => .when (x.i == 0 && Nat.beq x.n x.l.length) (.leaf (.brk 0, finlo (loF x.l x.v)))) st).opt) := by
  refine loop_one (imp := []) (facts G0_ok) 0 1 bodylo (lpOK_none _) livelo outlo 20 [0, 3, 4] picklo Xlo.st (fun x => x.i == 0 && Nat.beq x.n x.l.length) _ picklo_ok ?_
  intro x h1 hlen
  rw [Bool.and_eq_true] at h1
  have h5 := run_lo x.l [] x.v (by simpa using hlen 0 false _ x.l none rfl)
  refine ⟨x.l.length + 1, ?_⟩
  unfold Xlo.st
  rw [eq_of_beq h1.1, Nat.eq_of_beq_eq_true h1.2]
  exact h5
def annlo (lf : List Row → Int → Int) : Ann := ⟨livelo, 0, some (sumT 20 [0, 3, 4] picklo (fun x => .when (x.i == 0 && Nat.beq x.n x.l.length) (.leaf (.brk 0, finlo (lf x.l x.v)))))⟩
noncomputable def T_low (lf : List Row → Int → Int) (l : List Row) : GT SV := GT.br ((0 : Int) == (0 : Int) && l.length.beq l.length) (GT.leaf (SV.int IntKind.u64 (lf l (0 : Int)))) GT.stop
theorem e_low (lf : List Row → Int → Int) (l : List Row) : evFn Try.prog G0 ents [] (lpL [(31, [0, 1, 0, 1, 1], annlo lf)]) 1 31 [.rows [.i .u8] l] = (T_low lf l).opt := by kernel_rfl
def loV (l : List Row) : Int := loF l 0
theorem S_low : SummT Try.prog 31 (sgB fun l => .leaf (.int .u64 (loV l))) := sgB.summ (evFn_summ (factsL G0_ok _ (at_one (f0 := 31) (p0 := [0, 1, 0, 1, 1]) (ann := annlo loF) (fun s h => by cases h; exact looplo))) 1 31) (fun l sv h => by
  refine (e_low loF l).trans (Eq.trans ?_ h)
  unfold T_low
  rw [show Nat.beq l.length l.length = true from Nat.beq_refl _]
  rfl)
noncomputable def Glo (lv : List Row → Int) : FuncId → Option (List SV → GT SV)
  | 31 => some (sgB fun l => .leaf (.int .u64 (lv l)))
  | _ => none
theorem Glo_ok : ∀ g s, Glo loV g = some s → SummT Try.prog g s := fun g s h => by
  unfold Glo at h
  split at h
  · cases h; exact S_low
  · cases h
noncomputable def T_runpack (lv : List Row → Int) (l : List Row) : GT SV := GT.br ((↑l.length : Int) != (13 : Int))
    (GT.leaf
      (SV.tup
        [SV.agg
            [SV.int IntKind.u32 (0 : Int), SV.int IntKind.u32 (0 : Int), SV.int IntKind.u16 (0 : Int),
              SV.int IntKind.u16 (0 : Int), SV.int IntKind.u8 (0 : Int)],
          SV.int IntKind.i64 (60 : Int)]))
    (GT.br (decide ((0 : Int) ≤ (4 : Int) ∧ (4 : Int) ≤ (↑l.length : Int) - (0 : Int)))
      (GT.br (decide ((0 : Int) ≤ (8 : Int) ∧ (8 : Int) ≤ (↑l.length : Int) - (0 : Int)))
        (GT.br (decide ((0 : Int) ≤ (10 : Int) ∧ (10 : Int) ≤ (↑l.length : Int) - (0 : Int)))
          (GT.br (decide ((0 : Int) ≤ (12 : Int) ∧ (12 : Int) ≤ (↑l.length : Int) - (0 : Int)))
            (GT.br (decide ((0 : Int) ≤ (12 : Int) ∧ (12 : Int) < (↑l.length : Int)))
              (GT.leaf
                (SV.tup
                  [SV.agg
                      [SV.int IntKind.u32
                          (IntKind.u32.wrap (lv (List.take (Int.toNat (4 : Int)) (List.drop (0 : Nat) l)))),
                        SV.int IntKind.u32
                          (IntKind.u32.wrap
                            (lv
                              (List.take (Int.toNat (8 : Int) - Int.toNat (4 : Int))
                                (List.drop ((0 : Nat) + Int.toNat (4 : Int)) l)))),
                        SV.int IntKind.u16
                          (IntKind.u16.wrap
                            (lv
                              (List.take (Int.toNat (10 : Int) - Int.toNat (8 : Int))
                                (List.drop ((0 : Nat) + Int.toNat (8 : Int)) l)))),
                        SV.int IntKind.u16
                          (IntKind.u16.wrap
                            (lv
                              (List.take (Int.toNat (12 : Int) - Int.toNat (10 : Int))
                                (List.drop ((0 : Nat) + Int.toNat (10 : Int)) l)))),
                        SV.int IntKind.u8
                          (List.getD (l.getD ((0 : Nat) + Int.toNat (12 : Int)) []) (0 : Nat) (0 : Int))],
                    SV.int IntKind.i64 (0 : Int)]))
              GT.stop)
            GT.stop)
          GT.stop)
        GT.stop)
      GT.stop)
theorem e_runpack (lv : List Row → Int) (l : List Row) : ev (Glo lv) 2 13 [.rows [.i .u8] l] = (T_runpack lv l).opt := by kernel_rfl
noncomputable def T_unpack (wv pv : List Row → Int) (l : List Row) : GT SV := GT.br ((↑l.length : Int) != (13 : Int))
    (GT.leaf
      (SV.tup
        [SV.agg
            [SV.int IntKind.u32 (0 : Int), SV.int IntKind.u32 (0 : Int), SV.int IntKind.u16 (0 : Int),
              SV.int IntKind.u16 (0 : Int), SV.int IntKind.u8 (0 : Int)],
          SV.int IntKind.i64 (60 : Int)]))
    (GT.br (decide ((4 : Nat) ≤ (List.take l.length (List.drop (0 : Nat) l)).length))
      (GT.br (decide ((0 : Int) ≤ (4 : Int) ∧ (4 : Int) ≤ (↑l.length : Int)))
        (GT.br
          (decide
            ((4 : Nat) ≤
              (List.take (l.length - Int.toNat (4 : Int)) (List.drop ((0 : Nat) + Int.toNat (4 : Int)) l)).length))
          (GT.br (decide ((0 : Int) ≤ (8 : Int) ∧ (8 : Int) ≤ (↑l.length : Int)))
            (GT.br
              (decide
                ((2 : Nat) ≤
                  (List.take (l.length - Int.toNat (8 : Int)) (List.drop ((0 : Nat) + Int.toNat (8 : Int)) l)).length))
              (GT.br (decide ((0 : Int) ≤ (10 : Int) ∧ (10 : Int) ≤ (↑l.length : Int)))
                (GT.br
                  (decide
                    ((2 : Nat) ≤
                      (List.take (l.length - Int.toNat (10 : Int))
                          (List.drop ((0 : Nat) + Int.toNat (10 : Int)) l)).length))
                  (GT.br (decide ((0 : Int) ≤ (12 : Int) ∧ (12 : Int) < (↑l.length : Int)))
                    (GT.leaf
                      (SV.tup
                        [SV.agg
                            [SV.int IntKind.u32
                                (bits BinOp.or IntKind.u32
                                  (bits BinOp.or IntKind.u32
                                    (bits BinOp.or IntKind.u32
                                      (IntKind.u32.wrap
                                        (IntKind.u32.wrap
                                            (List.getD
                                              ((List.take l.length (List.drop (0 : Nat) l)).getD ((0 : Nat) + (0 : Nat))
                                                [])
                                              (0 : Nat) (0 : Int)) *
                                          (16777216 : Int)))
                                      (IntKind.u32.wrap
                                        (IntKind.u32.wrap
                                            (List.getD
                                              ((List.take l.length (List.drop (0 : Nat) l)).getD ((0 : Nat) + (1 : Nat))
                                                [])
                                              (0 : Nat) (0 : Int)) *
                                          (65536 : Int))))
                                    (IntKind.u32.wrap
                                      (IntKind.u32.wrap
                                          (List.getD
                                            ((List.take l.length (List.drop (0 : Nat) l)).getD ((0 : Nat) + (2 : Nat))
                                              [])
                                            (0 : Nat) (0 : Int)) *
                                        (256 : Int))))
                                  (IntKind.u32.wrap
                                    (List.getD
                                      ((List.take l.length (List.drop (0 : Nat) l)).getD ((0 : Nat) + (3 : Nat)) [])
                                      (0 : Nat) (0 : Int)))),
                              SV.int IntKind.u32
                                (bits BinOp.or IntKind.u32
                                  (bits BinOp.or IntKind.u32
                                    (bits BinOp.or IntKind.u32
                                      (IntKind.u32.wrap
                                        (IntKind.u32.wrap
                                            (List.getD
                                              ((List.take (l.length - Int.toNat (4 : Int))
                                                    (List.drop ((0 : Nat) + Int.toNat (4 : Int)) l)).getD
                                                ((0 : Nat) + (0 : Nat)) [])
                                              (0 : Nat) (0 : Int)) *
                                          (16777216 : Int)))
                                      (IntKind.u32.wrap
                                        (IntKind.u32.wrap
                                            (List.getD
                                              ((List.take (l.length - Int.toNat (4 : Int))
                                                    (List.drop ((0 : Nat) + Int.toNat (4 : Int)) l)).getD
                                                ((0 : Nat) + (1 : Nat)) [])
                                              (0 : Nat) (0 : Int)) *
                                          (65536 : Int))))
                                    (IntKind.u32.wrap
                                      (IntKind.u32.wrap
                                          (List.getD
                                            ((List.take (l.length - Int.toNat (4 : Int))
                                                  (List.drop ((0 : Nat) + Int.toNat (4 : Int)) l)).getD
                                              ((0 : Nat) + (2 : Nat)) [])
                                            (0 : Nat) (0 : Int)) *
                                        (256 : Int))))
                                  (IntKind.u32.wrap
                                    (List.getD
                                      ((List.take (l.length - Int.toNat (4 : Int))
                                            (List.drop ((0 : Nat) + Int.toNat (4 : Int)) l)).getD
                                        ((0 : Nat) + (3 : Nat)) [])
                                      (0 : Nat) (0 : Int)))),
                              SV.int IntKind.u16
                                (bits BinOp.or IntKind.u16
                                  (IntKind.u16.wrap
                                    (IntKind.u16.wrap
                                        (List.getD
                                          ((List.take (l.length - Int.toNat (8 : Int))
                                                (List.drop ((0 : Nat) + Int.toNat (8 : Int)) l)).getD
                                            ((0 : Nat) + (0 : Nat)) [])
                                          (0 : Nat) (0 : Int)) *
                                      (256 : Int)))
                                  (IntKind.u16.wrap
                                    (List.getD
                                      ((List.take (l.length - Int.toNat (8 : Int))
                                            (List.drop ((0 : Nat) + Int.toNat (8 : Int)) l)).getD
                                        ((0 : Nat) + (1 : Nat)) [])
                                      (0 : Nat) (0 : Int)))),
                              SV.int IntKind.u16
                                (bits BinOp.or IntKind.u16
                                  (IntKind.u16.wrap
                                    (IntKind.u16.wrap
                                        (List.getD
                                          ((List.take (l.length - Int.toNat (10 : Int))
                                                (List.drop ((0 : Nat) + Int.toNat (10 : Int)) l)).getD
                                            ((0 : Nat) + (0 : Nat)) [])
                                          (0 : Nat) (0 : Int)) *
                                      (256 : Int)))
                                  (IntKind.u16.wrap
                                    (List.getD
                                      ((List.take (l.length - Int.toNat (10 : Int))
                                            (List.drop ((0 : Nat) + Int.toNat (10 : Int)) l)).getD
                                        ((0 : Nat) + (1 : Nat)) [])
                                      (0 : Nat) (0 : Int)))),
                              SV.int IntKind.u8
                                (List.getD (l.getD ((0 : Nat) + Int.toNat (12 : Int)) []) (0 : Nat) (0 : Int))],
                          SV.int IntKind.i64 (0 : Int)]))
                    GT.stop)
                  GT.stop)
                GT.stop)
              GT.stop)
            GT.stop)
          GT.stop)
        GT.stop)
      GT.stop)
theorem e_unpack (wv pv : List Row → Int) (l : List Row) : ev Gaw 2 12 [.rows [.i .u8] l] = (T_unpack wv pv l).opt := by kernel_rfl
end Go.Sx.Mk


/- Layer 6: the reference's Pack and Unpack; Next. -/
namespace Go.Sx.Mk
open Go.Proofs Go.RowKit
def yS (x k : Int) : Int := IntKind.wrap .u8 ((IntKind.wrap .u64 x).fdiv k)
noncomputable def T_rpack (s d p q t : Int) : GT SV := GT.leaf
    (SV.rows [CK.i IntKind.u8]
      [[IntKind.u8.wrap ((IntKind.u64.wrap s).fdiv (16777216 : Int))],
        [IntKind.u8.wrap ((IntKind.u64.wrap s).fdiv (65536 : Int))],
        [IntKind.u8.wrap ((IntKind.u64.wrap s).fdiv (256 : Int))],
        [IntKind.u8.wrap ((IntKind.u64.wrap s).fdiv (1 : Int))],
        [IntKind.u8.wrap ((IntKind.u64.wrap d).fdiv (16777216 : Int))],
        [IntKind.u8.wrap ((IntKind.u64.wrap d).fdiv (65536 : Int))],
        [IntKind.u8.wrap ((IntKind.u64.wrap d).fdiv (256 : Int))],
        [IntKind.u8.wrap ((IntKind.u64.wrap d).fdiv (1 : Int))],
        [IntKind.u8.wrap ((IntKind.u64.wrap p).fdiv (256 : Int))],
        [IntKind.u8.wrap ((IntKind.u64.wrap p).fdiv (1 : Int))],
        [IntKind.u8.wrap ((IntKind.u64.wrap q).fdiv (256 : Int))],
        [IntKind.u8.wrap ((IntKind.u64.wrap q).fdiv (1 : Int))],
        [IntKind.u8.wrap ((IntKind.u64.wrap t).fdiv (1 : Int))]])
theorem e_rpack (s d p q t : Int) : ev G0 4 15 [hx s d p q t] = (T_rpack s d p q t).opt := by kernel_rfl
theorem S_rpack : SummT Try.prog 15 (sgH fun s d p q t => .leaf (.rows [.i .u8] [[yS s 16777216], [yS s 65536], [yS s 256], [yS s 1], [yS d 16777216], [yS d 65536], [yS d 256], [yS d 1], [yS p 256], [yS p 1], [yS q 256], [yS q 1], [yS t 1]])) :=
  sgH.summ (evFn_summ (facts G0_ok) 4 15) (fun s d p q t sv h => (e_rpack s d p q t).trans h)
def rU (l : List Row) (a n : Nat) : Int := loV (List.take n (List.drop a l))
def r1 (l : List Row) : Int := IntKind.wrap .u32 (rU l 0 4)
def r2 (l : List Row) : Int := IntKind.wrap .u32 (rU l 4 4)
def r3 (l : List Row) : Int := IntKind.wrap .u16 (rU l 8 2)
def r4 (l : List Row) : Int := IntKind.wrap .u16 (rU l 10 2)
def r5 (l : List Row) : Int := (l.getD 12 []).getD 0 0
theorem S_runpack : SummT Try.prog 13 (sgB fun l => .br (Nat.beq l.length 13) (.leaf (.tup [hx (r1 l) (r2 l) (r3 l) (r4 l) (r5 l), .int .i64 0])) (.leaf (.tup [hx 0 0 0 0 0, .int .i64 60]))) := sgB.summ (evFn_summ (facts Glo_ok) 2 13) (fun l sv h => by
  refine (e_runpack loV l).trans (Eq.trans ?_ h)
  unfold T_runpack
  cases hb : Nat.beq l.length 13 with
  | true =>
    have hl := Nat.eq_of_beq_eq_true hb
    rw [hl]; rfl
  | false =>
    have hl : ((l.length : Int) != 13) = true := by
      have := Nat.ne_of_beq_eq_false hb
      simp; omega
    rw [hl]; rfl)
noncomputable def Gnx (y : Int → Int → Int) (v1 v2 v3 v4 v5 : List Row → Int) : FuncId → Option (List SV → GT SV)
  | 15 => some (sgH fun s d p q t => .leaf (.rows [.i .u8] [[y s 16777216], [y s 65536], [y s 256], [y s 1], [y d 16777216], [y d 65536], [y d 256], [y d 1], [y p 256], [y p 1], [y q 256], [y q 1], [y t 1]]))
  | 13 => some (sgB fun l => .br (Nat.beq l.length 13) (.leaf (.tup [hx (v1 l) (v2 l) (v3 l) (v4 l) (v5 l), .int .i64 0])) (.leaf (.tup [hx 0 0 0 0 0, .int .i64 60])))
  | _ => none
theorem Gnx_ok : ∀ g s, Gnx yS r1 r2 r3 r4 r5 g = some s → SummT Try.prog g s := fun g s h => by
  unfold Gnx at h
  split at h
  · cases h; exact S_rpack
  · cases h; exact S_runpack
  · cases h
noncomputable def T_rnext (y : Int → Int → Int) (v1 v2 v3 v4 v5 : List Row → Int) (s d p q t : Int) : GT SV := GT.br (decide (y t (1 : Int) < (255 : Int)))
    (GT.leaf
      (SV.tup
        [SV.agg
            [SV.int IntKind.u32
                (v1
                  (stR
                    [[y s (16777216 : Int)], [y s (65536 : Int)], [y s (256 : Int)], [y s (1 : Int)],
                      [y d (16777216 : Int)], [y d (65536 : Int)], [y d (256 : Int)], [y d (1 : Int)],
                      [y p (256 : Int)], [y p (1 : Int)], [y q (256 : Int)], [y q (1 : Int)], [y t (1 : Int)]]
                    (Int.toNat (12 : Int)) (0 : Nat) (1 : Nat) [IntKind.u8.wrap (y t (1 : Int) + (1 : Int))])),
              SV.int IntKind.u32
                (v2
                  (stR
                    [[y s (16777216 : Int)], [y s (65536 : Int)], [y s (256 : Int)], [y s (1 : Int)],
                      [y d (16777216 : Int)], [y d (65536 : Int)], [y d (256 : Int)], [y d (1 : Int)],
                      [y p (256 : Int)], [y p (1 : Int)], [y q (256 : Int)], [y q (1 : Int)], [y t (1 : Int)]]
                    (Int.toNat (12 : Int)) (0 : Nat) (1 : Nat) [IntKind.u8.wrap (y t (1 : Int) + (1 : Int))])),
              SV.int IntKind.u16
                (v3
                  (stR
                    [[y s (16777216 : Int)], [y s (65536 : Int)], [y s (256 : Int)], [y s (1 : Int)],
                      [y d (16777216 : Int)], [y d (65536 : Int)], [y d (256 : Int)], [y d (1 : Int)],
                      [y p (256 : Int)], [y p (1 : Int)], [y q (256 : Int)], [y q (1 : Int)], [y t (1 : Int)]]
                    (Int.toNat (12 : Int)) (0 : Nat) (1 : Nat) [IntKind.u8.wrap (y t (1 : Int) + (1 : Int))])),
              SV.int IntKind.u16
                (v4
                  (stR
                    [[y s (16777216 : Int)], [y s (65536 : Int)], [y s (256 : Int)], [y s (1 : Int)],
                      [y d (16777216 : Int)], [y d (65536 : Int)], [y d (256 : Int)], [y d (1 : Int)],
                      [y p (256 : Int)], [y p (1 : Int)], [y q (256 : Int)], [y q (1 : Int)], [y t (1 : Int)]]
                    (Int.toNat (12 : Int)) (0 : Nat) (1 : Nat) [IntKind.u8.wrap (y t (1 : Int) + (1 : Int))])),
              SV.int IntKind.u8
                (v5
                  (stR
                    [[y s (16777216 : Int)], [y s (65536 : Int)], [y s (256 : Int)], [y s (1 : Int)],
                      [y d (16777216 : Int)], [y d (65536 : Int)], [y d (256 : Int)], [y d (1 : Int)],
                      [y p (256 : Int)], [y p (1 : Int)], [y q (256 : Int)], [y q (1 : Int)], [y t (1 : Int)]]
                    (Int.toNat (12 : Int)) (0 : Nat) (1 : Nat) [IntKind.u8.wrap (y t (1 : Int) + (1 : Int))]))],
          SV.bool true]))
    (GT.br (decide (y q (1 : Int) < (255 : Int)))
      (GT.leaf
        (SV.tup
          [SV.agg
              [SV.int IntKind.u32
                  (v1
                    (stR
                      (stR
                        [[y s (16777216 : Int)], [y s (65536 : Int)], [y s (256 : Int)], [y s (1 : Int)],
                          [y d (16777216 : Int)], [y d (65536 : Int)], [y d (256 : Int)], [y d (1 : Int)],
                          [y p (256 : Int)], [y p (1 : Int)], [y q (256 : Int)], [y q (1 : Int)], [y t (1 : Int)]]
                        (Int.toNat (12 : Int)) (0 : Nat) (1 : Nat) [(0 : Int)])
                      (Int.toNat (11 : Int)) (0 : Nat) (1 : Nat) [IntKind.u8.wrap (y q (1 : Int) + (1 : Int))])),
                SV.int IntKind.u32
                  (v2
                    (stR
                      (stR
                        [[y s (16777216 : Int)], [y s (65536 : Int)], [y s (256 : Int)], [y s (1 : Int)],
                          [y d (16777216 : Int)], [y d (65536 : Int)], [y d (256 : Int)], [y d (1 : Int)],
                          [y p (256 : Int)], [y p (1 : Int)], [y q (256 : Int)], [y q (1 : Int)], [y t (1 : Int)]]
                        (Int.toNat (12 : Int)) (0 : Nat) (1 : Nat) [(0 : Int)])
                      (Int.toNat (11 : Int)) (0 : Nat) (1 : Nat) [IntKind.u8.wrap (y q (1 : Int) + (1 : Int))])),
                SV.int IntKind.u16
                  (v3
                    (stR
                      (stR
                        [[y s (16777216 : Int)], [y s (65536 : Int)], [y s (256 : Int)], [y s (1 : Int)],
                          [y d (16777216 : Int)], [y d (65536 : Int)], [y d (256 : Int)], [y d (1 : Int)],
                          [y p (256 : Int)], [y p (1 : Int)], [y q (256 : Int)], [y q (1 : Int)], [y t (1 : Int)]]
                        (Int.toNat (12 : Int)) (0 : Nat) (1 : Nat) [(0 : Int)])
                      (Int.toNat (11 : Int)) (0 : Nat) (1 : Nat) [IntKind.u8.wrap (y q (1 : Int) + (1 : Int))])),
                SV.int IntKind.u16
                  (v4
                    (stR
                      (stR
                        [[y s (16777216 : Int)], [y s (65536 : Int)], [y s (256 : Int)], [y s (1 : Int)],
                          [y d (16777216 : Int)], [y d (65536 : Int)], [y d (256 : Int)], [y d (1 : Int)],
                          [y p (256 : Int)], [y p (1 : Int)], [y q (256 : Int)], [y q (1 : Int)], [y t (1 : Int)]]
                        (Int.toNat (12 : Int)) (0 : Nat) (1 : Nat) [(0 : Int)])
                      (Int.toNat (11 : Int)) (0 : Nat) (1 : Nat) [IntKind.u8.wrap (y q (1 : Int) + (1 : Int))])),
                SV.int IntKind.u8
                  (v5
                    (stR
                      (stR
                        [[y s (16777216 : Int)], [y s (65536 : Int)], [y s (256 : Int)], [y s (1 : Int)],
                          [y d (16777216 : Int)], [y d (65536 : Int)], [y d (256 : Int)], [y d (1 : Int)],
                          [y p (256 : Int)], [y p (1 : Int)], [y q (256 : Int)], [y q (1 : Int)], [y t (1 : Int)]]
                        (Int.toNat (12 : Int)) (0 : Nat) (1 : Nat) [(0 : Int)])
                      (Int.toNat (11 : Int)) (0 : Nat) (1 : Nat) [IntKind.u8.wrap (y q (1 : Int) + (1 : Int))]))],
            SV.bool true]))
      (GT.br (decide (y q (256 : Int) < (255 : Int)))
        (GT.leaf
          (SV.tup
            [SV.agg
                [SV.int IntKind.u32
                    (v1
                      (stR
                        (stR
                          (stR
                            [[y s (16777216 : Int)], [y s (65536 : Int)], [y s (256 : Int)], [y s (1 : Int)],
                              [y d (16777216 : Int)], [y d (65536 : Int)], [y d (256 : Int)], [y d (1 : Int)],
                              [y p (256 : Int)], [y p (1 : Int)], [y q (256 : Int)], [y q (1 : Int)], [y t (1 : Int)]]
                            (Int.toNat (12 : Int)) (0 : Nat) (1 : Nat) [(0 : Int)])
                          (Int.toNat (11 : Int)) (0 : Nat) (1 : Nat) [(0 : Int)])
                        (Int.toNat (10 : Int)) (0 : Nat) (1 : Nat) [IntKind.u8.wrap (y q (256 : Int) + (1 : Int))])),
                  SV.int IntKind.u32
                    (v2
                      (stR
                        (stR
                          (stR
                            [[y s (16777216 : Int)], [y s (65536 : Int)], [y s (256 : Int)], [y s (1 : Int)],
                              [y d (16777216 : Int)], [y d (65536 : Int)], [y d (256 : Int)], [y d (1 : Int)],
                              [y p (256 : Int)], [y p (1 : Int)], [y q (256 : Int)], [y q (1 : Int)], [y t (1 : Int)]]
                            (Int.toNat (12 : Int)) (0 : Nat) (1 : Nat) [(0 : Int)])
                          (Int.toNat (11 : Int)) (0 : Nat) (1 : Nat) [(0 : Int)])
                        (Int.toNat (10 : Int)) (0 : Nat) (1 : Nat) [IntKind.u8.wrap (y q (256 : Int) + (1 : Int))])),
                  SV.int IntKind.u16
                    (v3
                      (stR
                        (stR
                          (stR
                            [[y s (16777216 : Int)], [y s (65536 : Int)], [y s (256 : Int)], [y s (1 : Int)],
                              [y d (16777216 : Int)], [y d (65536 : Int)], [y d (256 : Int)], [y d (1 : Int)],
                              [y p (256 : Int)], [y p (1 : Int)], [y q (256 : Int)], [y q (1 : Int)], [y t (1 : Int)]]
                            (Int.toNat (12 : Int)) (0 : Nat) (1 : Nat) [(0 : Int)])
                          (Int.toNat (11 : Int)) (0 : Nat) (1 : Nat) [(0 : Int)])
                        (Int.toNat (10 : Int)) (0 : Nat) (1 : Nat) [IntKind.u8.wrap (y q (256 : Int) + (1 : Int))])),
                  SV.int IntKind.u16
                    (v4
                      (stR
                        (stR
                          (stR
                            [[y s (16777216 : Int)], [y s (65536 : Int)], [y s (256 : Int)], [y s (1 : Int)],
                              [y d (16777216 : Int)], [y d (65536 : Int)], [y d (256 : Int)], [y d (1 : Int)],
                              [y p (256 : Int)], [y p (1 : Int)], [y q (256 : Int)], [y q (1 : Int)], [y t (1 : Int)]]
                            (Int.toNat (12 : Int)) (0 : Nat) (1 : Nat) [(0 : Int)])
                          (Int.toNat (11 : Int)) (0 : Nat) (1 : Nat) [(0 : Int)])
                        (Int.toNat (10 : Int)) (0 : Nat) (1 : Nat) [IntKind.u8.wrap (y q (256 : Int) + (1 : Int))])),
                  SV.int IntKind.u8
                    (v5
                      (stR
                        (stR
                          (stR
                            [[y s (16777216 : Int)], [y s (65536 : Int)], [y s (256 : Int)], [y s (1 : Int)],
                              [y d (16777216 : Int)], [y d (65536 : Int)], [y d (256 : Int)], [y d (1 : Int)],
                              [y p (256 : Int)], [y p (1 : Int)], [y q (256 : Int)], [y q (1 : Int)], [y t (1 : Int)]]
                            (Int.toNat (12 : Int)) (0 : Nat) (1 : Nat) [(0 : Int)])
                          (Int.toNat (11 : Int)) (0 : Nat) (1 : Nat) [(0 : Int)])
                        (Int.toNat (10 : Int)) (0 : Nat) (1 : Nat) [IntKind.u8.wrap (y q (256 : Int) + (1 : Int))]))],
              SV.bool true]))
        (GT.br (decide (y p (1 : Int) < (255 : Int)))
          (GT.leaf
            (SV.tup
              [SV.agg
                  [SV.int IntKind.u32
                      (v1
                        (stR
                          (stR
                            (stR
                              (stR
                                [[y s (16777216 : Int)], [y s (65536 : Int)], [y s (256 : Int)], [y s (1 : Int)],
                                  [y d (16777216 : Int)], [y d (65536 : Int)], [y d (256 : Int)], [y d (1 : Int)],
                                  [y p (256 : Int)], [y p (1 : Int)], [y q (256 : Int)], [y q (1 : Int)],
                                  [y t (1 : Int)]]
                                (Int.toNat (12 : Int)) (0 : Nat) (1 : Nat) [(0 : Int)])
                              (Int.toNat (11 : Int)) (0 : Nat) (1 : Nat) [(0 : Int)])
                            (Int.toNat (10 : Int)) (0 : Nat) (1 : Nat) [(0 : Int)])
                          (Int.toNat (9 : Int)) (0 : Nat) (1 : Nat) [IntKind.u8.wrap (y p (1 : Int) + (1 : Int))])),
                    SV.int IntKind.u32
                      (v2
                        (stR
                          (stR
                            (stR
                              (stR
                                [[y s (16777216 : Int)], [y s (65536 : Int)], [y s (256 : Int)], [y s (1 : Int)],
                                  [y d (16777216 : Int)], [y d (65536 : Int)], [y d (256 : Int)], [y d (1 : Int)],
                                  [y p (256 : Int)], [y p (1 : Int)], [y q (256 : Int)], [y q (1 : Int)],
                                  [y t (1 : Int)]]
                                (Int.toNat (12 : Int)) (0 : Nat) (1 : Nat) [(0 : Int)])
                              (Int.toNat (11 : Int)) (0 : Nat) (1 : Nat) [(0 : Int)])
                            (Int.toNat (10 : Int)) (0 : Nat) (1 : Nat) [(0 : Int)])
                          (Int.toNat (9 : Int)) (0 : Nat) (1 : Nat) [IntKind.u8.wrap (y p (1 : Int) + (1 : Int))])),
                    SV.int IntKind.u16
                      (v3
                        (stR
                          (stR
                            (stR
                              (stR
                                [[y s (16777216 : Int)], [y s (65536 : Int)], [y s (256 : Int)], [y s (1 : Int)],
                                  [y d (16777216 : Int)], [y d (65536 : Int)], [y d (256 : Int)], [y d (1 : Int)],
                                  [y p (256 : Int)], [y p (1 : Int)], [y q (256 : Int)], [y q (1 : Int)],
                                  [y t (1 : Int)]]
                                (Int.toNat (12 : Int)) (0 : Nat) (1 : Nat) [(0 : Int)])
                              (Int.toNat (11 : Int)) (0 : Nat) (1 : Nat) [(0 : Int)])
                            (Int.toNat (10 : Int)) (0 : Nat) (1 : Nat) [(0 : Int)])
                          (Int.toNat (9 : Int)) (0 : Nat) (1 : Nat) [IntKind.u8.wrap (y p (1 : Int) + (1 : Int))])),
                    SV.int IntKind.u16
                      (v4
                        (stR
                          (stR
                            (stR
                              (stR
                                [[y s (16777216 : Int)], [y s (65536 : Int)], [y s (256 : Int)], [y s (1 : Int)],
                                  [y d (16777216 : Int)], [y d (65536 : Int)], [y d (256 : Int)], [y d (1 : Int)],
                                  [y p (256 : Int)], [y p (1 : Int)], [y q (256 : Int)], [y q (1 : Int)],
                                  [y t (1 : Int)]]
                                (Int.toNat (12 : Int)) (0 : Nat) (1 : Nat) [(0 : Int)])
                              (Int.toNat (11 : Int)) (0 : Nat) (1 : Nat) [(0 : Int)])
                            (Int.toNat (10 : Int)) (0 : Nat) (1 : Nat) [(0 : Int)])
                          (Int.toNat (9 : Int)) (0 : Nat) (1 : Nat) [IntKind.u8.wrap (y p (1 : Int) + (1 : Int))])),
                    SV.int IntKind.u8
                      (v5
                        (stR
                          (stR
                            (stR
                              (stR
                                [[y s (16777216 : Int)], [y s (65536 : Int)], [y s (256 : Int)], [y s (1 : Int)],
                                  [y d (16777216 : Int)], [y d (65536 : Int)], [y d (256 : Int)], [y d (1 : Int)],
                                  [y p (256 : Int)], [y p (1 : Int)], [y q (256 : Int)], [y q (1 : Int)],
                                  [y t (1 : Int)]]
                                (Int.toNat (12 : Int)) (0 : Nat) (1 : Nat) [(0 : Int)])
                              (Int.toNat (11 : Int)) (0 : Nat) (1 : Nat) [(0 : Int)])
                            (Int.toNat (10 : Int)) (0 : Nat) (1 : Nat) [(0 : Int)])
                          (Int.toNat (9 : Int)) (0 : Nat) (1 : Nat) [IntKind.u8.wrap (y p (1 : Int) + (1 : Int))]))],
                SV.bool true]))
          (GT.br (decide (y p (256 : Int) < (255 : Int)))
            (GT.leaf
              (SV.tup
                [SV.agg
                    [SV.int IntKind.u32
                        (v1
                          (stR
                            (stR
                              (stR
                                (stR
                                  (stR
                                    [[y s (16777216 : Int)], [y s (65536 : Int)], [y s (256 : Int)], [y s (1 : Int)],
                                      [y d (16777216 : Int)], [y d (65536 : Int)], [y d (256 : Int)], [y d (1 : Int)],
                                      [y p (256 : Int)], [y p (1 : Int)], [y q (256 : Int)], [y q (1 : Int)],
                                      [y t (1 : Int)]]
                                    (Int.toNat (12 : Int)) (0 : Nat) (1 : Nat) [(0 : Int)])
                                  (Int.toNat (11 : Int)) (0 : Nat) (1 : Nat) [(0 : Int)])
                                (Int.toNat (10 : Int)) (0 : Nat) (1 : Nat) [(0 : Int)])
                              (Int.toNat (9 : Int)) (0 : Nat) (1 : Nat) [(0 : Int)])
                            (Int.toNat (8 : Int)) (0 : Nat) (1 : Nat) [IntKind.u8.wrap (y p (256 : Int) + (1 : Int))])),
                      SV.int IntKind.u32
                        (v2
                          (stR
                            (stR
                              (stR
                                (stR
                                  (stR
                                    [[y s (16777216 : Int)], [y s (65536 : Int)], [y s (256 : Int)], [y s (1 : Int)],
                                      [y d (16777216 : Int)], [y d (65536 : Int)], [y d (256 : Int)], [y d (1 : Int)],
                                      [y p (256 : Int)], [y p (1 : Int)], [y q (256 : Int)], [y q (1 : Int)],
                                      [y t (1 : Int)]]
                                    (Int.toNat (12 : Int)) (0 : Nat) (1 : Nat) [(0 : Int)])
                                  (Int.toNat (11 : Int)) (0 : Nat) (1 : Nat) [(0 : Int)])
                                (Int.toNat (10 : Int)) (0 : Nat) (1 : Nat) [(0 : Int)])
                              (Int.toNat (9 : Int)) (0 : Nat) (1 : Nat) [(0 : Int)])
                            (Int.toNat (8 : Int)) (0 : Nat) (1 : Nat) [IntKind.u8.wrap (y p (256 : Int) + (1 : Int))])),
                      SV.int IntKind.u16
                        (v3
                          (stR
                            (stR
                              (stR
                                (stR
                                  (stR
                                    [[y s (16777216 : Int)], [y s (65536 : Int)], [y s (256 : Int)], [y s (1 : Int)],
                                      [y d (16777216 : Int)], [y d (65536 : Int)], [y d (256 : Int)], [y d (1 : Int)],
                                      [y p (256 : Int)], [y p (1 : Int)], [y q (256 : Int)], [y q (1 : Int)],
                                      [y t (1 : Int)]]
                                    (Int.toNat (12 : Int)) (0 : Nat) (1 : Nat) [(0 : Int)])
                                  (Int.toNat (11 : Int)) (0 : Nat) (1 : Nat) [(0 : Int)])
                                (Int.toNat (10 : Int)) (0 : Nat) (1 : Nat) [(0 : Int)])
                              (Int.toNat (9 : Int)) (0 : Nat) (1 : Nat) [(0 : Int)])
                            (Int.toNat (8 : Int)) (0 : Nat) (1 : Nat) [IntKind.u8.wrap (y p (256 : Int) + (1 : Int))])),
                      SV.int IntKind.u16
                        (v4
                          (stR
                            (stR
                              (stR
                                (stR
                                  (stR
                                    [[y s (16777216 : Int)], [y s (65536 : Int)], [y s (256 : Int)], [y s (1 : Int)],
                                      [y d (16777216 : Int)], [y d (65536 : Int)], [y d (256 : Int)], [y d (1 : Int)],
                                      [y p (256 : Int)], [y p (1 : Int)], [y q (256 : Int)], [y q (1 : Int)],
                                      [y t (1 : Int)]]
                                    (Int.toNat (12 : Int)) (0 : Nat) (1 : Nat) [(0 : Int)])
                                  (Int.toNat (11 : Int)) (0 : Nat) (1 : Nat) [(0 : Int)])
                                (Int.toNat (10 : Int)) (0 : Nat) (1 : Nat) [(0 : Int)])
                              (Int.toNat (9 : Int)) (0 : Nat) (1 : Nat) [(0 : Int)])
                            (Int.toNat (8 : Int)) (0 : Nat) (1 : Nat) [IntKind.u8.wrap (y p (256 : Int) + (1 : Int))])),
                      SV.int IntKind.u8
                        (v5
                          (stR
                            (stR
                              (stR
                                (stR
                                  (stR
                                    [[y s (16777216 : Int)], [y s (65536 : Int)], [y s (256 : Int)], [y s (1 : Int)],
                                      [y d (16777216 : Int)], [y d (65536 : Int)], [y d (256 : Int)], [y d (1 : Int)],
                                      [y p (256 : Int)], [y p (1 : Int)], [y q (256 : Int)], [y q (1 : Int)],
                                      [y t (1 : Int)]]
                                    (Int.toNat (12 : Int)) (0 : Nat) (1 : Nat) [(0 : Int)])
                                  (Int.toNat (11 : Int)) (0 : Nat) (1 : Nat) [(0 : Int)])
                                (Int.toNat (10 : Int)) (0 : Nat) (1 : Nat) [(0 : Int)])
                              (Int.toNat (9 : Int)) (0 : Nat) (1 : Nat) [(0 : Int)])
                            (Int.toNat (8 : Int)) (0 : Nat) (1 : Nat)
                            [IntKind.u8.wrap (y p (256 : Int) + (1 : Int))]))],
                  SV.bool true]))
            (GT.br (decide (y d (1 : Int) < (255 : Int)))
              (GT.leaf
                (SV.tup
                  [SV.agg
                      [SV.int IntKind.u32
                          (v1
                            (stR
                              (stR
                                (stR
                                  (stR
                                    (stR
                                      (stR
                                        [[y s (16777216 : Int)], [y s (65536 : Int)], [y s (256 : Int)],
                                          [y s (1 : Int)], [y d (16777216 : Int)], [y d (65536 : Int)],
                                          [y d (256 : Int)], [y d (1 : Int)], [y p (256 : Int)], [y p (1 : Int)],
                                          [y q (256 : Int)], [y q (1 : Int)], [y t (1 : Int)]]
                                        (Int.toNat (12 : Int)) (0 : Nat) (1 : Nat) [(0 : Int)])
                                      (Int.toNat (11 : Int)) (0 : Nat) (1 : Nat) [(0 : Int)])
                                    (Int.toNat (10 : Int)) (0 : Nat) (1 : Nat) [(0 : Int)])
                                  (Int.toNat (9 : Int)) (0 : Nat) (1 : Nat) [(0 : Int)])
                                (Int.toNat (8 : Int)) (0 : Nat) (1 : Nat) [(0 : Int)])
                              (Int.toNat (7 : Int)) (0 : Nat) (1 : Nat) [IntKind.u8.wrap (y d (1 : Int) + (1 : Int))])),
                        SV.int IntKind.u32
                          (v2
                            (stR
                              (stR
                                (stR
                                  (stR
                                    (stR
                                      (stR
                                        [[y s (16777216 : Int)], [y s (65536 : Int)], [y s (256 : Int)],
                                          [y s (1 : Int)], [y d (16777216 : Int)], [y d (65536 : Int)],
                                          [y d (256 : Int)], [y d (1 : Int)], [y p (256 : Int)], [y p (1 : Int)],
                                          [y q (256 : Int)], [y q (1 : Int)], [y t (1 : Int)]]
                                        (Int.toNat (12 : Int)) (0 : Nat) (1 : Nat) [(0 : Int)])
                                      (Int.toNat (11 : Int)) (0 : Nat) (1 : Nat) [(0 : Int)])
                                    (Int.toNat (10 : Int)) (0 : Nat) (1 : Nat) [(0 : Int)])
                                  (Int.toNat (9 : Int)) (0 : Nat) (1 : Nat) [(0 : Int)])
                                (Int.toNat (8 : Int)) (0 : Nat) (1 : Nat) [(0 : Int)])
                              (Int.toNat (7 : Int)) (0 : Nat) (1 : Nat) [IntKind.u8.wrap (y d (1 : Int) + (1 : Int))])),
                        SV.int IntKind.u16
                          (v3
                            (stR
                              (stR
                                (stR
                                  (stR
                                    (stR
                                      (stR
                                        [[y s (16777216 : Int)], [y s (65536 : Int)], [y s (256 : Int)],
                                          [y s (1 : Int)], [y d (16777216 : Int)], [y d (65536 : Int)],
                                          [y d (256 : Int)], [y d (1 : Int)], [y p (256 : Int)], [y p (1 : Int)],
                                          [y q (256 : Int)], [y q (1 : Int)], [y t (1 : Int)]]
                                        (Int.toNat (12 : Int)) (0 : Nat) (1 : Nat) [(0 : Int)])
                                      (Int.toNat (11 : Int)) (0 : Nat) (1 : Nat) [(0 : Int)])
                                    (Int.toNat (10 : Int)) (0 : Nat) (1 : Nat) [(0 : Int)])
                                  (Int.toNat (9 : Int)) (0 : Nat) (1 : Nat) [(0 : Int)])
                                (Int.toNat (8 : Int)) (0 : Nat) (1 : Nat) [(0 : Int)])
                              (Int.toNat (7 : Int)) (0 : Nat) (1 : Nat) [IntKind.u8.wrap (y d (1 : Int) + (1 : Int))])),
                        SV.int IntKind.u16
                          (v4
                            (stR
                              (stR
                                (stR
                                  (stR
                                    (stR
                                      (stR
                                        [[y s (16777216 : Int)], [y s (65536 : Int)], [y s (256 : Int)],
                                          [y s (1 : Int)], [y d (16777216 : Int)], [y d (65536 : Int)],
                                          [y d (256 : Int)], [y d (1 : Int)], [y p (256 : Int)], [y p (1 : Int)],
                                          [y q (256 : Int)], [y q (1 : Int)], [y t (1 : Int)]]
                                        (Int.toNat (12 : Int)) (0 : Nat) (1 : Nat) [(0 : Int)])
                                      (Int.toNat (11 : Int)) (0 : Nat) (1 : Nat) [(0 : Int)])
                                    (Int.toNat (10 : Int)) (0 : Nat) (1 : Nat) [(0 : Int)])
                                  (Int.toNat (9 : Int)) (0 : Nat) (1 : Nat) [(0 : Int)])
                                (Int.toNat (8 : Int)) (0 : Nat) (1 : Nat) [(0 : Int)])
                              (Int.toNat (7 : Int)) (0 : Nat) (1 : Nat) [IntKind.u8.wrap (y d (1 : Int) + (1 : Int))])),
                        SV.int IntKind.u8
                          (v5
                            (stR
                              (stR
                                (stR
                                  (stR
                                    (stR
                                      (stR
                                        [[y s (16777216 : Int)], [y s (65536 : Int)], [y s (256 : Int)],
                                          [y s (1 : Int)], [y d (16777216 : Int)], [y d (65536 : Int)],
                                          [y d (256 : Int)], [y d (1 : Int)], [y p (256 : Int)], [y p (1 : Int)],
                                          [y q (256 : Int)], [y q (1 : Int)], [y t (1 : Int)]]
                                        (Int.toNat (12 : Int)) (0 : Nat) (1 : Nat) [(0 : Int)])
                                      (Int.toNat (11 : Int)) (0 : Nat) (1 : Nat) [(0 : Int)])
                                    (Int.toNat (10 : Int)) (0 : Nat) (1 : Nat) [(0 : Int)])
                                  (Int.toNat (9 : Int)) (0 : Nat) (1 : Nat) [(0 : Int)])
                                (Int.toNat (8 : Int)) (0 : Nat) (1 : Nat) [(0 : Int)])
                              (Int.toNat (7 : Int)) (0 : Nat) (1 : Nat)
                              [IntKind.u8.wrap (y d (1 : Int) + (1 : Int))]))],
                    SV.bool true]))
              (GT.br (decide (y d (256 : Int) < (255 : Int)))
                (GT.leaf
                  (SV.tup
                    [SV.agg
                        [SV.int IntKind.u32
                            (v1
                              (stR
                                (stR
                                  (stR
                                    (stR
                                      (stR
                                        (stR
                                          (stR
                                            [[y s (16777216 : Int)], [y s (65536 : Int)], [y s (256 : Int)],
                                              [y s (1 : Int)], [y d (16777216 : Int)], [y d (65536 : Int)],
                                              [y d (256 : Int)], [y d (1 : Int)], [y p (256 : Int)], [y p (1 : Int)],
                                              [y q (256 : Int)], [y q (1 : Int)], [y t (1 : Int)]]
                                            (Int.toNat (12 : Int)) (0 : Nat) (1 : Nat) [(0 : Int)])
                                          (Int.toNat (11 : Int)) (0 : Nat) (1 : Nat) [(0 : Int)])
                                        (Int.toNat (10 : Int)) (0 : Nat) (1 : Nat) [(0 : Int)])
                                      (Int.toNat (9 : Int)) (0 : Nat) (1 : Nat) [(0 : Int)])
                                    (Int.toNat (8 : Int)) (0 : Nat) (1 : Nat) [(0 : Int)])
                                  (Int.toNat (7 : Int)) (0 : Nat) (1 : Nat) [(0 : Int)])
                                (Int.toNat (6 : Int)) (0 : Nat) (1 : Nat)
                                [IntKind.u8.wrap (y d (256 : Int) + (1 : Int))])),
                          SV.int IntKind.u32
                            (v2
                              (stR
                                (stR
                                  (stR
                                    (stR
                                      (stR
                                        (stR
                                          (stR
                                            [[y s (16777216 : Int)], [y s (65536 : Int)], [y s (256 : Int)],
                                              [y s (1 : Int)], [y d (16777216 : Int)], [y d (65536 : Int)],
                                              [y d (256 : Int)], [y d (1 : Int)], [y p (256 : Int)], [y p (1 : Int)],
                                              [y q (256 : Int)], [y q (1 : Int)], [y t (1 : Int)]]
                                            (Int.toNat (12 : Int)) (0 : Nat) (1 : Nat) [(0 : Int)])
                                          (Int.toNat (11 : Int)) (0 : Nat) (1 : Nat) [(0 : Int)])
                                        (Int.toNat (10 : Int)) (0 : Nat) (1 : Nat) [(0 : Int)])
                                      (Int.toNat (9 : Int)) (0 : Nat) (1 : Nat) [(0 : Int)])
                                    (Int.toNat (8 : Int)) (0 : Nat) (1 : Nat) [(0 : Int)])
                                  (Int.toNat (7 : Int)) (0 : Nat) (1 : Nat) [(0 : Int)])
                                (Int.toNat (6 : Int)) (0 : Nat) (1 : Nat)
                                [IntKind.u8.wrap (y d (256 : Int) + (1 : Int))])),
                          SV.int IntKind.u16
                            (v3
                              (stR
                                (stR
                                  (stR
                                    (stR
                                      (stR
                                        (stR
                                          (stR
                                            [[y s (16777216 : Int)], [y s (65536 : Int)], [y s (256 : Int)],
                                              [y s (1 : Int)], [y d (16777216 : Int)], [y d (65536 : Int)],
                                              [y d (256 : Int)], [y d (1 : Int)], [y p (256 : Int)], [y p (1 : Int)],
                                              [y q (256 : Int)], [y q (1 : Int)], [y t (1 : Int)]]
                                            (Int.toNat (12 : Int)) (0 : Nat) (1 : Nat) [(0 : Int)])
                                          (Int.toNat (11 : Int)) (0 : Nat) (1 : Nat) [(0 : Int)])
                                        (Int.toNat (10 : Int)) (0 : Nat) (1 : Nat) [(0 : Int)])
                                      (Int.toNat (9 : Int)) (0 : Nat) (1 : Nat) [(0 : Int)])
                                    (Int.toNat (8 : Int)) (0 : Nat) (1 : Nat) [(0 : Int)])
                                  (Int.toNat (7 : Int)) (0 : Nat) (1 : Nat) [(0 : Int)])
                                (Int.toNat (6 : Int)) (0 : Nat) (1 : Nat)
                                [IntKind.u8.wrap (y d (256 : Int) + (1 : Int))])),
                          SV.int IntKind.u16
                            (v4
                              (stR
                                (stR
                                  (stR
                                    (stR
                                      (stR
                                        (stR
                                          (stR
                                            [[y s (16777216 : Int)], [y s (65536 : Int)], [y s (256 : Int)],
                                              [y s (1 : Int)], [y d (16777216 : Int)], [y d (65536 : Int)],
                                              [y d (256 : Int)], [y d (1 : Int)], [y p (256 : Int)], [y p (1 : Int)],
                                              [y q (256 : Int)], [y q (1 : Int)], [y t (1 : Int)]]
                                            (Int.toNat (12 : Int)) (0 : Nat) (1 : Nat) [(0 : Int)])
                                          (Int.toNat (11 : Int)) (0 : Nat) (1 : Nat) [(0 : Int)])
                                        (Int.toNat (10 : Int)) (0 : Nat) (1 : Nat) [(0 : Int)])
                                      (Int.toNat (9 : Int)) (0 : Nat) (1 : Nat) [(0 : Int)])
                                    (Int.toNat (8 : Int)) (0 : Nat) (1 : Nat) [(0 : Int)])
                                  (Int.toNat (7 : Int)) (0 : Nat) (1 : Nat) [(0 : Int)])
                                (Int.toNat (6 : Int)) (0 : Nat) (1 : Nat)
                                [IntKind.u8.wrap (y d (256 : Int) + (1 : Int))])),
                          SV.int IntKind.u8
                            (v5
                              (stR
                                (stR
                                  (stR
                                    (stR
                                      (stR
                                        (stR
                                          (stR
                                            [[y s (16777216 : Int)], [y s (65536 : Int)], [y s (256 : Int)],
                                              [y s (1 : Int)], [y d (16777216 : Int)], [y d (65536 : Int)],
                                              [y d (256 : Int)], [y d (1 : Int)], [y p (256 : Int)], [y p (1 : Int)],
                                              [y q (256 : Int)], [y q (1 : Int)], [y t (1 : Int)]]
                                            (Int.toNat (12 : Int)) (0 : Nat) (1 : Nat) [(0 : Int)])
                                          (Int.toNat (11 : Int)) (0 : Nat) (1 : Nat) [(0 : Int)])
                                        (Int.toNat (10 : Int)) (0 : Nat) (1 : Nat) [(0 : Int)])
                                      (Int.toNat (9 : Int)) (0 : Nat) (1 : Nat) [(0 : Int)])
                                    (Int.toNat (8 : Int)) (0 : Nat) (1 : Nat) [(0 : Int)])
                                  (Int.toNat (7 : Int)) (0 : Nat) (1 : Nat) [(0 : Int)])
                                (Int.toNat (6 : Int)) (0 : Nat) (1 : Nat)
                                [IntKind.u8.wrap (y d (256 : Int) + (1 : Int))]))],
                      SV.bool true]))
                (GT.br (decide (y d (65536 : Int) < (255 : Int)))
                  (GT.leaf
                    (SV.tup
                      [SV.agg
                          [SV.int IntKind.u32
                              (v1
                                (stR
                                  (stR
                                    (stR
                                      (stR
                                        (stR
                                          (stR
                                            (stR
                                              (stR
                                                [[y s (16777216 : Int)], [y s (65536 : Int)], [y s (256 : Int)],
                                                  [y s (1 : Int)], [y d (16777216 : Int)], [y d (65536 : Int)],
                                                  [y d (256 : Int)], [y d (1 : Int)], [y p (256 : Int)],
                                                  [y p (1 : Int)], [y q (256 : Int)], [y q (1 : Int)], [y t (1 : Int)]]
                                                (Int.toNat (12 : Int)) (0 : Nat) (1 : Nat) [(0 : Int)])
                                              (Int.toNat (11 : Int)) (0 : Nat) (1 : Nat) [(0 : Int)])
                                            (Int.toNat (10 : Int)) (0 : Nat) (1 : Nat) [(0 : Int)])
                                          (Int.toNat (9 : Int)) (0 : Nat) (1 : Nat) [(0 : Int)])
                                        (Int.toNat (8 : Int)) (0 : Nat) (1 : Nat) [(0 : Int)])
                                      (Int.toNat (7 : Int)) (0 : Nat) (1 : Nat) [(0 : Int)])
                                    (Int.toNat (6 : Int)) (0 : Nat) (1 : Nat) [(0 : Int)])
                                  (Int.toNat (5 : Int)) (0 : Nat) (1 : Nat)
                                  [IntKind.u8.wrap (y d (65536 : Int) + (1 : Int))])),
                            SV.int IntKind.u32
                              (v2
                                (stR
                                  (stR
                                    (stR
                                      (stR
                                        (stR
                                          (stR
                                            (stR
                                              (stR
                                                [[y s (16777216 : Int)], [y s (65536 : Int)], [y s (256 : Int)],
                                                  [y s (1 : Int)], [y d (16777216 : Int)], [y d (65536 : Int)],
                                                  [y d (256 : Int)], [y d (1 : Int)], [y p (256 : Int)],
                                                  [y p (1 : Int)], [y q (256 : Int)], [y q (1 : Int)], [y t (1 : Int)]]
                                                (Int.toNat (12 : Int)) (0 : Nat) (1 : Nat) [(0 : Int)])
                                              (Int.toNat (11 : Int)) (0 : Nat) (1 : Nat) [(0 : Int)])
                                            (Int.toNat (10 : Int)) (0 : Nat) (1 : Nat) [(0 : Int)])
                                          (Int.toNat (9 : Int)) (0 : Nat) (1 : Nat) [(0 : Int)])
                                        (Int.toNat (8 : Int)) (0 : Nat) (1 : Nat) [(0 : Int)])
                                      (Int.toNat (7 : Int)) (0 : Nat) (1 : Nat) [(0 : Int)])
                                    (Int.toNat (6 : Int)) (0 : Nat) (1 : Nat) [(0 : Int)])
                                  (Int.toNat (5 : Int)) (0 : Nat) (1 : Nat)
                                  [IntKind.u8.wrap (y d (65536 : Int) + (1 : Int))])),
                            SV.int IntKind.u16
                              (v3
                                (stR
                                  (stR
                                    (stR
                                      (stR
                                        (stR
                                          (stR
                                            (stR
                                              (stR
                                                [[y s (16777216 : Int)], [y s (65536 : Int)], [y s (256 : Int)],
                                                  [y s (1 : Int)], [y d (16777216 : Int)], [y d (65536 : Int)],
                                                  [y d (256 : Int)], [y d (1 : Int)], [y p (256 : Int)],
                                                  [y p (1 : Int)], [y q (256 : Int)], [y q (1 : Int)], [y t (1 : Int)]]
                                                (Int.toNat (12 : Int)) (0 : Nat) (1 : Nat) [(0 : Int)])
                                              (Int.toNat (11 : Int)) (0 : Nat) (1 : Nat) [(0 : Int)])
                                            (Int.toNat (10 : Int)) (0 : Nat) (1 : Nat) [(0 : Int)])
                                          (Int.toNat (9 : Int)) (0 : Nat) (1 : Nat) [(0 : Int)])
                                        (Int.toNat (8 : Int)) (0 : Nat) (1 : Nat) [(0 : Int)])
                                      (Int.toNat (7 : Int)) (0 : Nat) (1 : Nat) [(0 : Int)])
                                    (Int.toNat (6 : Int)) (0 : Nat) (1 : Nat) [(0 : Int)])
                                  (Int.toNat (5 : Int)) (0 : Nat) (1 : Nat)
                                  [IntKind.u8.wrap (y d (65536 : Int) + (1 : Int))])),
                            SV.int IntKind.u16
                              (v4
                                (stR
                                  (stR
                                    (stR
                                      (stR
                                        (stR
                                          (stR
                                            (stR
                                              (stR
                                                [[y s (16777216 : Int)], [y s (65536 : Int)], [y s (256 : Int)],
                                                  [y s (1 : Int)], [y d (16777216 : Int)], [y d (65536 : Int)],
                                                  [y d (256 : Int)], [y d (1 : Int)], [y p (256 : Int)],
                                                  [y p (1 : Int)], [y q (256 : Int)], [y q (1 : Int)], [y t (1 : Int)]]
                                                (Int.toNat (12 : Int)) (0 : Nat) (1 : Nat) [(0 : Int)])
                                              (Int.toNat (11 : Int)) (0 : Nat) (1 : Nat) [(0 : Int)])
                                            (Int.toNat (10 : Int)) (0 : Nat) (1 : Nat) [(0 : Int)])
                                          (Int.toNat (9 : Int)) (0 : Nat) (1 : Nat) [(0 : Int)])
                                        (Int.toNat (8 : Int)) (0 : Nat) (1 : Nat) [(0 : Int)])
                                      (Int.toNat (7 : Int)) (0 : Nat) (1 : Nat) [(0 : Int)])
                                    (Int.toNat (6 : Int)) (0 : Nat) (1 : Nat) [(0 : Int)])
                                  (Int.toNat (5 : Int)) (0 : Nat) (1 : Nat)
                                  [IntKind.u8.wrap (y d (65536 : Int) + (1 : Int))])),
                            SV.int IntKind.u8
                              (v5
                                (stR
                                  (stR
                                    (stR
                                      (stR
                                        (stR
                                          (stR
                                            (stR
                                              (stR
                                                [[y s (16777216 : Int)], [y s (65536 : Int)], [y s (256 : Int)],
                                                  [y s (1 : Int)], [y d (16777216 : Int)], [y d (65536 : Int)],
                                                  [y d (256 : Int)], [y d (1 : Int)], [y p (256 : Int)],
                                                  [y p (1 : Int)], [y q (256 : Int)], [y q (1 : Int)], [y t (1 : Int)]]
                                                (Int.toNat (12 : Int)) (0 : Nat) (1 : Nat) [(0 : Int)])
                                              (Int.toNat (11 : Int)) (0 : Nat) (1 : Nat) [(0 : Int)])
                                            (Int.toNat (10 : Int)) (0 : Nat) (1 : Nat) [(0 : Int)])
                                          (Int.toNat (9 : Int)) (0 : Nat) (1 : Nat) [(0 : Int)])
                                        (Int.toNat (8 : Int)) (0 : Nat) (1 : Nat) [(0 : Int)])
                                      (Int.toNat (7 : Int)) (0 : Nat) (1 : Nat) [(0 : Int)])
                                    (Int.toNat (6 : Int)) (0 : Nat) (1 : Nat) [(0 : Int)])
                                  (Int.toNat (5 : Int)) (0 : Nat) (1 : Nat)
                                  [IntKind.u8.wrap (y d (65536 : Int) + (1 : Int))]))],
                        SV.bool true]))
                  (GT.br (decide (y d (16777216 : Int) < (255 : Int)))
                    (GT.leaf
                      (SV.tup
                        [SV.agg
                            [SV.int IntKind.u32
                                (v1
                                  (stR
                                    (stR
                                      (stR
                                        (stR
                                          (stR
                                            (stR
                                              (stR
                                                (stR
                                                  (stR
                                                    [[y s (16777216 : Int)], [y s (65536 : Int)], [y s (256 : Int)],
                                                      [y s (1 : Int)], [y d (16777216 : Int)], [y d (65536 : Int)],
                                                      [y d (256 : Int)], [y d (1 : Int)], [y p (256 : Int)],
                                                      [y p (1 : Int)], [y q (256 : Int)], [y q (1 : Int)],
                                                      [y t (1 : Int)]]
                                                    (Int.toNat (12 : Int)) (0 : Nat) (1 : Nat) [(0 : Int)])
                                                  (Int.toNat (11 : Int)) (0 : Nat) (1 : Nat) [(0 : Int)])
                                                (Int.toNat (10 : Int)) (0 : Nat) (1 : Nat) [(0 : Int)])
                                              (Int.toNat (9 : Int)) (0 : Nat) (1 : Nat) [(0 : Int)])
                                            (Int.toNat (8 : Int)) (0 : Nat) (1 : Nat) [(0 : Int)])
                                          (Int.toNat (7 : Int)) (0 : Nat) (1 : Nat) [(0 : Int)])
                                        (Int.toNat (6 : Int)) (0 : Nat) (1 : Nat) [(0 : Int)])
                                      (Int.toNat (5 : Int)) (0 : Nat) (1 : Nat) [(0 : Int)])
                                    (Int.toNat (4 : Int)) (0 : Nat) (1 : Nat)
                                    [IntKind.u8.wrap (y d (16777216 : Int) + (1 : Int))])),
                              SV.int IntKind.u32
                                (v2
                                  (stR
                                    (stR
                                      (stR
                                        (stR
                                          (stR
                                            (stR
                                              (stR
                                                (stR
                                                  (stR
                                                    [[y s (16777216 : Int)], [y s (65536 : Int)], [y s (256 : Int)],
                                                      [y s (1 : Int)], [y d (16777216 : Int)], [y d (65536 : Int)],
                                                      [y d (256 : Int)], [y d (1 : Int)], [y p (256 : Int)],
                                                      [y p (1 : Int)], [y q (256 : Int)], [y q (1 : Int)],
                                                      [y t (1 : Int)]]
                                                    (Int.toNat (12 : Int)) (0 : Nat) (1 : Nat) [(0 : Int)])
                                                  (Int.toNat (11 : Int)) (0 : Nat) (1 : Nat) [(0 : Int)])
                                                (Int.toNat (10 : Int)) (0 : Nat) (1 : Nat) [(0 : Int)])
                                              (Int.toNat (9 : Int)) (0 : Nat) (1 : Nat) [(0 : Int)])
                                            (Int.toNat (8 : Int)) (0 : Nat) (1 : Nat) [(0 : Int)])
                                          (Int.toNat (7 : Int)) (0 : Nat) (1 : Nat) [(0 : Int)])
                                        (Int.toNat (6 : Int)) (0 : Nat) (1 : Nat) [(0 : Int)])
                                      (Int.toNat (5 : Int)) (0 : Nat) (1 : Nat) [(0 : Int)])
                                    (Int.toNat (4 : Int)) (0 : Nat) (1 : Nat)
                                    [IntKind.u8.wrap (y d (16777216 : Int) + (1 : Int))])),
                              SV.int IntKind.u16
                                (v3
                                  (stR
                                    (stR
                                      (stR
                                        (stR
                                          (stR
                                            (stR
                                              (stR
                                                (stR
                                                  (stR
                                                    [[y s (16777216 : Int)], [y s (65536 : Int)], [y s (256 : Int)],
                                                      [y s (1 : Int)], [y d (16777216 : Int)], [y d (65536 : Int)],
                                                      [y d (256 : Int)], [y d (1 : Int)], [y p (256 : Int)],
                                                      [y p (1 : Int)], [y q (256 : Int)], [y q (1 : Int)],
                                                      [y t (1 : Int)]]
                                                    (Int.toNat (12 : Int)) (0 : Nat) (1 : Nat) [(0 : Int)])
                                                  (Int.toNat (11 : Int)) (0 : Nat) (1 : Nat) [(0 : Int)])
                                                (Int.toNat (10 : Int)) (0 : Nat) (1 : Nat) [(0 : Int)])
                                              (Int.toNat (9 : Int)) (0 : Nat) (1 : Nat) [(0 : Int)])
                                            (Int.toNat (8 : Int)) (0 : Nat) (1 : Nat) [(0 : Int)])
                                          (Int.toNat (7 : Int)) (0 : Nat) (1 : Nat) [(0 : Int)])
                                        (Int.toNat (6 : Int)) (0 : Nat) (1 : Nat) [(0 : Int)])
                                      (Int.toNat (5 : Int)) (0 : Nat) (1 : Nat) [(0 : Int)])
                                    (Int.toNat (4 : Int)) (0 : Nat) (1 : Nat)
                                    [IntKind.u8.wrap (y d (16777216 : Int) + (1 : Int))])),
                              SV.int IntKind.u16
                                (v4
                                  (stR
                                    (stR
                                      (stR
                                        (stR
                                          (stR
                                            (stR
                                              (stR
                                                (stR
                                                  (stR
                                                    [[y s (16777216 : Int)], [y s (65536 : Int)], [y s (256 : Int)],
                                                      [y s (1 : Int)], [y d (16777216 : Int)], [y d (65536 : Int)],
                                                      [y d (256 : Int)], [y d (1 : Int)], [y p (256 : Int)],
                                                      [y p (1 : Int)], [y q (256 : Int)], [y q (1 : Int)],
                                                      [y t (1 : Int)]]
                                                    (Int.toNat (12 : Int)) (0 : Nat) (1 : Nat) [(0 : Int)])
                                                  (Int.toNat (11 : Int)) (0 : Nat) (1 : Nat) [(0 : Int)])
                                                (Int.toNat (10 : Int)) (0 : Nat) (1 : Nat) [(0 : Int)])
                                              (Int.toNat (9 : Int)) (0 : Nat) (1 : Nat) [(0 : Int)])
                                            (Int.toNat (8 : Int)) (0 : Nat) (1 : Nat) [(0 : Int)])
                                          (Int.toNat (7 : Int)) (0 : Nat) (1 : Nat) [(0 : Int)])
                                        (Int.toNat (6 : Int)) (0 : Nat) (1 : Nat) [(0 : Int)])
                                      (Int.toNat (5 : Int)) (0 : Nat) (1 : Nat) [(0 : Int)])
                                    (Int.toNat (4 : Int)) (0 : Nat) (1 : Nat)
                                    [IntKind.u8.wrap (y d (16777216 : Int) + (1 : Int))])),
                              SV.int IntKind.u8
                                (v5
                                  (stR
                                    (stR
                                      (stR
                                        (stR
                                          (stR
                                            (stR
                                              (stR
                                                (stR
                                                  (stR
                                                    [[y s (16777216 : Int)], [y s (65536 : Int)], [y s (256 : Int)],
                                                      [y s (1 : Int)], [y d (16777216 : Int)], [y d (65536 : Int)],
                                                      [y d (256 : Int)], [y d (1 : Int)], [y p (256 : Int)],
                                                      [y p (1 : Int)], [y q (256 : Int)], [y q (1 : Int)],
                                                      [y t (1 : Int)]]
                                                    (Int.toNat (12 : Int)) (0 : Nat) (1 : Nat) [(0 : Int)])
                                                  (Int.toNat (11 : Int)) (0 : Nat) (1 : Nat) [(0 : Int)])
                                                (Int.toNat (10 : Int)) (0 : Nat) (1 : Nat) [(0 : Int)])
                                              (Int.toNat (9 : Int)) (0 : Nat) (1 : Nat) [(0 : Int)])
                                            (Int.toNat (8 : Int)) (0 : Nat) (1 : Nat) [(0 : Int)])
                                          (Int.toNat (7 : Int)) (0 : Nat) (1 : Nat) [(0 : Int)])
                                        (Int.toNat (6 : Int)) (0 : Nat) (1 : Nat) [(0 : Int)])
                                      (Int.toNat (5 : Int)) (0 : Nat) (1 : Nat) [(0 : Int)])
                                    (Int.toNat (4 : Int)) (0 : Nat) (1 : Nat)
                                    [IntKind.u8.wrap (y d (16777216 : Int) + (1 : Int))]))],
                          SV.bool true]))
                    (GT.br (decide (y s (1 : Int) < (255 : Int)))
                      (GT.leaf
                        (SV.tup
                          [SV.agg
                              [SV.int IntKind.u32
                                  (v1
                                    (stR
                                      (stR
                                        (stR
                                          (stR
                                            (stR
                                              (stR
                                                (stR
                                                  (stR
                                                    (stR
                                                      (stR
                                                        [[y s (16777216 : Int)], [y s (65536 : Int)], [y s (256 : Int)],
                                                          [y s (1 : Int)], [y d (16777216 : Int)], [y d (65536 : Int)],
                                                          [y d (256 : Int)], [y d (1 : Int)], [y p (256 : Int)],
                                                          [y p (1 : Int)], [y q (256 : Int)], [y q (1 : Int)],
                                                          [y t (1 : Int)]]
                                                        (Int.toNat (12 : Int)) (0 : Nat) (1 : Nat) [(0 : Int)])
                                                      (Int.toNat (11 : Int)) (0 : Nat) (1 : Nat) [(0 : Int)])
                                                    (Int.toNat (10 : Int)) (0 : Nat) (1 : Nat) [(0 : Int)])
                                                  (Int.toNat (9 : Int)) (0 : Nat) (1 : Nat) [(0 : Int)])
                                                (Int.toNat (8 : Int)) (0 : Nat) (1 : Nat) [(0 : Int)])
                                              (Int.toNat (7 : Int)) (0 : Nat) (1 : Nat) [(0 : Int)])
                                            (Int.toNat (6 : Int)) (0 : Nat) (1 : Nat) [(0 : Int)])
                                          (Int.toNat (5 : Int)) (0 : Nat) (1 : Nat) [(0 : Int)])
                                        (Int.toNat (4 : Int)) (0 : Nat) (1 : Nat) [(0 : Int)])
                                      (Int.toNat (3 : Int)) (0 : Nat) (1 : Nat)
                                      [IntKind.u8.wrap (y s (1 : Int) + (1 : Int))])),
                                SV.int IntKind.u32
                                  (v2
                                    (stR
                                      (stR
                                        (stR
                                          (stR
                                            (stR
                                              (stR
                                                (stR
                                                  (stR
                                                    (stR
                                                      (stR
                                                        [[y s (16777216 : Int)], [y s (65536 : Int)], [y s (256 : Int)],
                                                          [y s (1 : Int)], [y d (16777216 : Int)], [y d (65536 : Int)],
                                                          [y d (256 : Int)], [y d (1 : Int)], [y p (256 : Int)],
                                                          [y p (1 : Int)], [y q (256 : Int)], [y q (1 : Int)],
                                                          [y t (1 : Int)]]
                                                        (Int.toNat (12 : Int)) (0 : Nat) (1 : Nat) [(0 : Int)])
                                                      (Int.toNat (11 : Int)) (0 : Nat) (1 : Nat) [(0 : Int)])
                                                    (Int.toNat (10 : Int)) (0 : Nat) (1 : Nat) [(0 : Int)])
                                                  (Int.toNat (9 : Int)) (0 : Nat) (1 : Nat) [(0 : Int)])
                                                (Int.toNat (8 : Int)) (0 : Nat) (1 : Nat) [(0 : Int)])
                                              (Int.toNat (7 : Int)) (0 : Nat) (1 : Nat) [(0 : Int)])
                                            (Int.toNat (6 : Int)) (0 : Nat) (1 : Nat) [(0 : Int)])
                                          (Int.toNat (5 : Int)) (0 : Nat) (1 : Nat) [(0 : Int)])
                                        (Int.toNat (4 : Int)) (0 : Nat) (1 : Nat) [(0 : Int)])
                                      (Int.toNat (3 : Int)) (0 : Nat) (1 : Nat)
                                      [IntKind.u8.wrap (y s (1 : Int) + (1 : Int))])),
                                SV.int IntKind.u16
                                  (v3
                                    (stR
                                      (stR
                                        (stR
                                          (stR
                                            (stR
                                              (stR
                                                (stR
                                                  (stR
                                                    (stR
                                                      (stR
                                                        [[y s (16777216 : Int)], [y s (65536 : Int)], [y s (256 : Int)],
                                                          [y s (1 : Int)], [y d (16777216 : Int)], [y d (65536 : Int)],
                                                          [y d (256 : Int)], [y d (1 : Int)], [y p (256 : Int)],
                                                          [y p (1 : Int)], [y q (256 : Int)], [y q (1 : Int)],
                                                          [y t (1 : Int)]]
                                                        (Int.toNat (12 : Int)) (0 : Nat) (1 : Nat) [(0 : Int)])
                                                      (Int.toNat (11 : Int)) (0 : Nat) (1 : Nat) [(0 : Int)])
                                                    (Int.toNat (10 : Int)) (0 : Nat) (1 : Nat) [(0 : Int)])
                                                  (Int.toNat (9 : Int)) (0 : Nat) (1 : Nat) [(0 : Int)])
                                                (Int.toNat (8 : Int)) (0 : Nat) (1 : Nat) [(0 : Int)])
                                              (Int.toNat (7 : Int)) (0 : Nat) (1 : Nat) [(0 : Int)])
                                            (Int.toNat (6 : Int)) (0 : Nat) (1 : Nat) [(0 : Int)])
                                          (Int.toNat (5 : Int)) (0 : Nat) (1 : Nat) [(0 : Int)])
                                        (Int.toNat (4 : Int)) (0 : Nat) (1 : Nat) [(0 : Int)])
                                      (Int.toNat (3 : Int)) (0 : Nat) (1 : Nat)
                                      [IntKind.u8.wrap (y s (1 : Int) + (1 : Int))])),
                                SV.int IntKind.u16
                                  (v4
                                    (stR
                                      (stR
                                        (stR
                                          (stR
                                            (stR
                                              (stR
                                                (stR
                                                  (stR
                                                    (stR
                                                      (stR
                                                        [[y s (16777216 : Int)], [y s (65536 : Int)], [y s (256 : Int)],
                                                          [y s (1 : Int)], [y d (16777216 : Int)], [y d (65536 : Int)],
                                                          [y d (256 : Int)], [y d (1 : Int)], [y p (256 : Int)],
                                                          [y p (1 : Int)], [y q (256 : Int)], [y q (1 : Int)],
                                                          [y t (1 : Int)]]
                                                        (Int.toNat (12 : Int)) (0 : Nat) (1 : Nat) [(0 : Int)])
                                                      (Int.toNat (11 : Int)) (0 : Nat) (1 : Nat) [(0 : Int)])
                                                    (Int.toNat (10 : Int)) (0 : Nat) (1 : Nat) [(0 : Int)])
                                                  (Int.toNat (9 : Int)) (0 : Nat) (1 : Nat) [(0 : Int)])
                                                (Int.toNat (8 : Int)) (0 : Nat) (1 : Nat) [(0 : Int)])
                                              (Int.toNat (7 : Int)) (0 : Nat) (1 : Nat) [(0 : Int)])
                                            (Int.toNat (6 : Int)) (0 : Nat) (1 : Nat) [(0 : Int)])
                                          (Int.toNat (5 : Int)) (0 : Nat) (1 : Nat) [(0 : Int)])
                                        (Int.toNat (4 : Int)) (0 : Nat) (1 : Nat) [(0 : Int)])
                                      (Int.toNat (3 : Int)) (0 : Nat) (1 : Nat)
                                      [IntKind.u8.wrap (y s (1 : Int) + (1 : Int))])),
                                SV.int IntKind.u8
                                  (v5
                                    (stR
                                      (stR
                                        (stR
                                          (stR
                                            (stR
                                              (stR
                                                (stR
                                                  (stR
                                                    (stR
                                                      (stR
                                                        [[y s (16777216 : Int)], [y s (65536 : Int)], [y s (256 : Int)],
                                                          [y s (1 : Int)], [y d (16777216 : Int)], [y d (65536 : Int)],
                                                          [y d (256 : Int)], [y d (1 : Int)], [y p (256 : Int)],
                                                          [y p (1 : Int)], [y q (256 : Int)], [y q (1 : Int)],
                                                          [y t (1 : Int)]]
                                                        (Int.toNat (12 : Int)) (0 : Nat) (1 : Nat) [(0 : Int)])
                                                      (Int.toNat (11 : Int)) (0 : Nat) (1 : Nat) [(0 : Int)])
                                                    (Int.toNat (10 : Int)) (0 : Nat) (1 : Nat) [(0 : Int)])
                                                  (Int.toNat (9 : Int)) (0 : Nat) (1 : Nat) [(0 : Int)])
                                                (Int.toNat (8 : Int)) (0 : Nat) (1 : Nat) [(0 : Int)])
                                              (Int.toNat (7 : Int)) (0 : Nat) (1 : Nat) [(0 : Int)])
                                            (Int.toNat (6 : Int)) (0 : Nat) (1 : Nat) [(0 : Int)])
                                          (Int.toNat (5 : Int)) (0 : Nat) (1 : Nat) [(0 : Int)])
                                        (Int.toNat (4 : Int)) (0 : Nat) (1 : Nat) [(0 : Int)])
                                      (Int.toNat (3 : Int)) (0 : Nat) (1 : Nat)
                                      [IntKind.u8.wrap (y s (1 : Int) + (1 : Int))]))],
                            SV.bool true]))
                      (GT.br (decide (y s (256 : Int) < (255 : Int)))
                        (GT.leaf
                          (SV.tup
                            [SV.agg
                                [SV.int IntKind.u32
                                    (v1
                                      (stR
                                        (stR
                                          (stR
                                            (stR
                                              (stR
                                                (stR
                                                  (stR
                                                    (stR
                                                      (stR
                                                        (stR
                                                          (stR
                                                            [[y s (16777216 : Int)], [y s (65536 : Int)],
                                                              [y s (256 : Int)], [y s (1 : Int)],
                                                              [y d (16777216 : Int)], [y d (65536 : Int)],
                                                              [y d (256 : Int)], [y d (1 : Int)], [y p (256 : Int)],
                                                              [y p (1 : Int)], [y q (256 : Int)], [y q (1 : Int)],
                                                              [y t (1 : Int)]]
                                                            (Int.toNat (12 : Int)) (0 : Nat) (1 : Nat) [(0 : Int)])
                                                          (Int.toNat (11 : Int)) (0 : Nat) (1 : Nat) [(0 : Int)])
                                                        (Int.toNat (10 : Int)) (0 : Nat) (1 : Nat) [(0 : Int)])
                                                      (Int.toNat (9 : Int)) (0 : Nat) (1 : Nat) [(0 : Int)])
                                                    (Int.toNat (8 : Int)) (0 : Nat) (1 : Nat) [(0 : Int)])
                                                  (Int.toNat (7 : Int)) (0 : Nat) (1 : Nat) [(0 : Int)])
                                                (Int.toNat (6 : Int)) (0 : Nat) (1 : Nat) [(0 : Int)])
                                              (Int.toNat (5 : Int)) (0 : Nat) (1 : Nat) [(0 : Int)])
                                            (Int.toNat (4 : Int)) (0 : Nat) (1 : Nat) [(0 : Int)])
                                          (Int.toNat (3 : Int)) (0 : Nat) (1 : Nat) [(0 : Int)])
                                        (Int.toNat (2 : Int)) (0 : Nat) (1 : Nat)
                                        [IntKind.u8.wrap (y s (256 : Int) + (1 : Int))])),
                                  SV.int IntKind.u32
                                    (v2
                                      (stR
                                        (stR
                                          (stR
                                            (stR
                                              (stR
                                                (stR
                                                  (stR
                                                    (stR
                                                      (stR
                                                        (stR
                                                          (stR
                                                            [[y s (16777216 : Int)], [y s (65536 : Int)],
                                                              [y s (256 : Int)], [y s (1 : Int)],
                                                              [y d (16777216 : Int)], [y d (65536 : Int)],
                                                              [y d (256 : Int)], [y d (1 : Int)], [y p (256 : Int)],
                                                              [y p (1 : Int)], [y q (256 : Int)], [y q (1 : Int)],
                                                              [y t (1 : Int)]]
                                                            (Int.toNat (12 : Int)) (0 : Nat) (1 : Nat) [(0 : Int)])
                                                          (Int.toNat (11 : Int)) (0 : Nat) (1 : Nat) [(0 : Int)])
                                                        (Int.toNat (10 : Int)) (0 : Nat) (1 : Nat) [(0 : Int)])
                                                      (Int.toNat (9 : Int)) (0 : Nat) (1 : Nat) [(0 : Int)])
                                                    (Int.toNat (8 : Int)) (0 : Nat) (1 : Nat) [(0 : Int)])
                                                  (Int.toNat (7 : Int)) (0 : Nat) (1 : Nat) [(0 : Int)])
                                                (Int.toNat (6 : Int)) (0 : Nat) (1 : Nat) [(0 : Int)])
                                              (Int.toNat (5 : Int)) (0 : Nat) (1 : Nat) [(0 : Int)])
                                            (Int.toNat (4 : Int)) (0 : Nat) (1 : Nat) [(0 : Int)])
                                          (Int.toNat (3 : Int)) (0 : Nat) (1 : Nat) [(0 : Int)])
                                        (Int.toNat (2 : Int)) (0 : Nat) (1 : Nat)
                                        [IntKind.u8.wrap (y s (256 : Int) + (1 : Int))])),
                                  SV.int IntKind.u16
                                    (v3
                                      (stR
                                        (stR
                                          (stR
                                            (stR
                                              (stR
                                                (stR
                                                  (stR
                                                    (stR
                                                      (stR
                                                        (stR
                                                          (stR
                                                            [[y s (16777216 : Int)], [y s (65536 : Int)],
                                                              [y s (256 : Int)], [y s (1 : Int)],
                                                              [y d (16777216 : Int)], [y d (65536 : Int)],
                                                              [y d (256 : Int)], [y d (1 : Int)], [y p (256 : Int)],
                                                              [y p (1 : Int)], [y q (256 : Int)], [y q (1 : Int)],
                                                              [y t (1 : Int)]]
                                                            (Int.toNat (12 : Int)) (0 : Nat) (1 : Nat) [(0 : Int)])
                                                          (Int.toNat (11 : Int)) (0 : Nat) (1 : Nat) [(0 : Int)])
                                                        (Int.toNat (10 : Int)) (0 : Nat) (1 : Nat) [(0 : Int)])
                                                      (Int.toNat (9 : Int)) (0 : Nat) (1 : Nat) [(0 : Int)])
                                                    (Int.toNat (8 : Int)) (0 : Nat) (1 : Nat) [(0 : Int)])
                                                  (Int.toNat (7 : Int)) (0 : Nat) (1 : Nat) [(0 : Int)])
                                                (Int.toNat (6 : Int)) (0 : Nat) (1 : Nat) [(0 : Int)])
                                              (Int.toNat (5 : Int)) (0 : Nat) (1 : Nat) [(0 : Int)])
                                            (Int.toNat (4 : Int)) (0 : Nat) (1 : Nat) [(0 : Int)])
                                          (Int.toNat (3 : Int)) (0 : Nat) (1 : Nat) [(0 : Int)])
                                        (Int.toNat (2 : Int)) (0 : Nat) (1 : Nat)
                                        [IntKind.u8.wrap (y s (256 : Int) + (1 : Int))])),
                                  SV.int IntKind.u16
                                    (v4
                                      (stR
                                        (stR
                                          (stR
                                            (stR
                                              (stR
                                                (stR
                                                  (stR
                                                    (stR
                                                      (stR
                                                        (stR
                                                          (stR
                                                            [[y s (16777216 : Int)], [y s (65536 : Int)],
                                                              [y s (256 : Int)], [y s (1 : Int)],
                                                              [y d (16777216 : Int)], [y d (65536 : Int)],
                                                              [y d (256 : Int)], [y d (1 : Int)], [y p (256 : Int)],
                                                              [y p (1 : Int)], [y q (256 : Int)], [y q (1 : Int)],
                                                              [y t (1 : Int)]]
                                                            (Int.toNat (12 : Int)) (0 : Nat) (1 : Nat) [(0 : Int)])
                                                          (Int.toNat (11 : Int)) (0 : Nat) (1 : Nat) [(0 : Int)])
                                                        (Int.toNat (10 : Int)) (0 : Nat) (1 : Nat) [(0 : Int)])
                                                      (Int.toNat (9 : Int)) (0 : Nat) (1 : Nat) [(0 : Int)])
                                                    (Int.toNat (8 : Int)) (0 : Nat) (1 : Nat) [(0 : Int)])
                                                  (Int.toNat (7 : Int)) (0 : Nat) (1 : Nat) [(0 : Int)])
                                                (Int.toNat (6 : Int)) (0 : Nat) (1 : Nat) [(0 : Int)])
                                              (Int.toNat (5 : Int)) (0 : Nat) (1 : Nat) [(0 : Int)])
                                            (Int.toNat (4 : Int)) (0 : Nat) (1 : Nat) [(0 : Int)])
                                          (Int.toNat (3 : Int)) (0 : Nat) (1 : Nat) [(0 : Int)])
                                        (Int.toNat (2 : Int)) (0 : Nat) (1 : Nat)
                                        [IntKind.u8.wrap (y s (256 : Int) + (1 : Int))])),
                                  SV.int IntKind.u8
                                    (v5
                                      (stR
                                        (stR
                                          (stR
                                            (stR
                                              (stR
                                                (stR
                                                  (stR
                                                    (stR
                                                      (stR
                                                        (stR
                                                          (stR
                                                            [[y s (16777216 : Int)], [y s (65536 : Int)],
                                                              [y s (256 : Int)], [y s (1 : Int)],
                                                              [y d (16777216 : Int)], [y d (65536 : Int)],
                                                              [y d (256 : Int)], [y d (1 : Int)], [y p (256 : Int)],
                                                              [y p (1 : Int)], [y q (256 : Int)], [y q (1 : Int)],
                                                              [y t (1 : Int)]]
                                                            (Int.toNat (12 : Int)) (0 : Nat) (1 : Nat) [(0 : Int)])
                                                          (Int.toNat (11 : Int)) (0 : Nat) (1 : Nat) [(0 : Int)])
                                                        (Int.toNat (10 : Int)) (0 : Nat) (1 : Nat) [(0 : Int)])
                                                      (Int.toNat (9 : Int)) (0 : Nat) (1 : Nat) [(0 : Int)])
                                                    (Int.toNat (8 : Int)) (0 : Nat) (1 : Nat) [(0 : Int)])
                                                  (Int.toNat (7 : Int)) (0 : Nat) (1 : Nat) [(0 : Int)])
                                                (Int.toNat (6 : Int)) (0 : Nat) (1 : Nat) [(0 : Int)])
                                              (Int.toNat (5 : Int)) (0 : Nat) (1 : Nat) [(0 : Int)])
                                            (Int.toNat (4 : Int)) (0 : Nat) (1 : Nat) [(0 : Int)])
                                          (Int.toNat (3 : Int)) (0 : Nat) (1 : Nat) [(0 : Int)])
                                        (Int.toNat (2 : Int)) (0 : Nat) (1 : Nat)
                                        [IntKind.u8.wrap (y s (256 : Int) + (1 : Int))]))],
                              SV.bool true]))
                        (GT.br (decide (y s (65536 : Int) < (255 : Int)))
                          (GT.leaf
                            (SV.tup
                              [SV.agg
                                  [SV.int IntKind.u32
                                      (v1
                                        (stR
                                          (stR
                                            (stR
                                              (stR
                                                (stR
                                                  (stR
                                                    (stR
                                                      (stR
                                                        (stR
                                                          (stR
                                                            (stR
                                                              (stR
                                                                [[y s (16777216 : Int)], [y s (65536 : Int)],
                                                                  [y s (256 : Int)], [y s (1 : Int)],
                                                                  [y d (16777216 : Int)], [y d (65536 : Int)],
                                                                  [y d (256 : Int)], [y d (1 : Int)], [y p (256 : Int)],
                                                                  [y p (1 : Int)], [y q (256 : Int)], [y q (1 : Int)],
                                                                  [y t (1 : Int)]]
                                                                (Int.toNat (12 : Int)) (0 : Nat) (1 : Nat) [(0 : Int)])
                                                              (Int.toNat (11 : Int)) (0 : Nat) (1 : Nat) [(0 : Int)])
                                                            (Int.toNat (10 : Int)) (0 : Nat) (1 : Nat) [(0 : Int)])
                                                          (Int.toNat (9 : Int)) (0 : Nat) (1 : Nat) [(0 : Int)])
                                                        (Int.toNat (8 : Int)) (0 : Nat) (1 : Nat) [(0 : Int)])
                                                      (Int.toNat (7 : Int)) (0 : Nat) (1 : Nat) [(0 : Int)])
                                                    (Int.toNat (6 : Int)) (0 : Nat) (1 : Nat) [(0 : Int)])
                                                  (Int.toNat (5 : Int)) (0 : Nat) (1 : Nat) [(0 : Int)])
                                                (Int.toNat (4 : Int)) (0 : Nat) (1 : Nat) [(0 : Int)])
                                              (Int.toNat (3 : Int)) (0 : Nat) (1 : Nat) [(0 : Int)])
                                            (Int.toNat (2 : Int)) (0 : Nat) (1 : Nat) [(0 : Int)])
                                          (Int.toNat (1 : Int)) (0 : Nat) (1 : Nat)
                                          [IntKind.u8.wrap (y s (65536 : Int) + (1 : Int))])),
                                    SV.int IntKind.u32
                                      (v2
                                        (stR
                                          (stR
                                            (stR
                                              (stR
                                                (stR
                                                  (stR
                                                    (stR
                                                      (stR
                                                        (stR
                                                          (stR
                                                            (stR
                                                              (stR
                                                                [[y s (16777216 : Int)], [y s (65536 : Int)],
                                                                  [y s (256 : Int)], [y s (1 : Int)],
                                                                  [y d (16777216 : Int)], [y d (65536 : Int)],
                                                                  [y d (256 : Int)], [y d (1 : Int)], [y p (256 : Int)],
                                                                  [y p (1 : Int)], [y q (256 : Int)], [y q (1 : Int)],
                                                                  [y t (1 : Int)]]
                                                                (Int.toNat (12 : Int)) (0 : Nat) (1 : Nat) [(0 : Int)])
                                                              (Int.toNat (11 : Int)) (0 : Nat) (1 : Nat) [(0 : Int)])
                                                            (Int.toNat (10 : Int)) (0 : Nat) (1 : Nat) [(0 : Int)])
                                                          (Int.toNat (9 : Int)) (0 : Nat) (1 : Nat) [(0 : Int)])
                                                        (Int.toNat (8 : Int)) (0 : Nat) (1 : Nat) [(0 : Int)])
                                                      (Int.toNat (7 : Int)) (0 : Nat) (1 : Nat) [(0 : Int)])
                                                    (Int.toNat (6 : Int)) (0 : Nat) (1 : Nat) [(0 : Int)])
                                                  (Int.toNat (5 : Int)) (0 : Nat) (1 : Nat) [(0 : Int)])
                                                (Int.toNat (4 : Int)) (0 : Nat) (1 : Nat) [(0 : Int)])
                                              (Int.toNat (3 : Int)) (0 : Nat) (1 : Nat) [(0 : Int)])
                                            (Int.toNat (2 : Int)) (0 : Nat) (1 : Nat) [(0 : Int)])
                                          (Int.toNat (1 : Int)) (0 : Nat) (1 : Nat)
                                          [IntKind.u8.wrap (y s (65536 : Int) + (1 : Int))])),
                                    SV.int IntKind.u16
                                      (v3
                                        (stR
                                          (stR
                                            (stR
                                              (stR
                                                (stR
                                                  (stR
                                                    (stR
                                                      (stR
                                                        (stR
                                                          (stR
                                                            (stR
                                                              (stR
                                                                [[y s (16777216 : Int)], [y s (65536 : Int)],
                                                                  [y s (256 : Int)], [y s (1 : Int)],
                                                                  [y d (16777216 : Int)], [y d (65536 : Int)],
                                                                  [y d (256 : Int)], [y d (1 : Int)], [y p (256 : Int)],
                                                                  [y p (1 : Int)], [y q (256 : Int)], [y q (1 : Int)],
                                                                  [y t (1 : Int)]]
                                                                (Int.toNat (12 : Int)) (0 : Nat) (1 : Nat) [(0 : Int)])
                                                              (Int.toNat (11 : Int)) (0 : Nat) (1 : Nat) [(0 : Int)])
                                                            (Int.toNat (10 : Int)) (0 : Nat) (1 : Nat) [(0 : Int)])
                                                          (Int.toNat (9 : Int)) (0 : Nat) (1 : Nat) [(0 : Int)])
                                                        (Int.toNat (8 : Int)) (0 : Nat) (1 : Nat) [(0 : Int)])
                                                      (Int.toNat (7 : Int)) (0 : Nat) (1 : Nat) [(0 : Int)])
                                                    (Int.toNat (6 : Int)) (0 : Nat) (1 : Nat) [(0 : Int)])
                                                  (Int.toNat (5 : Int)) (0 : Nat) (1 : Nat) [(0 : Int)])
                                                (Int.toNat (4 : Int)) (0 : Nat) (1 : Nat) [(0 : Int)])
                                              (Int.toNat (3 : Int)) (0 : Nat) (1 : Nat) [(0 : Int)])
                                            (Int.toNat (2 : Int)) (0 : Nat) (1 : Nat) [(0 : Int)])
                                          (Int.toNat (1 : Int)) (0 : Nat) (1 : Nat)
                                          [IntKind.u8.wrap (y s (65536 : Int) + (1 : Int))])),
                                    SV.int IntKind.u16
                                      (v4
                                        (stR
                                          (stR
                                            (stR
                                              (stR
                                                (stR
                                                  (stR
                                                    (stR
                                                      (stR
                                                        (stR
                                                          (stR
                                                            (stR
                                                              (stR
                                                                [[y s (16777216 : Int)], [y s (65536 : Int)],
                                                                  [y s (256 : Int)], [y s (1 : Int)],
                                                                  [y d (16777216 : Int)], [y d (65536 : Int)],
                                                                  [y d (256 : Int)], [y d (1 : Int)], [y p (256 : Int)],
                                                                  [y p (1 : Int)], [y q (256 : Int)], [y q (1 : Int)],
                                                                  [y t (1 : Int)]]
                                                                (Int.toNat (12 : Int)) (0 : Nat) (1 : Nat) [(0 : Int)])
                                                              (Int.toNat (11 : Int)) (0 : Nat) (1 : Nat) [(0 : Int)])
                                                            (Int.toNat (10 : Int)) (0 : Nat) (1 : Nat) [(0 : Int)])
                                                          (Int.toNat (9 : Int)) (0 : Nat) (1 : Nat) [(0 : Int)])
                                                        (Int.toNat (8 : Int)) (0 : Nat) (1 : Nat) [(0 : Int)])
                                                      (Int.toNat (7 : Int)) (0 : Nat) (1 : Nat) [(0 : Int)])
                                                    (Int.toNat (6 : Int)) (0 : Nat) (1 : Nat) [(0 : Int)])
                                                  (Int.toNat (5 : Int)) (0 : Nat) (1 : Nat) [(0 : Int)])
                                                (Int.toNat (4 : Int)) (0 : Nat) (1 : Nat) [(0 : Int)])
                                              (Int.toNat (3 : Int)) (0 : Nat) (1 : Nat) [(0 : Int)])
                                            (Int.toNat (2 : Int)) (0 : Nat) (1 : Nat) [(0 : Int)])
                                          (Int.toNat (1 : Int)) (0 : Nat) (1 : Nat)
                                          [IntKind.u8.wrap (y s (65536 : Int) + (1 : Int))])),
                                    SV.int IntKind.u8
                                      (v5
                                        (stR
                                          (stR
                                            (stR
                                              (stR
                                                (stR
                                                  (stR
                                                    (stR
                                                      (stR
                                                        (stR
                                                          (stR
                                                            (stR
                                                              (stR
                                                                [[y s (16777216 : Int)], [y s (65536 : Int)],
                                                                  [y s (256 : Int)], [y s (1 : Int)],
                                                                  [y d (16777216 : Int)], [y d (65536 : Int)],
                                                                  [y d (256 : Int)], [y d (1 : Int)], [y p (256 : Int)],
                                                                  [y p (1 : Int)], [y q (256 : Int)], [y q (1 : Int)],
                                                                  [y t (1 : Int)]]
                                                                (Int.toNat (12 : Int)) (0 : Nat) (1 : Nat) [(0 : Int)])
                                                              (Int.toNat (11 : Int)) (0 : Nat) (1 : Nat) [(0 : Int)])
                                                            (Int.toNat (10 : Int)) (0 : Nat) (1 : Nat) [(0 : Int)])
                                                          (Int.toNat (9 : Int)) (0 : Nat) (1 : Nat) [(0 : Int)])
                                                        (Int.toNat (8 : Int)) (0 : Nat) (1 : Nat) [(0 : Int)])
                                                      (Int.toNat (7 : Int)) (0 : Nat) (1 : Nat) [(0 : Int)])
                                                    (Int.toNat (6 : Int)) (0 : Nat) (1 : Nat) [(0 : Int)])
                                                  (Int.toNat (5 : Int)) (0 : Nat) (1 : Nat) [(0 : Int)])
                                                (Int.toNat (4 : Int)) (0 : Nat) (1 : Nat) [(0 : Int)])
                                              (Int.toNat (3 : Int)) (0 : Nat) (1 : Nat) [(0 : Int)])
                                            (Int.toNat (2 : Int)) (0 : Nat) (1 : Nat) [(0 : Int)])
                                          (Int.toNat (1 : Int)) (0 : Nat) (1 : Nat)
                                          [IntKind.u8.wrap (y s (65536 : Int) + (1 : Int))]))],
                                SV.bool true]))
                          (GT.br (decide (y s (16777216 : Int) < (255 : Int)))
                            (GT.leaf
                              (SV.tup
                                [SV.agg
                                    [SV.int IntKind.u32
                                        (v1
                                          (stR
                                            (stR
                                              (stR
                                                (stR
                                                  (stR
                                                    (stR
                                                      (stR
                                                        (stR
                                                          (stR
                                                            (stR
                                                              (stR
                                                                (stR
                                                                  (stR
                                                                    [[y s (16777216 : Int)], [y s (65536 : Int)],
                                                                      [y s (256 : Int)], [y s (1 : Int)],
                                                                      [y d (16777216 : Int)], [y d (65536 : Int)],
                                                                      [y d (256 : Int)], [y d (1 : Int)],
                                                                      [y p (256 : Int)], [y p (1 : Int)],
                                                                      [y q (256 : Int)], [y q (1 : Int)],
                                                                      [y t (1 : Int)]]
                                                                    (Int.toNat (12 : Int)) (0 : Nat) (1 : Nat)
                                                                    [(0 : Int)])
                                                                  (Int.toNat (11 : Int)) (0 : Nat) (1 : Nat)
                                                                  [(0 : Int)])
                                                                (Int.toNat (10 : Int)) (0 : Nat) (1 : Nat) [(0 : Int)])
                                                              (Int.toNat (9 : Int)) (0 : Nat) (1 : Nat) [(0 : Int)])
                                                            (Int.toNat (8 : Int)) (0 : Nat) (1 : Nat) [(0 : Int)])
                                                          (Int.toNat (7 : Int)) (0 : Nat) (1 : Nat) [(0 : Int)])
                                                        (Int.toNat (6 : Int)) (0 : Nat) (1 : Nat) [(0 : Int)])
                                                      (Int.toNat (5 : Int)) (0 : Nat) (1 : Nat) [(0 : Int)])
                                                    (Int.toNat (4 : Int)) (0 : Nat) (1 : Nat) [(0 : Int)])
                                                  (Int.toNat (3 : Int)) (0 : Nat) (1 : Nat) [(0 : Int)])
                                                (Int.toNat (2 : Int)) (0 : Nat) (1 : Nat) [(0 : Int)])
                                              (Int.toNat (1 : Int)) (0 : Nat) (1 : Nat) [(0 : Int)])
                                            (Int.toNat (0 : Int)) (0 : Nat) (1 : Nat)
                                            [IntKind.u8.wrap (y s (16777216 : Int) + (1 : Int))])),
                                      SV.int IntKind.u32
                                        (v2
                                          (stR
                                            (stR
                                              (stR
                                                (stR
                                                  (stR
                                                    (stR
                                                      (stR
                                                        (stR
                                                          (stR
                                                            (stR
                                                              (stR
                                                                (stR
                                                                  (stR
                                                                    [[y s (16777216 : Int)], [y s (65536 : Int)],
                                                                      [y s (256 : Int)], [y s (1 : Int)],
                                                                      [y d (16777216 : Int)], [y d (65536 : Int)],
                                                                      [y d (256 : Int)], [y d (1 : Int)],
                                                                      [y p (256 : Int)], [y p (1 : Int)],
                                                                      [y q (256 : Int)], [y q (1 : Int)],
                                                                      [y t (1 : Int)]]
                                                                    (Int.toNat (12 : Int)) (0 : Nat) (1 : Nat)
                                                                    [(0 : Int)])
                                                                  (Int.toNat (11 : Int)) (0 : Nat) (1 : Nat)
                                                                  [(0 : Int)])
                                                                (Int.toNat (10 : Int)) (0 : Nat) (1 : Nat) [(0 : Int)])
                                                              (Int.toNat (9 : Int)) (0 : Nat) (1 : Nat) [(0 : Int)])
                                                            (Int.toNat (8 : Int)) (0 : Nat) (1 : Nat) [(0 : Int)])
                                                          (Int.toNat (7 : Int)) (0 : Nat) (1 : Nat) [(0 : Int)])
                                                        (Int.toNat (6 : Int)) (0 : Nat) (1 : Nat) [(0 : Int)])
                                                      (Int.toNat (5 : Int)) (0 : Nat) (1 : Nat) [(0 : Int)])
                                                    (Int.toNat (4 : Int)) (0 : Nat) (1 : Nat) [(0 : Int)])
                                                  (Int.toNat (3 : Int)) (0 : Nat) (1 : Nat) [(0 : Int)])
                                                (Int.toNat (2 : Int)) (0 : Nat) (1 : Nat) [(0 : Int)])
                                              (Int.toNat (1 : Int)) (0 : Nat) (1 : Nat) [(0 : Int)])
                                            (Int.toNat (0 : Int)) (0 : Nat) (1 : Nat)
                                            [IntKind.u8.wrap (y s (16777216 : Int) + (1 : Int))])),
                                      SV.int IntKind.u16
                                        (v3
                                          (stR
                                            (stR
                                              (stR
                                                (stR
                                                  (stR
                                                    (stR
                                                      (stR
                                                        (stR
                                                          (stR
                                                            (stR
                                                              (stR
                                                                (stR
                                                                  (stR
                                                                    [[y s (16777216 : Int)], [y s (65536 : Int)],
                                                                      [y s (256 : Int)], [y s (1 : Int)],
                                                                      [y d (16777216 : Int)], [y d (65536 : Int)],
                                                                      [y d (256 : Int)], [y d (1 : Int)],
                                                                      [y p (256 : Int)], [y p (1 : Int)],
                                                                      [y q (256 : Int)], [y q (1 : Int)],
                                                                      [y t (1 : Int)]]
                                                                    (Int.toNat (12 : Int)) (0 : Nat) (1 : Nat)
                                                                    [(0 : Int)])
                                                                  (Int.toNat (11 : Int)) (0 : Nat) (1 : Nat)
                                                                  [(0 : Int)])
                                                                (Int.toNat (10 : Int)) (0 : Nat) (1 : Nat) [(0 : Int)])
                                                              (Int.toNat (9 : Int)) (0 : Nat) (1 : Nat) [(0 : Int)])
                                                            (Int.toNat (8 : Int)) (0 : Nat) (1 : Nat) [(0 : Int)])
                                                          (Int.toNat (7 : Int)) (0 : Nat) (1 : Nat) [(0 : Int)])
                                                        (Int.toNat (6 : Int)) (0 : Nat) (1 : Nat) [(0 : Int)])
                                                      (Int.toNat (5 : Int)) (0 : Nat) (1 : Nat) [(0 : Int)])
                                                    (Int.toNat (4 : Int)) (0 : Nat) (1 : Nat) [(0 : Int)])
                                                  (Int.toNat (3 : Int)) (0 : Nat) (1 : Nat) [(0 : Int)])
                                                (Int.toNat (2 : Int)) (0 : Nat) (1 : Nat) [(0 : Int)])
                                              (Int.toNat (1 : Int)) (0 : Nat) (1 : Nat) [(0 : Int)])
                                            (Int.toNat (0 : Int)) (0 : Nat) (1 : Nat)
                                            [IntKind.u8.wrap (y s (16777216 : Int) + (1 : Int))])),
                                      SV.int IntKind.u16
                                        (v4
                                          (stR
                                            (stR
                                              (stR
                                                (stR
                                                  (stR
                                                    (stR
                                                      (stR
                                                        (stR
                                                          (stR
                                                            (stR
                                                              (stR
                                                                (stR
                                                                  (stR
                                                                    [[y s (16777216 : Int)], [y s (65536 : Int)],
                                                                      [y s (256 : Int)], [y s (1 : Int)],
                                                                      [y d (16777216 : Int)], [y d (65536 : Int)],
                                                                      [y d (256 : Int)], [y d (1 : Int)],
                                                                      [y p (256 : Int)], [y p (1 : Int)],
                                                                      [y q (256 : Int)], [y q (1 : Int)],
                                                                      [y t (1 : Int)]]
                                                                    (Int.toNat (12 : Int)) (0 : Nat) (1 : Nat)
                                                                    [(0 : Int)])
                                                                  (Int.toNat (11 : Int)) (0 : Nat) (1 : Nat)
                                                                  [(0 : Int)])
                                                                (Int.toNat (10 : Int)) (0 : Nat) (1 : Nat) [(0 : Int)])
                                                              (Int.toNat (9 : Int)) (0 : Nat) (1 : Nat) [(0 : Int)])
                                                            (Int.toNat (8 : Int)) (0 : Nat) (1 : Nat) [(0 : Int)])
                                                          (Int.toNat (7 : Int)) (0 : Nat) (1 : Nat) [(0 : Int)])
                                                        (Int.toNat (6 : Int)) (0 : Nat) (1 : Nat) [(0 : Int)])
                                                      (Int.toNat (5 : Int)) (0 : Nat) (1 : Nat) [(0 : Int)])
                                                    (Int.toNat (4 : Int)) (0 : Nat) (1 : Nat) [(0 : Int)])
                                                  (Int.toNat (3 : Int)) (0 : Nat) (1 : Nat) [(0 : Int)])
                                                (Int.toNat (2 : Int)) (0 : Nat) (1 : Nat) [(0 : Int)])
                                              (Int.toNat (1 : Int)) (0 : Nat) (1 : Nat) [(0 : Int)])
                                            (Int.toNat (0 : Int)) (0 : Nat) (1 : Nat)
                                            [IntKind.u8.wrap (y s (16777216 : Int) + (1 : Int))])),
                                      SV.int IntKind.u8
                                        (v5
                                          (stR
                                            (stR
                                              (stR
                                                (stR
                                                  (stR
                                                    (stR
                                                      (stR
                                                        (stR
                                                          (stR
                                                            (stR
                                                              (stR
                                                                (stR
                                                                  (stR
                                                                    [[y s (16777216 : Int)], [y s (65536 : Int)],
                                                                      [y s (256 : Int)], [y s (1 : Int)],
                                                                      [y d (16777216 : Int)], [y d (65536 : Int)],
                                                                      [y d (256 : Int)], [y d (1 : Int)],
                                                                      [y p (256 : Int)], [y p (1 : Int)],
                                                                      [y q (256 : Int)], [y q (1 : Int)],
                                                                      [y t (1 : Int)]]
                                                                    (Int.toNat (12 : Int)) (0 : Nat) (1 : Nat)
                                                                    [(0 : Int)])
                                                                  (Int.toNat (11 : Int)) (0 : Nat) (1 : Nat)
                                                                  [(0 : Int)])
                                                                (Int.toNat (10 : Int)) (0 : Nat) (1 : Nat) [(0 : Int)])
                                                              (Int.toNat (9 : Int)) (0 : Nat) (1 : Nat) [(0 : Int)])
                                                            (Int.toNat (8 : Int)) (0 : Nat) (1 : Nat) [(0 : Int)])
                                                          (Int.toNat (7 : Int)) (0 : Nat) (1 : Nat) [(0 : Int)])
                                                        (Int.toNat (6 : Int)) (0 : Nat) (1 : Nat) [(0 : Int)])
                                                      (Int.toNat (5 : Int)) (0 : Nat) (1 : Nat) [(0 : Int)])
                                                    (Int.toNat (4 : Int)) (0 : Nat) (1 : Nat) [(0 : Int)])
                                                  (Int.toNat (3 : Int)) (0 : Nat) (1 : Nat) [(0 : Int)])
                                                (Int.toNat (2 : Int)) (0 : Nat) (1 : Nat) [(0 : Int)])
                                              (Int.toNat (1 : Int)) (0 : Nat) (1 : Nat) [(0 : Int)])
                                            (Int.toNat (0 : Int)) (0 : Nat) (1 : Nat)
                                            [IntKind.u8.wrap (y s (16777216 : Int) + (1 : Int))]))],
                                  SV.bool true]))
                            (GT.leaf
                              (SV.tup
                                [SV.agg
                                    [SV.int IntKind.u32 (0 : Int), SV.int IntKind.u32 (0 : Int),
                                      SV.int IntKind.u16 (0 : Int), SV.int IntKind.u16 (0 : Int),
                                      SV.int IntKind.u8 (0 : Int)],
                                  SV.bool false]))))))))))))))
theorem e_rnext (y : Int → Int → Int) (v1 v2 v3 v4 v5 : List Row → Int) (s d p q t : Int) : evFn Try.prog (Gnx y v1 v2 v3 v4 v5) ents [15] nolp 2 22 [hx s d p q t] = (T_rnext y v1 v2 v3 v4 v5 s d p q t).opt := by kernel_rfl
end Go.Sx.Mk


/- Layer 6: HeaderNexts. -/
namespace Go.Sx.Mk
open Go.Proofs Go.RowKit
theorem w8 (n : Int) : IntKind.wrap .u8 n = n % 256 := by simp [IntKind.wrap, IntKind.signed, IntKind.bits]
theorem w16 (n : Int) : IntKind.wrap .u16 n = n % 65536 := by simp [IntKind.wrap, IntKind.signed, IntKind.bits]
theorem w32 (n : Int) : IntKind.wrap .u32 n = n % 4294967296 := by simp [IntKind.wrap, IntKind.signed, IntKind.bits]
theorem w64 (n : Int) : IntKind.wrap .u64 n = n % 18446744073709551616 := by simp [IntKind.wrap, IntKind.signed, IntKind.bits]
/-- a number of four bytes -/
theorem bytes4 {s : Int} (h : U32 s) : ∃ a b c d : Int, U8 a ∧ U8 b ∧ U8 c ∧ U8 d ∧ s = a * 16777216 + b * 65536 + c * 256 + d ∧ yS s 16777216 = a ∧ yS s 65536 = b ∧ yS s 256 = c ∧ yS s 1 = d := by
  obtain ⟨h0, h1⟩ := h
  refine ⟨s / 16777216, s / 65536 % 256, s / 256 % 256, s % 256, ?_⟩
  unfold yS U8
  simp only [w8, w64, Int.emod_eq_of_lt h0 (show s < 18446744073709551616 by omega), Int.fdiv_eq_ediv_of_nonneg s (show (0 : Int) ≤ 16777216 by omega), Int.fdiv_eq_ediv_of_nonneg s (show (0 : Int) ≤ 65536 by omega), Int.fdiv_eq_ediv_of_nonneg s (show (0 : Int) ≤ 256 by omega), Int.fdiv_eq_ediv_of_nonneg s (show (0 : Int) ≤ 1 by omega)]
  refine ⟨⟨?_, ?_⟩, ⟨?_, ?_⟩, ⟨?_, ?_⟩, ⟨?_, ?_⟩, ?_, ?_, ?_, ?_, ?_⟩ <;> first | trivial | omega
theorem bytes2 {s : Int} (h : U16 s) : ∃ c d : Int, U8 c ∧ U8 d ∧ s = c * 256 + d ∧ yS s 256 = c ∧ yS s 1 = d := by
  obtain ⟨h0, h1⟩ := h
  refine ⟨s / 256, s % 256, ?_⟩
  unfold yS U8
  simp only [w8, w64, Int.emod_eq_of_lt h0 (show s < 18446744073709551616 by omega), Int.fdiv_eq_ediv_of_nonneg s (show (0 : Int) ≤ 256 by omega), Int.fdiv_eq_ediv_of_nonneg s (show (0 : Int) ≤ 1 by omega)]
  omega
theorem bytes1 {s : Int} (h : U8 s) : yS s 1 = s := by
  obtain ⟨h0, h1⟩ := h
  unfold yS
  simp only [w8, w64, Int.emod_eq_of_lt h0 (show s < 18446744073709551616 by omega), Int.fdiv_eq_ediv_of_nonneg s (show (0 : Int) ≤ 1 by omega)]
  omega
theorem lo4 {a b c d : Int} (ha : U8 a) (hb : U8 b) (hc : U8 c) (hd : U8 d) : IntKind.wrap .u32 (loF [[a], [b], [c], [d]] 0) = a * 16777216 + b * 65536 + c * 256 + d := by
  obtain ⟨ha0, ha1⟩ := ha
  obtain ⟨hb0, hb1⟩ := hb
  obtain ⟨hc0, hc1⟩ := hc
  obtain ⟨hd0, hd1⟩ := hd
  simp only [loF, List.getD_cons_zero, w64, w32]
  omega
theorem lo2 {c d : Int} (hc : U8 c) (hd : U8 d) : IntKind.wrap .u16 (loF [[c], [d]] 0) = c * 256 + d := by
  obtain ⟨hc0, hc1⟩ := hc
  obtain ⟨hd0, hd1⟩ := hd
  simp only [loF, List.getD_cons_zero, w64, w16]
  omega
def n5 (t : Int) : Int := IntKind.wrap .u8 (t + 1)
def n4 (q t : Int) : Int := sure (n5 t == 0) (IntKind.wrap .u16 (q + 1)) q
def n3 (p q t : Int) : Int := sure (n5 t == 0) (sure (n4 q t == 0) (IntKind.wrap .u16 (p + 1)) p) p
def n2 (d p q t : Int) : Int := sure (n5 t == 0) (sure (n4 q t == 0) (sure (n3 p q t == 0) (IntKind.wrap .u32 (d + 1)) d) d) d
def n1 (s d p q t : Int) : Int := sure (n5 t == 0) (sure (n4 q t == 0) (sure (n3 p q t == 0) (sure (n2 d p q t == 0) (IntKind.wrap .u32 (s + 1)) s) s) s) s
def nb (s d p q t : Int) : Bool := !(n1 s d p q t == 0 && (n2 d p q t == 0 && (n3 p q t == 0 && (n4 q t == 0 && (n5 t == 0 && true)))))
def nxH (s d p q t : Int) : SV := .tup [hx (n1 s d p q t) (n2 d p q t) (n3 p q t) (n4 q t) (n5 t), .bool (nb s d p q t)]
theorem leafB (x : List SV) (b : Bool) : (GT.br b (.leaf (SV.tup (x ++ [SV.bool true]))) (.leaf (SV.tup (x ++ [SV.bool false])))).opt = some (SV.tup (x ++ [SV.bool b])) := by cases b <;> rfl
theorem T_next_eq (s d p q t : Int) : (T_next s d p q t).opt = some (nxH s d p q t) := by
  unfold T_next nxH
  cases h5 : (IntKind.wrap .u8 (t + 1) == 0) with
  | false =>
    have e5 : (n5 t == 0) = false := h5
    have e4 : n4 q t = q := by unfold n4; rw [e5]; rfl
    have e3 : n3 p q t = p := by unfold n3; rw [e5]; rfl
    have e2 : n2 d p q t = d := by unfold n2; rw [e5]; rfl
    have e1 : n1 s d p q t = s := by unfold n1; rw [e5]; rfl
    unfold nb
    rw [e1, e2, e3, e4, e5]
    exact leafB [hx s d p q (n5 t)] _
  | true =>
    have e5 : (n5 t == 0) = true := h5
    have e4 : n4 q t = IntKind.wrap .u16 (q + 1) := by unfold n4; rw [e5]; rfl
    cases h4 : (IntKind.wrap .u16 (q + 1) == 0) with
    | false =>
      have f4 : (n4 q t == 0) = false := by rw [e4]; exact h4
      have e3 : n3 p q t = p := by unfold n3; rw [e5, f4]; rfl
      have e2 : n2 d p q t = d := by unfold n2; rw [e5, f4]; rfl
      have e1 : n1 s d p q t = s := by unfold n1; rw [e5, f4]; rfl
      unfold nb
      rw [e1, e2, e3, f4, e5, e4]
      exact leafB [hx s d p (IntKind.wrap .u16 (q + 1)) (n5 t)] _
    | true =>
      have f4 : (n4 q t == 0) = true := by rw [e4]; exact h4
      have e3 : n3 p q t = IntKind.wrap .u16 (p + 1) := by unfold n3; rw [e5, f4]; rfl
      cases h3 : (IntKind.wrap .u16 (p + 1) == 0) with
      | false =>
        have f3 : (n3 p q t == 0) = false := by rw [e3]; exact h3
        have e2 : n2 d p q t = d := by unfold n2; rw [e5, f4, f3]; rfl
        have e1 : n1 s d p q t = s := by unfold n1; rw [e5, f4, f3]; rfl
        unfold nb
        rw [e1, e2, f3, f4, e5, e4, e3]
        exact leafB [hx s d (IntKind.wrap .u16 (p + 1)) (IntKind.wrap .u16 (q + 1)) (n5 t)] _
      | true =>
        have f3 : (n3 p q t == 0) = true := by rw [e3]; exact h3
        have e2 : n2 d p q t = IntKind.wrap .u32 (d + 1) := by unfold n2; rw [e5, f4, f3]; rfl
        cases h2 : (IntKind.wrap .u32 (d + 1) == 0) with
        | false =>
          have f2 : (n2 d p q t == 0) = false := by rw [e2]; exact h2
          have e1 : n1 s d p q t = s := by unfold n1; rw [e5, f4, f3, f2]; rfl
          unfold nb
          rw [e1, f2, f3, f4, e5, e4, e3, e2]
          exact leafB [hx s (IntKind.wrap .u32 (d + 1)) (IntKind.wrap .u16 (p + 1)) (IntKind.wrap .u16 (q + 1)) (n5 t)] _
        | true =>
          have f2 : (n2 d p q t == 0) = true := by rw [e2]; exact h2
          have e1 : n1 s d p q t = IntKind.wrap .u32 (s + 1) := by unfold n1; rw [e5, f4, f3, f2]; rfl
          unfold nb
          rw [f2, f3, f4, e5, e4, e3, e2, e1]
          exact leafB [hx (IntKind.wrap .u32 (s + 1)) (IntKind.wrap .u32 (d + 1)) (IntKind.wrap .u16 (p + 1)) (IntKind.wrap .u16 (q + 1)) (n5 t)] _
theorem S_next : SummT Try.prog 21 (sgH fun s d p q t => .leaf (.tup [hx (n1 s d p q t) (n2 d p q t) (n3 p q t) (n4 q t) (n5 t), .bool (nb s d p q t)])) := sgH.summ (evFn_summ (facts G0_ok) 1 21) (fun s d p q t sv h => ((e_next s d p q t).trans (T_next_eq s d p q t)).trans h)
theorem nx_eq {s d p q t a b c e f : Int} {g : Bool} (h1 : n1 s d p q t = a) (h2 : n2 d p q t = b) (h3 : n3 p q t = c) (h4 : n4 q t = e) (h5 : n5 t = f) (hg : (!(a == 0 && (b == 0 && (c == 0 && (e == 0 && (f == 0 && true)))))) = g) : nxH s d p q t = .tup [hx a b c e f, .bool g] := by
  unfold nxH nb
  rw [h1, h2, h3, h4, h5, hg]
theorem nx_t {s d p q t : Int} (h0 : 0 ≤ t) (h : t < 255) : nxH s d p q t = .tup [hx s d p q (t + 1), .bool true] := by
  have e5 : n5 t = t + 1 := wrap_u8 (by omega) (by omega)
  have f5 : (n5 t == 0) = false := by rw [e5, beq_eq_false_iff_ne]; omega
  refine nx_eq ?_ ?_ ?_ ?_ e5 ?_
  · unfold n1; rw [f5]; rfl
  · unfold n2; rw [f5]; rfl
  · unfold n3; rw [f5]; rfl
  · unfold n4; rw [f5]; rfl
  · rw [show (t + 1 == 0) = false by rw [beq_eq_false_iff_ne]; omega]; simp
theorem n5_255 : n5 255 = 0 := rfl
theorem nx_q {s d p q : Int} (h0 : 0 ≤ q) (h : q < 65535) : nxH s d p q 255 = .tup [hx s d p (q + 1) 0, .bool true] := by
  have e4 : n4 q 255 = q + 1 := wrap_u16 (by omega) (by omega)
  have f4 : (n4 q 255 == 0) = false := by rw [e4, beq_eq_false_iff_ne]; omega
  have f5 : (n5 255 == 0) = true := rfl
  refine nx_eq ?_ ?_ ?_ e4 n5_255 ?_
  · unfold n1; rw [f5, f4]; rfl
  · unfold n2; rw [f5, f4]; rfl
  · unfold n3; rw [f5, f4]; rfl
  · rw [show (q + 1 == 0) = false by rw [beq_eq_false_iff_ne]; omega]; simp
theorem n4_all : n4 65535 255 = 0 := rfl
theorem nx_p {s d p : Int} (h0 : 0 ≤ p) (h : p < 65535) : nxH s d p 65535 255 = .tup [hx s d (p + 1) 0 0, .bool true] := by
  have e3 : n3 p 65535 255 = p + 1 := wrap_u16 (by omega) (by omega)
  have f3 : (n3 p 65535 255 == 0) = false := by rw [e3, beq_eq_false_iff_ne]; omega
  have f4 : (n4 65535 255 == 0) = true := rfl
  have f5 : (n5 255 == 0) = true := rfl
  refine nx_eq ?_ ?_ e3 n4_all n5_255 ?_
  · unfold n1; rw [f5, f4, f3]; rfl
  · unfold n2; rw [f5, f4, f3]; rfl
  · rw [show (p + 1 == 0) = false by rw [beq_eq_false_iff_ne]; omega]; simp
theorem n3_all : n3 65535 65535 255 = 0 := rfl
theorem nx_d {s d : Int} (h0 : 0 ≤ d) (h : d < 4294967295) : nxH s d 65535 65535 255 = .tup [hx s (d + 1) 0 0 0, .bool true] := by
  have e2 : n2 d 65535 65535 255 = d + 1 := wrap_u32 (by omega) (by omega)
  have f2 : (n2 d 65535 65535 255 == 0) = false := by rw [e2, beq_eq_false_iff_ne]; omega
  have f3 : (n3 65535 65535 255 == 0) = true := rfl
  have f4 : (n4 65535 255 == 0) = true := rfl
  have f5 : (n5 255 == 0) = true := rfl
  refine nx_eq ?_ e2 n3_all n4_all n5_255 ?_
  · unfold n1; rw [f5, f4, f3, f2]; rfl
  · rw [show (d + 1 == 0) = false by rw [beq_eq_false_iff_ne]; omega]; simp
theorem n2_all : n2 4294967295 65535 65535 255 = 0 := rfl
theorem nx_s {s : Int} (h0 : 0 ≤ s) (h : s < 4294967295) : nxH s 4294967295 65535 65535 255 = .tup [hx (s + 1) 0 0 0 0, .bool true] := by
  have e1 : n1 s 4294967295 65535 65535 255 = s + 1 := wrap_u32 (by omega) (by omega)
  refine nx_eq e1 n2_all n3_all n4_all n5_255 ?_
  rw [show (s + 1 == 0) = false by rw [beq_eq_false_iff_ne]; omega]; rfl
theorem nx_all : nxH 4294967295 4294967295 65535 65535 255 = .tup [hx 0 0 0 0 0, .bool false] := rfl
/-- the fields of 13 bytes -/
theorem leafL {a0 a1 a2 a3 a4 a5 a6 a7 a8 a9 a10 a11 a12 : Int} (h0 : U8 a0) (h1 : U8 a1) (h2 : U8 a2) (h3 : U8 a3) (h4 : U8 a4) (h5 : U8 a5) (h6 : U8 a6) (h7 : U8 a7) (h8 : U8 a8) (h9 : U8 a9) (h10 : U8 a10) (h11 : U8 a11) (L : List Row) (hL : L = [[a0], [a1], [a2], [a3], [a4], [a5], [a6], [a7], [a8], [a9], [a10], [a11], [a12]]) :
    hx (r1 L) (r2 L) (r3 L) (r4 L) (r5 L) = hx (a0 * 16777216 + a1 * 65536 + a2 * 256 + a3) (a4 * 16777216 + a5 * 65536 + a6 * 256 + a7) (a8 * 256 + a9) (a10 * 256 + a11) a12 := by
  subst hL
  rw [← lo4 h0 h1 h2 h3, ← lo4 h4 h5 h6 h7, ← lo2 h8 h9, ← lo2 h10 h11]
  rfl
end Go.Sx.Mk


/- Layer 6: HeaderNexts, the reference's Next. -/
namespace Go.Sx.Mk
open Go.Proofs Go.RowKit
theorem hx_congr {a b c e f a' b' c' e' f' : Int} {g : Bool} (h1 : a = a') (h2 : b = b') (h3 : c = c') (h4 : e = e') (h5 : f = f') : some (SV.tup [hx a b c e f, .bool g]) = some (SV.tup [hx a' b' c' e' f', .bool g]) := by rw [h1, h2, h3, h4, h5]
set_option maxHeartbeats 4000000 in
theorem rnext_eq {s d p q t : Int} (hs : U32 s) (hd : U32 d) (hp : U16 p) (hq : U16 q) (ht : U8 t) : (T_rnext yS r1 r2 r3 r4 r5 s d p q t).opt = some (nxH s d p q t) := by
  obtain ⟨a0, a1, a2, a3, u0, u1, u2, u3, es, e0, e1, e2, e3⟩ := bytes4 hs
  obtain ⟨a4, a5, a6, a7, u4, u5, u6, u7, ed, e4, e5, e6, e7⟩ := bytes4 hd
  obtain ⟨a8, a9, u8, u9, ep, e8, e9⟩ := bytes2 hp
  obtain ⟨a10, a11, u10, u11, eq, e10, e11⟩ := bytes2 hq
  have e12 := bytes1 ht
  have v0 := u0; have v1 := u1; have v2 := u2; have v3 := u3; have v4 := u4; have v5 := u5; have v6 := u6; have v7 := u7; have v8 := u8; have v9 := u9; have v10 := u10; have v11 := u11; have v12 := ht
  unfold U8 at v0 v1 v2 v3 v4 v5 v6 v7 v8 v9 v10 v11 v12
  unfold T_rnext
  rw [e0, e1, e2, e3, e4, e5, e6, e7, e8, e9, e10, e11, e12]
  by_cases c12 : t < 255
  · rw [decide_eq_true c12]
    have w : IntKind.wrap .u8 (t + 1) = t + 1 := wrap_u8 (by omega) (by omega)
    refine Eq.trans (show _ = some (SV.tup [hx (r1 [[a0], [a1], [a2], [a3], [a4], [a5], [a6], [a7], [a8], [a9], [a10], [a11], [IntKind.wrap .u8 (t + 1)]]) (r2 [[a0], [a1], [a2], [a3], [a4], [a5], [a6], [a7], [a8], [a9], [a10], [a11], [IntKind.wrap .u8 (t + 1)]]) (r3 [[a0], [a1], [a2], [a3], [a4], [a5], [a6], [a7], [a8], [a9], [a10], [a11], [IntKind.wrap .u8 (t + 1)]]) (r4 [[a0], [a1], [a2], [a3], [a4], [a5], [a6], [a7], [a8], [a9], [a10], [a11], [IntKind.wrap .u8 (t + 1)]]) (r5 [[a0], [a1], [a2], [a3], [a4], [a5], [a6], [a7], [a8], [a9], [a10], [a11], [IntKind.wrap .u8 (t + 1)]]), .bool true]) from rfl) ?_
    have R : nxH s d p q t = .tup [hx s d p q (t + 1), .bool true] := nx_t (by omega) (by omega)
    rw [w, leafL u0 u1 u2 u3 u4 u5 u6 u7 u8 u9 u10 u11 [[a0], [a1], [a2], [a3], [a4], [a5], [a6], [a7], [a8], [a9], [a10], [a11], [t + 1]] rfl, R]
    exact hx_congr (by omega) (by omega) (by omega) (by omega) (by omega)
  rw [decide_eq_false c12]
  by_cases c11 : a11 < 255
  · rw [decide_eq_true c11]
    have w : IntKind.wrap .u8 (a11 + 1) = a11 + 1 := wrap_u8 (by omega) (by omega)
    refine Eq.trans (show _ = some (SV.tup [hx (r1 [[a0], [a1], [a2], [a3], [a4], [a5], [a6], [a7], [a8], [a9], [a10], [IntKind.wrap .u8 (a11 + 1)], [0]]) (r2 [[a0], [a1], [a2], [a3], [a4], [a5], [a6], [a7], [a8], [a9], [a10], [IntKind.wrap .u8 (a11 + 1)], [0]]) (r3 [[a0], [a1], [a2], [a3], [a4], [a5], [a6], [a7], [a8], [a9], [a10], [IntKind.wrap .u8 (a11 + 1)], [0]]) (r4 [[a0], [a1], [a2], [a3], [a4], [a5], [a6], [a7], [a8], [a9], [a10], [IntKind.wrap .u8 (a11 + 1)], [0]]) (r5 [[a0], [a1], [a2], [a3], [a4], [a5], [a6], [a7], [a8], [a9], [a10], [IntKind.wrap .u8 (a11 + 1)], [0]]), .bool true]) from rfl) ?_
    have R : nxH s d p q t = .tup [hx s d p (q + 1) 0, .bool true] := by rw [show t = 255 by omega]; exact nx_q (by omega) (by omega)
    rw [w, leafL u0 u1 u2 u3 u4 u5 u6 u7 u8 u9 u10 ⟨by omega, by omega⟩ [[a0], [a1], [a2], [a3], [a4], [a5], [a6], [a7], [a8], [a9], [a10], [a11 + 1], [0]] rfl, R]
    exact hx_congr (by omega) (by omega) (by omega) (by omega) (by omega)
  rw [decide_eq_false c11]
  by_cases c10 : a10 < 255
  · rw [decide_eq_true c10]
    have w : IntKind.wrap .u8 (a10 + 1) = a10 + 1 := wrap_u8 (by omega) (by omega)
    refine Eq.trans (show _ = some (SV.tup [hx (r1 [[a0], [a1], [a2], [a3], [a4], [a5], [a6], [a7], [a8], [a9], [IntKind.wrap .u8 (a10 + 1)], [0], [0]]) (r2 [[a0], [a1], [a2], [a3], [a4], [a5], [a6], [a7], [a8], [a9], [IntKind.wrap .u8 (a10 + 1)], [0], [0]]) (r3 [[a0], [a1], [a2], [a3], [a4], [a5], [a6], [a7], [a8], [a9], [IntKind.wrap .u8 (a10 + 1)], [0], [0]]) (r4 [[a0], [a1], [a2], [a3], [a4], [a5], [a6], [a7], [a8], [a9], [IntKind.wrap .u8 (a10 + 1)], [0], [0]]) (r5 [[a0], [a1], [a2], [a3], [a4], [a5], [a6], [a7], [a8], [a9], [IntKind.wrap .u8 (a10 + 1)], [0], [0]]), .bool true]) from rfl) ?_
    have R : nxH s d p q t = .tup [hx s d p (q + 1) 0, .bool true] := by rw [show t = 255 by omega]; exact nx_q (by omega) (by omega)
    rw [w, leafL u0 u1 u2 u3 u4 u5 u6 u7 u8 u9 ⟨by omega, by omega⟩ ⟨by omega, by omega⟩ [[a0], [a1], [a2], [a3], [a4], [a5], [a6], [a7], [a8], [a9], [a10 + 1], [0], [0]] rfl, R]
    exact hx_congr (by omega) (by omega) (by omega) (by omega) (by omega)
  rw [decide_eq_false c10]
  by_cases c9 : a9 < 255
  · rw [decide_eq_true c9]
    have w : IntKind.wrap .u8 (a9 + 1) = a9 + 1 := wrap_u8 (by omega) (by omega)
    refine Eq.trans (show _ = some (SV.tup [hx (r1 [[a0], [a1], [a2], [a3], [a4], [a5], [a6], [a7], [a8], [IntKind.wrap .u8 (a9 + 1)], [0], [0], [0]]) (r2 [[a0], [a1], [a2], [a3], [a4], [a5], [a6], [a7], [a8], [IntKind.wrap .u8 (a9 + 1)], [0], [0], [0]]) (r3 [[a0], [a1], [a2], [a3], [a4], [a5], [a6], [a7], [a8], [IntKind.wrap .u8 (a9 + 1)], [0], [0], [0]]) (r4 [[a0], [a1], [a2], [a3], [a4], [a5], [a6], [a7], [a8], [IntKind.wrap .u8 (a9 + 1)], [0], [0], [0]]) (r5 [[a0], [a1], [a2], [a3], [a4], [a5], [a6], [a7], [a8], [IntKind.wrap .u8 (a9 + 1)], [0], [0], [0]]), .bool true]) from rfl) ?_
    have R : nxH s d p q t = .tup [hx s d (p + 1) 0 0, .bool true] := by rw [show t = 255 by omega, show q = 65535 by omega]; exact nx_p (by omega) (by omega)
    rw [w, leafL u0 u1 u2 u3 u4 u5 u6 u7 u8 ⟨by omega, by omega⟩ ⟨by omega, by omega⟩ ⟨by omega, by omega⟩ [[a0], [a1], [a2], [a3], [a4], [a5], [a6], [a7], [a8], [a9 + 1], [0], [0], [0]] rfl, R]
    exact hx_congr (by omega) (by omega) (by omega) (by omega) (by omega)
  rw [decide_eq_false c9]
  by_cases c8 : a8 < 255
  · rw [decide_eq_true c8]
    have w : IntKind.wrap .u8 (a8 + 1) = a8 + 1 := wrap_u8 (by omega) (by omega)
    refine Eq.trans (show _ = some (SV.tup [hx (r1 [[a0], [a1], [a2], [a3], [a4], [a5], [a6], [a7], [IntKind.wrap .u8 (a8 + 1)], [0], [0], [0], [0]]) (r2 [[a0], [a1], [a2], [a3], [a4], [a5], [a6], [a7], [IntKind.wrap .u8 (a8 + 1)], [0], [0], [0], [0]]) (r3 [[a0], [a1], [a2], [a3], [a4], [a5], [a6], [a7], [IntKind.wrap .u8 (a8 + 1)], [0], [0], [0], [0]]) (r4 [[a0], [a1], [a2], [a3], [a4], [a5], [a6], [a7], [IntKind.wrap .u8 (a8 + 1)], [0], [0], [0], [0]]) (r5 [[a0], [a1], [a2], [a3], [a4], [a5], [a6], [a7], [IntKind.wrap .u8 (a8 + 1)], [0], [0], [0], [0]]), .bool true]) from rfl) ?_
    have R : nxH s d p q t = .tup [hx s d (p + 1) 0 0, .bool true] := by rw [show t = 255 by omega, show q = 65535 by omega]; exact nx_p (by omega) (by omega)
    rw [w, leafL u0 u1 u2 u3 u4 u5 u6 u7 ⟨by omega, by omega⟩ ⟨by omega, by omega⟩ ⟨by omega, by omega⟩ ⟨by omega, by omega⟩ [[a0], [a1], [a2], [a3], [a4], [a5], [a6], [a7], [a8 + 1], [0], [0], [0], [0]] rfl, R]
    exact hx_congr (by omega) (by omega) (by omega) (by omega) (by omega)
  rw [decide_eq_false c8]
  by_cases c7 : a7 < 255
  · rw [decide_eq_true c7]
    have w : IntKind.wrap .u8 (a7 + 1) = a7 + 1 := wrap_u8 (by omega) (by omega)
    refine Eq.trans (show _ = some (SV.tup [hx (r1 [[a0], [a1], [a2], [a3], [a4], [a5], [a6], [IntKind.wrap .u8 (a7 + 1)], [0], [0], [0], [0], [0]]) (r2 [[a0], [a1], [a2], [a3], [a4], [a5], [a6], [IntKind.wrap .u8 (a7 + 1)], [0], [0], [0], [0], [0]]) (r3 [[a0], [a1], [a2], [a3], [a4], [a5], [a6], [IntKind.wrap .u8 (a7 + 1)], [0], [0], [0], [0], [0]]) (r4 [[a0], [a1], [a2], [a3], [a4], [a5], [a6], [IntKind.wrap .u8 (a7 + 1)], [0], [0], [0], [0], [0]]) (r5 [[a0], [a1], [a2], [a3], [a4], [a5], [a6], [IntKind.wrap .u8 (a7 + 1)], [0], [0], [0], [0], [0]]), .bool true]) from rfl) ?_
    have R : nxH s d p q t = .tup [hx s (d + 1) 0 0 0, .bool true] := by rw [show t = 255 by omega, show q = 65535 by omega, show p = 65535 by omega]; exact nx_d (by omega) (by omega)
    rw [w, leafL u0 u1 u2 u3 u4 u5 u6 ⟨by omega, by omega⟩ ⟨by omega, by omega⟩ ⟨by omega, by omega⟩ ⟨by omega, by omega⟩ ⟨by omega, by omega⟩ [[a0], [a1], [a2], [a3], [a4], [a5], [a6], [a7 + 1], [0], [0], [0], [0], [0]] rfl, R]
    exact hx_congr (by omega) (by omega) (by omega) (by omega) (by omega)
  rw [decide_eq_false c7]
  by_cases c6 : a6 < 255
  · rw [decide_eq_true c6]
    have w : IntKind.wrap .u8 (a6 + 1) = a6 + 1 := wrap_u8 (by omega) (by omega)
    refine Eq.trans (show _ = some (SV.tup [hx (r1 [[a0], [a1], [a2], [a3], [a4], [a5], [IntKind.wrap .u8 (a6 + 1)], [0], [0], [0], [0], [0], [0]]) (r2 [[a0], [a1], [a2], [a3], [a4], [a5], [IntKind.wrap .u8 (a6 + 1)], [0], [0], [0], [0], [0], [0]]) (r3 [[a0], [a1], [a2], [a3], [a4], [a5], [IntKind.wrap .u8 (a6 + 1)], [0], [0], [0], [0], [0], [0]]) (r4 [[a0], [a1], [a2], [a3], [a4], [a5], [IntKind.wrap .u8 (a6 + 1)], [0], [0], [0], [0], [0], [0]]) (r5 [[a0], [a1], [a2], [a3], [a4], [a5], [IntKind.wrap .u8 (a6 + 1)], [0], [0], [0], [0], [0], [0]]), .bool true]) from rfl) ?_
    have R : nxH s d p q t = .tup [hx s (d + 1) 0 0 0, .bool true] := by rw [show t = 255 by omega, show q = 65535 by omega, show p = 65535 by omega]; exact nx_d (by omega) (by omega)
    rw [w, leafL u0 u1 u2 u3 u4 u5 ⟨by omega, by omega⟩ ⟨by omega, by omega⟩ ⟨by omega, by omega⟩ ⟨by omega, by omega⟩ ⟨by omega, by omega⟩ ⟨by omega, by omega⟩ [[a0], [a1], [a2], [a3], [a4], [a5], [a6 + 1], [0], [0], [0], [0], [0], [0]] rfl, R]
    exact hx_congr (by omega) (by omega) (by omega) (by omega) (by omega)
  rw [decide_eq_false c6]
  by_cases c5 : a5 < 255
  · rw [decide_eq_true c5]
    have w : IntKind.wrap .u8 (a5 + 1) = a5 + 1 := wrap_u8 (by omega) (by omega)
    refine Eq.trans (show _ = some (SV.tup [hx (r1 [[a0], [a1], [a2], [a3], [a4], [IntKind.wrap .u8 (a5 + 1)], [0], [0], [0], [0], [0], [0], [0]]) (r2 [[a0], [a1], [a2], [a3], [a4], [IntKind.wrap .u8 (a5 + 1)], [0], [0], [0], [0], [0], [0], [0]]) (r3 [[a0], [a1], [a2], [a3], [a4], [IntKind.wrap .u8 (a5 + 1)], [0], [0], [0], [0], [0], [0], [0]]) (r4 [[a0], [a1], [a2], [a3], [a4], [IntKind.wrap .u8 (a5 + 1)], [0], [0], [0], [0], [0], [0], [0]]) (r5 [[a0], [a1], [a2], [a3], [a4], [IntKind.wrap .u8 (a5 + 1)], [0], [0], [0], [0], [0], [0], [0]]), .bool true]) from rfl) ?_
    have R : nxH s d p q t = .tup [hx s (d + 1) 0 0 0, .bool true] := by rw [show t = 255 by omega, show q = 65535 by omega, show p = 65535 by omega]; exact nx_d (by omega) (by omega)
    rw [w, leafL u0 u1 u2 u3 u4 ⟨by omega, by omega⟩ ⟨by omega, by omega⟩ ⟨by omega, by omega⟩ ⟨by omega, by omega⟩ ⟨by omega, by omega⟩ ⟨by omega, by omega⟩ ⟨by omega, by omega⟩ [[a0], [a1], [a2], [a3], [a4], [a5 + 1], [0], [0], [0], [0], [0], [0], [0]] rfl, R]
    exact hx_congr (by omega) (by omega) (by omega) (by omega) (by omega)
  rw [decide_eq_false c5]
  by_cases c4 : a4 < 255
  · rw [decide_eq_true c4]
    have w : IntKind.wrap .u8 (a4 + 1) = a4 + 1 := wrap_u8 (by omega) (by omega)
    refine Eq.trans (show _ = some (SV.tup [hx (r1 [[a0], [a1], [a2], [a3], [IntKind.wrap .u8 (a4 + 1)], [0], [0], [0], [0], [0], [0], [0], [0]]) (r2 [[a0], [a1], [a2], [a3], [IntKind.wrap .u8 (a4 + 1)], [0], [0], [0], [0], [0], [0], [0], [0]]) (r3 [[a0], [a1], [a2], [a3], [IntKind.wrap .u8 (a4 + 1)], [0], [0], [0], [0], [0], [0], [0], [0]]) (r4 [[a0], [a1], [a2], [a3], [IntKind.wrap .u8 (a4 + 1)], [0], [0], [0], [0], [0], [0], [0], [0]]) (r5 [[a0], [a1], [a2], [a3], [IntKind.wrap .u8 (a4 + 1)], [0], [0], [0], [0], [0], [0], [0], [0]]), .bool true]) from rfl) ?_
    have R : nxH s d p q t = .tup [hx s (d + 1) 0 0 0, .bool true] := by rw [show t = 255 by omega, show q = 65535 by omega, show p = 65535 by omega]; exact nx_d (by omega) (by omega)
    rw [w, leafL u0 u1 u2 u3 ⟨by omega, by omega⟩ ⟨by omega, by omega⟩ ⟨by omega, by omega⟩ ⟨by omega, by omega⟩ ⟨by omega, by omega⟩ ⟨by omega, by omega⟩ ⟨by omega, by omega⟩ ⟨by omega, by omega⟩ [[a0], [a1], [a2], [a3], [a4 + 1], [0], [0], [0], [0], [0], [0], [0], [0]] rfl, R]
    exact hx_congr (by omega) (by omega) (by omega) (by omega) (by omega)
  rw [decide_eq_false c4]
  by_cases c3 : a3 < 255
  · rw [decide_eq_true c3]
    have w : IntKind.wrap .u8 (a3 + 1) = a3 + 1 := wrap_u8 (by omega) (by omega)
    refine Eq.trans (show _ = some (SV.tup [hx (r1 [[a0], [a1], [a2], [IntKind.wrap .u8 (a3 + 1)], [0], [0], [0], [0], [0], [0], [0], [0], [0]]) (r2 [[a0], [a1], [a2], [IntKind.wrap .u8 (a3 + 1)], [0], [0], [0], [0], [0], [0], [0], [0], [0]]) (r3 [[a0], [a1], [a2], [IntKind.wrap .u8 (a3 + 1)], [0], [0], [0], [0], [0], [0], [0], [0], [0]]) (r4 [[a0], [a1], [a2], [IntKind.wrap .u8 (a3 + 1)], [0], [0], [0], [0], [0], [0], [0], [0], [0]]) (r5 [[a0], [a1], [a2], [IntKind.wrap .u8 (a3 + 1)], [0], [0], [0], [0], [0], [0], [0], [0], [0]]), .bool true]) from rfl) ?_
    have R : nxH s d p q t = .tup [hx (s + 1) 0 0 0 0, .bool true] := by rw [show t = 255 by omega, show q = 65535 by omega, show p = 65535 by omega, show d = 4294967295 by omega]; exact nx_s (by omega) (by omega)
    rw [w, leafL u0 u1 u2 ⟨by omega, by omega⟩ ⟨by omega, by omega⟩ ⟨by omega, by omega⟩ ⟨by omega, by omega⟩ ⟨by omega, by omega⟩ ⟨by omega, by omega⟩ ⟨by omega, by omega⟩ ⟨by omega, by omega⟩ ⟨by omega, by omega⟩ [[a0], [a1], [a2], [a3 + 1], [0], [0], [0], [0], [0], [0], [0], [0], [0]] rfl, R]
    exact hx_congr (by omega) (by omega) (by omega) (by omega) (by omega)
  rw [decide_eq_false c3]
  by_cases c2 : a2 < 255
  · rw [decide_eq_true c2]
    have w : IntKind.wrap .u8 (a2 + 1) = a2 + 1 := wrap_u8 (by omega) (by omega)
    refine Eq.trans (show _ = some (SV.tup [hx (r1 [[a0], [a1], [IntKind.wrap .u8 (a2 + 1)], [0], [0], [0], [0], [0], [0], [0], [0], [0], [0]]) (r2 [[a0], [a1], [IntKind.wrap .u8 (a2 + 1)], [0], [0], [0], [0], [0], [0], [0], [0], [0], [0]]) (r3 [[a0], [a1], [IntKind.wrap .u8 (a2 + 1)], [0], [0], [0], [0], [0], [0], [0], [0], [0], [0]]) (r4 [[a0], [a1], [IntKind.wrap .u8 (a2 + 1)], [0], [0], [0], [0], [0], [0], [0], [0], [0], [0]]) (r5 [[a0], [a1], [IntKind.wrap .u8 (a2 + 1)], [0], [0], [0], [0], [0], [0], [0], [0], [0], [0]]), .bool true]) from rfl) ?_
    have R : nxH s d p q t = .tup [hx (s + 1) 0 0 0 0, .bool true] := by rw [show t = 255 by omega, show q = 65535 by omega, show p = 65535 by omega, show d = 4294967295 by omega]; exact nx_s (by omega) (by omega)
    rw [w, leafL u0 u1 ⟨by omega, by omega⟩ ⟨by omega, by omega⟩ ⟨by omega, by omega⟩ ⟨by omega, by omega⟩ ⟨by omega, by omega⟩ ⟨by omega, by omega⟩ ⟨by omega, by omega⟩ ⟨by omega, by omega⟩ ⟨by omega, by omega⟩ ⟨by omega, by omega⟩ [[a0], [a1], [a2 + 1], [0], [0], [0], [0], [0], [0], [0], [0], [0], [0]] rfl, R]
    exact hx_congr (by omega) (by omega) (by omega) (by omega) (by omega)
  rw [decide_eq_false c2]
  by_cases c1 : a1 < 255
  · rw [decide_eq_true c1]
    have w : IntKind.wrap .u8 (a1 + 1) = a1 + 1 := wrap_u8 (by omega) (by omega)
    refine Eq.trans (show _ = some (SV.tup [hx (r1 [[a0], [IntKind.wrap .u8 (a1 + 1)], [0], [0], [0], [0], [0], [0], [0], [0], [0], [0], [0]]) (r2 [[a0], [IntKind.wrap .u8 (a1 + 1)], [0], [0], [0], [0], [0], [0], [0], [0], [0], [0], [0]]) (r3 [[a0], [IntKind.wrap .u8 (a1 + 1)], [0], [0], [0], [0], [0], [0], [0], [0], [0], [0], [0]]) (r4 [[a0], [IntKind.wrap .u8 (a1 + 1)], [0], [0], [0], [0], [0], [0], [0], [0], [0], [0], [0]]) (r5 [[a0], [IntKind.wrap .u8 (a1 + 1)], [0], [0], [0], [0], [0], [0], [0], [0], [0], [0], [0]]), .bool true]) from rfl) ?_
    have R : nxH s d p q t = .tup [hx (s + 1) 0 0 0 0, .bool true] := by rw [show t = 255 by omega, show q = 65535 by omega, show p = 65535 by omega, show d = 4294967295 by omega]; exact nx_s (by omega) (by omega)
    rw [w, leafL u0 ⟨by omega, by omega⟩ ⟨by omega, by omega⟩ ⟨by omega, by omega⟩ ⟨by omega, by omega⟩ ⟨by omega, by omega⟩ ⟨by omega, by omega⟩ ⟨by omega, by omega⟩ ⟨by omega, by omega⟩ ⟨by omega, by omega⟩ ⟨by omega, by omega⟩ ⟨by omega, by omega⟩ [[a0], [a1 + 1], [0], [0], [0], [0], [0], [0], [0], [0], [0], [0], [0]] rfl, R]
    exact hx_congr (by omega) (by omega) (by omega) (by omega) (by omega)
  rw [decide_eq_false c1]
  by_cases c0 : a0 < 255
  · rw [decide_eq_true c0]
    have w : IntKind.wrap .u8 (a0 + 1) = a0 + 1 := wrap_u8 (by omega) (by omega)
    refine Eq.trans (show _ = some (SV.tup [hx (r1 [[IntKind.wrap .u8 (a0 + 1)], [0], [0], [0], [0], [0], [0], [0], [0], [0], [0], [0], [0]]) (r2 [[IntKind.wrap .u8 (a0 + 1)], [0], [0], [0], [0], [0], [0], [0], [0], [0], [0], [0], [0]]) (r3 [[IntKind.wrap .u8 (a0 + 1)], [0], [0], [0], [0], [0], [0], [0], [0], [0], [0], [0], [0]]) (r4 [[IntKind.wrap .u8 (a0 + 1)], [0], [0], [0], [0], [0], [0], [0], [0], [0], [0], [0], [0]]) (r5 [[IntKind.wrap .u8 (a0 + 1)], [0], [0], [0], [0], [0], [0], [0], [0], [0], [0], [0], [0]]), .bool true]) from rfl) ?_
    have R : nxH s d p q t = .tup [hx (s + 1) 0 0 0 0, .bool true] := by rw [show t = 255 by omega, show q = 65535 by omega, show p = 65535 by omega, show d = 4294967295 by omega]; exact nx_s (by omega) (by omega)
    rw [w, leafL ⟨by omega, by omega⟩ ⟨by omega, by omega⟩ ⟨by omega, by omega⟩ ⟨by omega, by omega⟩ ⟨by omega, by omega⟩ ⟨by omega, by omega⟩ ⟨by omega, by omega⟩ ⟨by omega, by omega⟩ ⟨by omega, by omega⟩ ⟨by omega, by omega⟩ ⟨by omega, by omega⟩ ⟨by omega, by omega⟩ [[a0 + 1], [0], [0], [0], [0], [0], [0], [0], [0], [0], [0], [0], [0]] rfl, R]
    exact hx_congr (by omega) (by omega) (by omega) (by omega) (by omega)
  rw [decide_eq_false c0]
  rw [show s = 4294967295 by omega, show d = 4294967295 by omega, show p = 65535 by omega, show q = 65535 by omega, show t = 255 by omega, nx_all]
  rfl
def gdH (s d p q t : Int) : Bool := decide ((0 ≤ s ∧ s < 4294967296) ∧ (0 ≤ d ∧ d < 4294967296) ∧ (0 ≤ p ∧ p < 65536) ∧ (0 ≤ q ∧ q < 65536) ∧ (0 ≤ t ∧ t < 256))
theorem S_rnext : SummT Try.prog 22 (sgH fun s d p q t => .when (gdH s d p q t) (.leaf (.tup [hx (n1 s d p q t) (n2 d p q t) (n3 p q t) (n4 q t) (n5 t), .bool (nb s d p q t)]))) := sgH.summ (evFn_summ (facts Gnx_ok) 2 22) (fun s d p q t sv h => by
  obtain ⟨h1, h2⟩ := GT.opt_when h
  obtain ⟨b1, b2, b3, b4, b5⟩ := of_decide_eq_true h1
  exact ((e_rnext yS r1 r2 r3 r4 r5 s d p q t).trans (rnext_eq b1 b2 b3 b4 b5)).trans h2)
end Go.Sx.Mk


/- Layer 6: HeaderNexts, the law. -/
namespace Go.Sx.Mk
open Go.Proofs Go.RowKit
noncomputable def Gln (g m : Int → Int → Int → Int → Int → Bool) (m1 m2 : Int → Int → Int → Int → Int → Int) (m3 : Int → Int → Int → Int) (m4 : Int → Int → Int) (m5 : Int → Int) : FuncId → Option (List SV → GT SV)
  | 11 => some (sg0 (.leaf (.bool true)))
  | 21 => some (sgH fun s d p q t => .leaf (.tup [hx (m1 s d p q t) (m2 s d p q t) (m3 p q t) (m4 q t) (m5 t), .bool (m s d p q t)]))
  | 22 => some (sgH fun s d p q t => .when (g s d p q t) (.leaf (.tup [hx (m1 s d p q t) (m2 s d p q t) (m3 p q t) (m4 q t) (m5 t), .bool (m s d p q t)])))
  | _ => none
theorem Gln_ok : ∀ g s, Gln gdH nb n1 (fun _ d p q t => n2 d p q t) n3 n4 n5 g = some s → SummT Try.prog g s := fun g s h => by
  unfold Gln at h
  split at h
  · cases h; exact S_awake
  · cases h; exact S_next
  · cases h; exact S_rnext
  · cases h
noncomputable def T_lnx (g m : Int → Int → Int → Int → Int → Bool) (m1 m2 : Int → Int → Int → Int → Int → Int) (m3 : Int → Int → Int → Int) (m4 : Int → Int → Int) (m5 : Int → Int) (s d p q t : Int) : GT SV := GT.br (g s d p q t)
    (GT.br
      (m1 s d p q t == m1 s d p q t &&
        (m2 s d p q t == m2 s d p q t && (m3 p q t == m3 p q t && (m4 q t == m4 q t && (m5 t == m5 t && true)))))
      (GT.br (m s d p q t == m s d p q t) (GT.leaf (SV.bool true)) (GT.leaf (SV.bool false))) (GT.leaf (SV.bool false)))
    GT.stop
theorem e_lnx (g m : Int → Int → Int → Int → Int → Bool) (m1 m2 : Int → Int → Int → Int → Int → Int) (m3 : Int → Int → Int → Int) (m4 : Int → Int → Int) (m5 : Int → Int) (s d p q t : Int) : ev (Gln g m m1 m2 m3 m4 m5) 1 5 [hx s d p q t] = (T_lnx g m m1 m2 m3 m4 m5 s d p q t).opt := by kernel_rfl
theorem nexts {s d p q t : Int} (hs : U32 s) (hd : U32 d) (hp : U16 p) (hq : U16 q) (ht : U8 t) : (T_lnx gdH nb n1 (fun _ d p q t => n2 d p q t) n3 n4 n5 s d p q t).opt = some (.bool true) := by
  have hg : gdH s d p q t = true := decide_eq_true ⟨hs, hd, hp, hq, ht⟩
  unfold T_lnx
  rw [hg]
  simp only [BEq.rfl, Bool.and_true]
  cases nb s d p q t <;> rfl
noncomputable def evNexts (svs : List SV) : Option SV := ev (Gln gdH nb n1 (fun _ d p q t => n2 d p q t) n3 n4 n5) 1 5 svs
theorem LNexts.summ : Summ Try.prog 5 evNexts := evFn_summ (facts Gln_ok) 1 5
theorem LNexts.ok (s d p q t : Int) (hs : U32 s) (hd : U32 d) (hp : U16 p) (hq : U16 q) (ht : U8 t) : evNexts [hx s d p q t] = some (.bool true) := (e_lnx gdH nb n1 (fun _ d p q t => n2 d p q t) n3 n4 n5 s d p q t).trans (nexts hs hd hp hq ht)
end Go.Sx.Mk


/- Layer 6: Compare. -/
namespace Go.Sx.Mk
open Go.Proofs Go.RowKit
noncomputable def Gcp (c32 c16 c8 : Int → Int → Int) (o5 : Int → Int → Int → Int → Int → Int) : FuncId → Option (List SV → GT SV)
  | 35 => some (sgU2 fun a b => .leaf (.int .i64 (c32 a b)))
  | 36 => some (sgX2 fun a b => .leaf (.int .i64 (c16 a b)))
  | 37 => some (sgY2 fun a b => .leaf (.int .i64 (c8 a b)))
  | 34 => some (sgO5 fun a b c d e => .leaf (.int .i64 (o5 a b c d e)))
  | _ => none
theorem Gcp_ok : ∀ g s, Gcp cmpV cmpV cmpV or5 g = some s → SummT Try.prog g s := fun g s h => by
  unfold Gcp at h
  split at h
  · cases h; exact S_c32
  · cases h; exact S_c16
  · cases h; exact S_c8
  · cases h; exact S_or5
  · cases h
noncomputable def T_cmp (c32 c16 c8 : Int → Int → Int) (o5 : Int → Int → Int → Int → Int → Int) (s d p q t s' d' p' q' t' : Int) : GT SV := GT.leaf (SV.int IntKind.i64 (o5 (c32 s s') (c32 d d') (c16 p p') (c16 q q') (c8 t t')))
theorem e_cmp (c32 c16 c8 : Int → Int → Int) (o5 : Int → Int → Int → Int → Int → Int) (s d p q t s' d' p' q' t' : Int) : ev (Gcp c32 c16 c8 o5) 2 17 [hx s d p q t, hx s' d' p' q' t'] = (T_cmp c32 c16 c8 o5 s d p q t s' d' p' q' t').opt := by kernel_rfl
noncomputable def T_rcmp (s d p q t s' d' p' q' t' : Int) : GT SV := GT.br (decide (s < s')) (GT.leaf (SV.int IntKind.i64 (-1 : Int)))
    (GT.br (decide (s' < s)) (GT.leaf (SV.int IntKind.i64 (1 : Int)))
      (GT.br (decide (d < d')) (GT.leaf (SV.int IntKind.i64 (-1 : Int)))
        (GT.br (decide (d' < d)) (GT.leaf (SV.int IntKind.i64 (1 : Int)))
          (GT.br
            (decide ([IntKind.u32.wrap p].getD (0 : Nat) (0 : Int) < [IntKind.u32.wrap p'].getD (0 : Nat) (0 : Int)))
            (GT.leaf (SV.int IntKind.i64 (-1 : Int)))
            (GT.br
              (decide ([IntKind.u32.wrap p'].getD (0 : Nat) (0 : Int) < [IntKind.u32.wrap p].getD (0 : Nat) (0 : Int)))
              (GT.leaf (SV.int IntKind.i64 (1 : Int)))
              (GT.br
                (decide
                  ([IntKind.u32.wrap q].getD (0 : Nat) (0 : Int) < [IntKind.u32.wrap q'].getD (0 : Nat) (0 : Int)))
                (GT.leaf (SV.int IntKind.i64 (-1 : Int)))
                (GT.br
                  (decide
                    ([IntKind.u32.wrap q'].getD (0 : Nat) (0 : Int) < [IntKind.u32.wrap q].getD (0 : Nat) (0 : Int)))
                  (GT.leaf (SV.int IntKind.i64 (1 : Int)))
                  (GT.br
                    (decide
                      ([IntKind.u32.wrap t].getD (0 : Nat) (0 : Int) < [IntKind.u32.wrap t'].getD (0 : Nat) (0 : Int)))
                    (GT.leaf (SV.int IntKind.i64 (-1 : Int)))
                    (GT.br
                      (decide
                        ([IntKind.u32.wrap t'].getD (0 : Nat) (0 : Int) <
                          [IntKind.u32.wrap t].getD (0 : Nat) (0 : Int)))
                      (GT.leaf (SV.int IntKind.i64 (1 : Int))) (GT.leaf (SV.int IntKind.i64 (0 : Int))))))))))))
theorem e_rcmp (s d p q t s' d' p' q' t' : Int) : ev G0 2 18 [hx s d p q t, hx s' d' p' q' t'] = (T_rcmp s d p q t s' d' p' q' t').opt := by kernel_rfl
def cm10 (s d p q t s' d' p' q' t' : Int) : Int := or5 (cmpV s s') (cmpV d d') (cmpV p p') (cmpV q q') (cmpV t t')
theorem S_cmp : SummT Try.prog 17 (sgHH fun s d p q t s' d' p' q' t' => .leaf (.int .i64 (cm10 s d p q t s' d' p' q' t'))) := sgHH.summ (evFn_summ (facts Gcp_ok) 2 17) (fun s d p q t s' d' p' q' t' sv h => (e_cmp cmpV cmpV cmpV or5 s d p q t s' d' p' q' t').trans h)
theorem rcmp_eq {s d p q t s' d' p' q' t' : Int} (hp : U16 p) (hq : U16 q) (ht : U8 t) (hp' : U16 p') (hq' : U16 q') (ht' : U8 t') : (T_rcmp s d p q t s' d' p' q' t').opt = some (.int .i64 (cm10 s d p q t s' d' p' q' t')) := by
  unfold U16 at hp hq hp' hq'
  unfold U8 at ht ht'
  have w : ∀ n : Int, 0 ≤ n → n < 65536 → IntKind.wrap .u32 n = n := fun n h0 h1 => wrap_u32 h0 (by omega)
  unfold T_rcmp
  simp only [List.getD_cons_zero]
  rw [w p hp.1 hp.2, w q hq.1 hq.2, w t ht.1 (by omega), w p' hp'.1 hp'.2, w q' hq'.1 hq'.2, w t' ht'.1 (by omega)]
  unfold cm10 or5 cmpV
  cases decide (s < s')
  rotate_left
  · rfl
  cases decide (s' < s)
  rotate_left
  · rfl
  cases decide (d < d')
  rotate_left
  · rfl
  cases decide (d' < d)
  rotate_left
  · rfl
  cases decide (p < p')
  rotate_left
  · rfl
  cases decide (p' < p)
  rotate_left
  · rfl
  cases decide (q < q')
  rotate_left
  · rfl
  cases decide (q' < q)
  rotate_left
  · rfl
  cases decide (t < t')
  rotate_left
  · rfl
  cases decide (t' < t)
  rotate_left
  · rfl
  rfl
def gdHH (s d p q t s' d' p' q' t' : Int) : Bool := gdH s d p q t && gdH s' d' p' q' t'
theorem S_rcmp : SummT Try.prog 18 (sgHH fun s d p q t s' d' p' q' t' => .when (gdHH s d p q t s' d' p' q' t') (.leaf (.int .i64 (cm10 s d p q t s' d' p' q' t')))) := sgHH.summ (evFn_summ (facts G0_ok) 2 18) (fun s d p q t s' d' p' q' t' sv h => by
  obtain ⟨h1, h2⟩ := GT.opt_when h
  unfold gdHH at h1
  rw [Bool.and_eq_true] at h1
  obtain ⟨_, _, b3, b4, b5⟩ := of_decide_eq_true h1.1
  obtain ⟨_, _, c3, c4, c5⟩ := of_decide_eq_true h1.2
  exact ((e_rcmp s d p q t s' d' p' q' t').trans (rcmp_eq b3 b4 b5 c3 c4 c5)).trans h2)
end Go.Sx.Mk


/- Layer 6: the first bit in which two bytes differ. -/
namespace Go.Sx.Mk
open Go.Proofs Go.RowKit
theorem bits_xor {a b : Nat} (ha : a < 256) (hb : b < 256) : Go.bits .xor .u8 a b = ((a ^^^ b : Nat) : Int) := by
  have h : a ^^^ b < 256 := Nat.xor_lt_two_pow (n := 8) ha hb
  show IntKind.wrap .u8 (((BitVec.ofInt 8 (a : Int) ^^^ BitVec.ofInt 8 (b : Int)).toNat : Nat) : Int) = _
  have : (BitVec.ofInt 8 (a : Int) ^^^ BitVec.ofInt 8 (b : Int)).toNat = a ^^^ b := by
    simp [BitVec.toNat_ofNat, Nat.mod_eq_of_lt ha, Nat.mod_eq_of_lt hb]
  rw [this]
  simp [IntKind.wrap, IntKind.signed, IntKind.bits]
  omega
def q6 (a k : Int) : Int := ((IntKind.wrap .i64 a).fdiv k).tmod 2
theorem q6_eq {a : Nat} (ha : a < 256) (k : Nat) : q6 a ((2 ^ k : Nat) : Int) = ((a / 2 ^ k % 2 : Nat) : Int) := by
  unfold q6
  rw [wrap_i64 (by omega) (by omega), Int.fdiv_eq_ediv_of_nonneg _ (Int.natCast_nonneg _), ← Int.natCast_ediv, Int.tmod_eq_emod_of_nonneg (Int.natCast_nonneg _)]
  rfl
theorem q6_ne {a b : Nat} (ha : a < 256) (hb : b < 256) (k : Nat) : (q6 a ((2 ^ k : Nat) : Int) != q6 b ((2 ^ k : Nat) : Int)) = (a ^^^ b).testBit k := by
  rw [q6_eq ha, q6_eq hb, Nat.testBit_xor, Nat.testBit_eq_decide_div_mod_eq, Nat.testBit_eq_decide_div_mod_eq]
  rcases Nat.mod_two_eq_zero_or_one (a / 2 ^ k) with h1 | h1 <;> rcases Nat.mod_two_eq_zero_or_one (b / 2 ^ k) with h2 | h2 <;> rw [h1, h2] <;> rfl
/-- the eight questions about a byte -/
def rdB (a b n : Int) (rest : GT SV) : GT SV :=
  .br (q6 a 128 != q6 b 128) (.leaf (.int .i64 n)) (.br (q6 a 64 != q6 b 64) (.leaf (.int .i64 (n + 1))) (.br (q6 a 32 != q6 b 32) (.leaf (.int .i64 (n + 2))) (.br (q6 a 16 != q6 b 16) (.leaf (.int .i64 (n + 3)))
  (.br (q6 a 8 != q6 b 8) (.leaf (.int .i64 (n + 4))) (.br (q6 a 4 != q6 b 4) (.leaf (.int .i64 (n + 5))) (.br (q6 a 2 != q6 b 2) (.leaf (.int .i64 (n + 6))) (.br (q6 a 1 != q6 b 1) (.leaf (.int .i64 (n + 7))) rest)))))))
def fdX (x : Nat) : Int := sure (x.testBit 7) 0 (sure (x.testBit 6) 1 (sure (x.testBit 5) 2 (sure (x.testBit 4) 3 (sure (x.testBit 3) 4 (sure (x.testBit 2) 5 (sure (x.testBit 1) 6 7))))))
theorem lz_tab : (List.range 255).all (fun x => lz8 ((x + 1 : Nat) : Int) == fdX (x + 1)) = true := by kernel_rfl
theorem lz_eq {x : Nat} (h0 : x ≠ 0) (h : x < 256) : lz8 (x : Int) = fdX x := by
  have := List.all_eq_true.1 lz_tab (x - 1) (by simp; omega)
  rw [show x - 1 + 1 = x by omega] at this
  exact eq_of_beq this
theorem some_bit : (List.range 255).all (fun x => (x + 1).testBit 7 || ((x + 1).testBit 6 || ((x + 1).testBit 5 || ((x + 1).testBit 4 || ((x + 1).testBit 3 || ((x + 1).testBit 2 || ((x + 1).testBit 1 || (x + 1).testBit 0))))))) = true := by kernel_rfl
theorem rdB_eq {a b : Nat} (ha : a < 256) (hb : b < 256) (n : Int) (rest : GT SV) : (rdB a b n rest).opt = if a = b then rest.opt else some (.int .i64 (n + lz8 (Go.bits .xor .u8 a b))) := by
  unfold rdB
  have e := fun k => q6_ne ha hb k
  have e7 : (q6 a 128 != q6 b 128) = (a ^^^ b).testBit 7 := e 7
  have e6 : (q6 a 64 != q6 b 64) = (a ^^^ b).testBit 6 := e 6
  have e5 : (q6 a 32 != q6 b 32) = (a ^^^ b).testBit 5 := e 5
  have e4 : (q6 a 16 != q6 b 16) = (a ^^^ b).testBit 4 := e 4
  have e3 : (q6 a 8 != q6 b 8) = (a ^^^ b).testBit 3 := e 3
  have e2 : (q6 a 4 != q6 b 4) = (a ^^^ b).testBit 2 := e 2
  have e1 : (q6 a 2 != q6 b 2) = (a ^^^ b).testBit 1 := e 1
  have e0 : (q6 a 1 != q6 b 1) = (a ^^^ b).testBit 0 := e 0
  rw [e7, e6, e5, e4, e3, e2, e1, e0, bits_xor ha hb]
  have hx : a ^^^ b < 2 ^ 8 := Nat.xor_lt_two_pow (n := 8) ha hb
  by_cases h : a = b
  · subst h
    rw [if_pos rfl, Nat.xor_self]
    rfl
  · rw [if_neg h]
    have h0 : a ^^^ b ≠ 0 := fun h' => h (Nat.eq_of_testBit_eq fun i => by
      have h2 := congrArg (fun x => x.testBit i) h'
      simp only [Nat.testBit_xor, Nat.zero_testBit] at h2
      cases ha1 : a.testBit i <;> cases hb1 : b.testBit i <;> rw [ha1, hb1] at h2 <;> first | rfl | cases h2)
    rw [lz_eq h0 (by omega)]
    unfold fdX
    generalize a ^^^ b = x at h0 hx
    have hs := List.all_eq_true.1 some_bit (x - 1) (by simp; omega)
    rw [show x - 1 + 1 = x by omega] at hs
    cases h7 : x.testBit 7
    rotate_left
    · show some (SV.int .i64 n) = some (SV.int .i64 (n + 0))
      rw [Int.add_zero]
    cases h6 : x.testBit 6
    rotate_left
    · rfl
    cases h5 : x.testBit 5
    rotate_left
    · rfl
    cases h4 : x.testBit 4
    rotate_left
    · rfl
    cases h3 : x.testBit 3
    rotate_left
    · rfl
    cases h2 : x.testBit 2
    rotate_left
    · rfl
    cases h1 : x.testBit 1
    rotate_left
    · rfl
    rw [h7, h6, h5, h4, h3, h2, h1] at hs
    have h0' : x.testBit 0 = true := hs
    rw [h0']
    rfl
end Go.Sx.Mk
