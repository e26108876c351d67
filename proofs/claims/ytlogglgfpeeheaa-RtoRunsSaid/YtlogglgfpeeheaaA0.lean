import Derived.Test.YtlogglgfpeeheaaA1
namespace Go.Proofs.Ytlogglgfpeeheaa
open Go Go.RowKit Cav
/-- Two clocks beside each other. -/
theorem pev_eql0 (x y : Operand) (g : Operand → Value) (o : Oper) (n) (ho : o.op = .binOp .eql 25 x y n) (s p t s' p' t' : Int) (hx : g x = .agg #[.int .i64 s, .int .i64 p, .int .i64 t]) (hy : g y = .agg #[.int .i64 s', .int .i64 p', .int .i64 t']) :
    pev Try.prog (execOp g o) = some (.value (.bool (s == s' && (p == p' && t == t')))) := by
  refine pev_eq fun w => ?_
  unfold execOp
  rw [ho]
  simp only []
  rw [hx, hy]
  simp [go_sem]
  by_cases h1 : s = s' <;> by_cases h2 : p = p' <;> by_cases h3 : t = t' <;> simp [h1, h2, h3]

def isClk (v : Value) : Bool := (asClk (.v v)).isSome
def clkEq (a b : Value) : Bool := match asClk (.v a), asClk (.v b) with
  | some (s, p, t), some (s', p', t') => (s == s' && (p == p' && t == t'))
  | _, _ => false
@[simp] theorem pev_eql (x y : Operand) (g : Operand → Value) (d : Option Tmp) (n ty : TypeId) (pos : String) (af : Array Edge) (gu : Option (Nat × Bool)) (hx : isClk (g x) = true) (hy : isClk (g y) = true) :
    pev Try.prog (execOp g ⟨d, .binOp .eql 25 x y n, ty, pos, af, gu⟩) = some (.value (.bool (clkEq (g x) (g y)))) := by
  unfold isClk at hx hy
  cases e1 : asClk (.v (g x)) with
  | none => rw [e1] at hx; cases hx
  | some q =>
    cases e2 : asClk (.v (g y)) with
    | none => rw [e2] at hy; cases hy
    | some q' =>
      obtain ⟨s, p, t⟩ := q
      obtain ⟨s', p', t'⟩ := q'
      have h1 := asClk_eq e1
      have h2 := asClk_eq e2
      simp only [clk, AV.v.injEq] at h1 h2
      rw [pev_eql0 x y g _ n rfl s p t s' p' t' h1 h2]
      simp [clkEq, e1, e2]
theorem _root_.Cav.operands_bin (b : BinOp) (t : TypeId) (x y : Operand) (n : TypeId) : (Op.binOp b t x y n).operands = #[x, y] := rfl
attribute [simp] isClk clkEq asClk Cav.operands_bin
end Go.Proofs.Ytlogglgfpeeheaa
