import Derived.Test.YtkjodjaamjnejaaK15
import Derived.Test.YtkjodjaamjnejaaP1
import Derived.Test.YtkjodjaamjnejaaP17
import Derived.Test.YtkjodjaamjnejaaP13
set_option linter.all false
set_option linter.all false
namespace Go.Proofs.Ytkjodjaamjnejaa
open Go Go.RowKit Caw
theorem prun_map {α β : Type} (f : α → β) (s : Sem α) : prun Try.prog (f <$> s) = (prun Try.prog s).map f := by
  show prun Try.prog (s >>= fun x => pure (f x)) = _
  rw [prun_bind]
  cases prun Try.prog s <;> rfl
theorem prun_prog : prun Try.prog program = some Try.prog := rfl
theorem stood42 : Try.prog.stoodInHeld 42 = false := by kernel_rfl
theorem stood35 : Try.prog.stoodInHeld 35 = false := by kernel_rfl
theorem eq_clock (d : Nat) (a b c : Int) : prun Try.prog (Op.equalIn (d + 2) 42 (.agg #[.int .i64 a, .int .i64 b, .int .i64 c]) (.agg #[.int .i64 a, .int .i64 b, .int .i64 c])) = some true := by
  have p0 : prun Try.prog (part 2 #[.int .i64 a, .int .i64 b, .int .i64 c] 0) = some (.int .i64 a) := by kernel_rfl
  have p1 : prun Try.prog (part 2 #[.int .i64 a, .int .i64 b, .int .i64 c] 1) = some (.int .i64 b) := by kernel_rfl
  have p2 : prun Try.prog (part 2 #[.int .i64 a, .int .i64 b, .int .i64 c] 2) = some (.int .i64 c) := by kernel_rfl
  rw [Op.equalIn, prun_bind, prun_und Try.underlying42]
  simp [prun_bind, prun_pure, prun_prog, stood42, p0, p1, p2, eq_int Try.underlying2]
theorem eq_ip (d : Nat) (a b c e : Int) : prun Try.prog (Op.equalIn (d + 2) 32 (.agg #[.int .u8 a, .int .u8 b, .int .u8 c, .int .u8 e]) (.agg #[.int .u8 a, .int .u8 b, .int .u8 c, .int .u8 e])) = some true := by
  have p0 : prun Try.prog (part 5 #[.int .u8 a, .int .u8 b, .int .u8 c, .int .u8 e] 0) = some (.int .u8 a) := by kernel_rfl
  have p1 : prun Try.prog (part 5 #[.int .u8 a, .int .u8 b, .int .u8 c, .int .u8 e] 1) = some (.int .u8 b) := by kernel_rfl
  have p2 : prun Try.prog (part 5 #[.int .u8 a, .int .u8 b, .int .u8 c, .int .u8 e] 2) = some (.int .u8 c) := by kernel_rfl
  have p3 : prun Try.prog (part 5 #[.int .u8 a, .int .u8 b, .int .u8 c, .int .u8 e] 3) = some (.int .u8 e) := by kernel_rfl
  have ps : prun Try.prog (Go.sizeOf 5) = some 1 := by kernel_rfl
  rw [Op.equalIn, prun_bind, prun_und Try.underlying32]
  simp [prun_bind, prun_pure, prun_prog, ps, p0, p1, p2, p3, eq_int Try.underlying5, List.range', Std.Legacy.Range.forIn_eq_forIn_range']
theorem eq_addr (d : Nat) (a b c e p : Int) : prun Try.prog (Op.equalIn (d + 3) 35 (.agg #[.int .u8 a, .int .u8 b, .int .u8 c, .int .u8 e, .int .u16 p]) (.agg #[.int .u8 a, .int .u8 b, .int .u8 c, .int .u8 e, .int .u16 p])) = some true := by
  have p0 : prun Try.prog (part 32 #[.int .u8 a, .int .u8 b, .int .u8 c, .int .u8 e, .int .u16 p] 0) = some (.agg #[.int .u8 a, .int .u8 b, .int .u8 c, .int .u8 e]) := by kernel_rfl
  have p1 : prun Try.prog (part 33 #[.int .u8 a, .int .u8 b, .int .u8 c, .int .u8 e, .int .u16 p] 4) = some (.int .u16 p) := by kernel_rfl
  rw [Op.equalIn, prun_bind, prun_und Try.underlying35]
  simp [prun_bind, prun_pure, prun_prog, stood35, p0, p1, eq_int Try.underlying33, eq_ip]
@[simp] theorem ops_eq35 (x y : Operand) (n : TypeId) : (Op.binOp .eql 35 x y n).operands = #[x, y] := by simp [Op.operands]
@[simp] theorem ops_eq42 (x y : Operand) (n : TypeId) : (Op.binOp .eql 42 x y n).operands = #[x, y] := by simp [Op.operands]
def asAd : Value → Option (Int × Int × Int × Int × Int)
  | .agg a => match a.toList with
    | [.int .u8 a, .int .u8 b, .int .u8 c, .int .u8 d, .int .u16 p] => some (a, b, c, d, p)
    | _ => none
  | _ => none
theorem asAd_eq {v : Value} {a b c d p : Int} (h : asAd v = some (a, b, c, d, p)) : v = .agg #[.int .u8 a, .int .u8 b, .int .u8 c, .int .u8 d, .int .u16 p] := by
  unfold asAd at h
  split at h
  · rename_i xs
    split at h
    · rename_i e
      obtain ⟨l⟩ := xs
      simp only at e
      cases h
      rw [e]
    · cases h
  · cases h
def asCk : Value → Option (Int × Int × Int)
  | .agg a => match a.toList with
    | [.int .i64 a, .int .i64 b, .int .i64 c] => some (a, b, c)
    | _ => none
  | _ => none
theorem asCk_eq {v : Value} {a b c : Int} (h : asCk v = some (a, b, c)) : v = .agg #[.int .i64 a, .int .i64 b, .int .i64 c] := by
  unfold asCk at h
  split at h
  · rename_i xs
    split at h
    · rename_i e
      obtain ⟨l⟩ := xs
      simp only at e
      cases h
      rw [e]
    · cases h
  · cases h
@[simp] theorem prun_addr (g : Operand → Value) (x y : Operand) (dd : Option Tmp) (n ty : TypeId) (pos : String) (af : Array Edge) (gu : Option (Nat × Bool)) (h1 : (asAd (g x)).isSome = true) (h2 : asAd (g y) = asAd (g x)) :
    prun Try.prog (execOp g ⟨dd, .binOp .eql 35 x y n, ty, pos, af, gu⟩) = some (.value (.bool true)) := by
  obtain ⟨⟨a, b, c, e, p⟩, hx⟩ := Option.isSome_iff_exists.1 h1
  have hy := h2.trans hx
  have ex := asAd_eq hx
  have ey := asAd_eq hy
  have g0 : prun Try.prog (eqGuard .eql 35 x y (.agg #[.int .u8 a, .int .u8 b, .int .u8 c, .int .u8 e, .int .u16 p]) (.agg #[.int .u8 a, .int .u8 b, .int .u8 c, .int .u8 e, .int .u16 p])) = some () := by kernel_rfl
  have g1 : prun Try.prog (Op.equal 35 (.agg #[.int .u8 a, .int .u8 b, .int .u8 c, .int .u8 e, .int .u16 p]) (.agg #[.int .u8 a, .int .u8 b, .int .u8 c, .int .u8 e, .int .u16 p])) = some true := eq_addr 9997 a b c e p
  unfold execOp
  simp only []
  rw [ex, ey]
  simp [prun_bind, prun_pure, prun_map, g0, binOp, g1]
@[simp] theorem prun_clock (g : Operand → Value) (x y : Operand) (dd : Option Tmp) (n ty : TypeId) (pos : String) (af : Array Edge) (gu : Option (Nat × Bool)) (h1 : (asCk (g x)).isSome = true) (h2 : asCk (g y) = asCk (g x)) :
    prun Try.prog (execOp g ⟨dd, .binOp .eql 42 x y n, ty, pos, af, gu⟩) = some (.value (.bool true)) := by
  obtain ⟨⟨a, b, c⟩, hx⟩ := Option.isSome_iff_exists.1 h1
  have hy := h2.trans hx
  have ex := asCk_eq hx
  have ey := asCk_eq hy
  have g0 : prun Try.prog (eqGuard .eql 42 x y (.agg #[.int .i64 a, .int .i64 b, .int .i64 c]) (.agg #[.int .i64 a, .int .i64 b, .int .i64 c])) = some () := by kernel_rfl
  have g1 : prun Try.prog (Op.equal 42 (.agg #[.int .i64 a, .int .i64 b, .int .i64 c]) (.agg #[.int .i64 a, .int .i64 b, .int .i64 c])) = some true := eq_clock 9998 a b c
  unfold execOp
  simp only []
  rw [ex, ey]
  simp [prun_bind, prun_pure, prun_map, g0, binOp, g1]
end Go.Proofs.Ytkjodjaamjnejaa

set_option linter.all false
namespace Go.Proofs.Ytkjodjaamjnejaa
open Go Go.RowKit Caw
theorem eq_two (d : Nat) (a b : Int) : prun Try.prog (Op.equalIn (d + 2) 29 (.agg #[.int .i64 a, .int .i64 b]) (.agg #[.int .i64 a, .int .i64 b])) = some true := by
  have p0 : prun Try.prog (part 3 #[.int .i64 a, .int .i64 b] 0) = some (.int .i64 a) := by kernel_rfl
  have p1 : prun Try.prog (part 3 #[.int .i64 a, .int .i64 b] 1) = some (.int .i64 b) := by kernel_rfl
  have ps : prun Try.prog (Go.sizeOf 3) = some 1 := by kernel_rfl
  rw [Op.equalIn, prun_bind, prun_und Try.underlying29]
  simp [prun_bind, prun_pure, prun_prog, ps, p0, p1, eq_int Try.underlying3, List.range', Std.Legacy.Range.forIn_eq_forIn_range']
@[simp] theorem ops_eq29 (x y : Operand) (n : TypeId) : (Op.binOp .eql 29 x y n).operands = #[x, y] := by simp [Op.operands]
def asTw : Value → Option (Int × Int)
  | .agg a => match a.toList with
    | [.int .i64 a, .int .i64 b] => some (a, b)
    | _ => none
  | _ => none
theorem asTw_eq {v : Value} {a b : Int} (h : asTw v = some (a, b)) : v = .agg #[.int .i64 a, .int .i64 b] := by
  unfold asTw at h
  split at h
  · rename_i xs
    split at h
    · rename_i e
      obtain ⟨l⟩ := xs
      simp only at e
      cases h
      rw [e]
    · cases h
  · cases h
@[simp] theorem prun_two (g : Operand → Value) (x y : Operand) (dd : Option Tmp) (n ty : TypeId) (pos : String) (af : Array Edge) (gu : Option (Nat × Bool)) (h1 : (asTw (g x)).isSome = true) (h2 : asTw (g y) = asTw (g x)) :
    prun Try.prog (execOp g ⟨dd, .binOp .eql 29 x y n, ty, pos, af, gu⟩) = some (.value (.bool true)) := by
  obtain ⟨⟨a, b⟩, hx⟩ := Option.isSome_iff_exists.1 h1
  have hy := h2.trans hx
  have ex := asTw_eq hx
  have ey := asTw_eq hy
  have g0 : prun Try.prog (eqGuard .eql 29 x y (.agg #[.int .i64 a, .int .i64 b]) (.agg #[.int .i64 a, .int .i64 b])) = some () := by kernel_rfl
  have g1 : prun Try.prog (Op.equal 29 (.agg #[.int .i64 a, .int .i64 b]) (.agg #[.int .i64 a, .int .i64 b])) = some true := eq_two 9998 a b
  unfold execOp
  simp only []
  rw [ex, ey]
  simp [prun_bind, prun_pure, prun_map, g0, binOp, g1]
end Go.Proofs.Ytkjodjaamjnejaa

-- Printed by genwalk.py.
namespace Go.Proofs.Ytkjodjaamjnejaa
open Go Go.RowKit Caw
set_option linter.unusedSimpArgs false
set_option linter.unusedVariables false
set_option maxRecDepth 100000

-- caravel/caravellaw19.TcbQuiet
theorem g3 : GOk1 Try.prog (ctxOf [(11, F11), (12, F12), (13, F13), (14, F14), (15, F15)]) := gok_cons spec11 en11 (gok_cons spec12 en12 (gok_cons spec13 en13 (gok_cons spec14 en14 (gok_cons spec15 en15 (gok_nil)))))
set_option maxHeartbeats 20000000 in
theorem at3 (first : Caw.Two) (text : Caw.TwoB) (hpre : TwoOk first) : SpecAt Try.prog 3 [.agg (twoCells first), .agg (twoBCells text)] (.v (.bool true)) none := by
  by_cases hA : (600 : Int) < text.a.length
  · refine specAt_of_tri Try.func3 rfl (Nat.le_of_ble_eq_true rfl) ?_
    all_goals (repeat' (first
      | (refine tri_condT (b_true (by simp; with_reducible exact IsB.mk)) ?_)
      | (refine th_r ?_)
      | (refine tri_ret ?_)
      | (refine tri_step (id := 0) (C := ⟨[], [13, 14, 15], [(6, (7, 0, 0)), (41, (4, 0, 0)), (47, (30, 0, 0)), (56, (30, 0, 0)), (62, (30, 0, 0)), (95, (30, 0, 0)), (100, (30, 0, 0)), (103, (7, 0, 0)), (105, (12, 0, 0)), (109, (7, 0, 0)), (129, (30, 0, 0)), (136, (30, 0, 0)), (138, (4, 0, 0)), (147, (30, 0, 0)), (149, (4, 0, 0)), (156, (4, 0, 0)), (159, (4, 0, 0)), (170, (30, 0, 0)), (179, (30, 0, 0))]⟩) [2, 3] [(3, 0, 0), (4, 0, 0)] g3 nodraw ?_; refine ⟨_, by (simp [*, F11, F12, F13, F14, F15, undef, twoBCells, asTw, flg]; exact Is.mk), ?_⟩)
      | (refine tri_step (id := 1) (C := ⟨[], [13, 14, 15], [(6, (7, 0, 0)), (41, (4, 0, 0)), (47, (30, 0, 0)), (56, (30, 0, 0)), (62, (30, 0, 0)), (95, (30, 0, 0)), (100, (30, 0, 0)), (103, (7, 0, 0)), (105, (12, 0, 0)), (109, (7, 0, 0)), (129, (30, 0, 0)), (136, (30, 0, 0)), (138, (4, 0, 0)), (147, (30, 0, 0)), (149, (4, 0, 0)), (156, (4, 0, 0)), (159, (4, 0, 0)), (170, (30, 0, 0)), (179, (30, 0, 0))]⟩) [2, 3, 26] [(3, 0, 0), (4, 0, 0)] g3 nodraw ?_; refine ⟨_, by (simp [*, F11, F12, F13, F14, F15, undef, twoBCells, asTw, flg]; exact Is.mk), ?_⟩)
      | (refine tri_step (id := 2) (C := ⟨[], [13, 14, 15], [(6, (7, 0, 0)), (41, (4, 0, 0)), (47, (30, 0, 0)), (56, (30, 0, 0)), (62, (30, 0, 0)), (95, (30, 0, 0)), (100, (30, 0, 0)), (103, (7, 0, 0)), (105, (12, 0, 0)), (109, (7, 0, 0)), (129, (30, 0, 0)), (136, (30, 0, 0)), (138, (4, 0, 0)), (147, (30, 0, 0)), (149, (4, 0, 0)), (156, (4, 0, 0)), (159, (4, 0, 0)), (170, (30, 0, 0)), (179, (30, 0, 0))]⟩) [4] [] g3 nodraw ?_; refine ⟨_, by (simp [*, F11, F12, F13, F14, F15, undef, twoBCells, asTw, flg]; exact Is.mk), ?_⟩)
      | (refine tri_seq ?_)
      ))
    all_goals (refine post_plainV (P := Try.prog) (fn := Try.f3) (by simp; exact IsV.mk) rfl ?_)
    all_goals (first | (simp [F11, F12, F13, F14, F15, undef, twoBCells, asTw, flg]; done) | (simp [*, F11, F12, F13, F14, F15, undef, twoBCells, asTw, flg]; done) | (simp_all [F11, F12, F13, F14, F15, undef, twoBCells, asTw, flg]; done) | (simp [F11, F12, F13, F14, F15, undef, twoBCells, asTw, flg] <;> (repeat' split) <;> simp_all; done) | (simp [F11, F12, F13, F14, F15, undef, twoBCells, asTw, flg] <;> (repeat' split) <;> simp_all [Bool.and_assoc] <;> grind [List.length_eq_zero_iff, sendCells_co, recvCells_co, pieceCells_co, connCells_co, segCells_co, clockCells_co]))
  · by_cases hB : (600 : Int) < text.b.length
    · refine specAt_of_tri Try.func3 rfl (Nat.le_of_ble_eq_true rfl) ?_
      all_goals (repeat' (first
      | (refine tri_condT (b_true (by simp; with_reducible exact IsB.mk)) ?_)
      | (refine th_r ?_)
      | (refine tri_ret ?_)
      | (refine tri_step (id := 0) (C := ⟨[], [13, 14, 15], [(6, (7, 0, 0)), (41, (4, 0, 0)), (47, (30, 0, 0)), (56, (30, 0, 0)), (62, (30, 0, 0)), (95, (30, 0, 0)), (100, (30, 0, 0)), (103, (7, 0, 0)), (105, (12, 0, 0)), (109, (7, 0, 0)), (129, (30, 0, 0)), (136, (30, 0, 0)), (138, (4, 0, 0)), (147, (30, 0, 0)), (149, (4, 0, 0)), (156, (4, 0, 0)), (159, (4, 0, 0)), (170, (30, 0, 0)), (179, (30, 0, 0))]⟩) [2, 3] [(3, 0, 0), (4, 0, 0)] g3 nodraw ?_; refine ⟨_, by (simp [*, F11, F12, F13, F14, F15, undef, twoBCells, asTw, flg]; exact Is.mk), ?_⟩)
      | (refine tri_step (id := 1) (C := ⟨[], [13, 14, 15], [(6, (7, 0, 0)), (41, (4, 0, 0)), (47, (30, 0, 0)), (56, (30, 0, 0)), (62, (30, 0, 0)), (95, (30, 0, 0)), (100, (30, 0, 0)), (103, (7, 0, 0)), (105, (12, 0, 0)), (109, (7, 0, 0)), (129, (30, 0, 0)), (136, (30, 0, 0)), (138, (4, 0, 0)), (147, (30, 0, 0)), (149, (4, 0, 0)), (156, (4, 0, 0)), (159, (4, 0, 0)), (170, (30, 0, 0)), (179, (30, 0, 0))]⟩) [2, 3, 26] [(3, 0, 0), (4, 0, 0)] g3 nodraw ?_; refine ⟨_, by (simp [*, F11, F12, F13, F14, F15, undef, twoBCells, asTw, flg]; exact Is.mk), ?_⟩)
      | (refine tri_step (id := 2) (C := ⟨[], [13, 14, 15], [(6, (7, 0, 0)), (41, (4, 0, 0)), (47, (30, 0, 0)), (56, (30, 0, 0)), (62, (30, 0, 0)), (95, (30, 0, 0)), (100, (30, 0, 0)), (103, (7, 0, 0)), (105, (12, 0, 0)), (109, (7, 0, 0)), (129, (30, 0, 0)), (136, (30, 0, 0)), (138, (4, 0, 0)), (147, (30, 0, 0)), (149, (4, 0, 0)), (156, (4, 0, 0)), (159, (4, 0, 0)), (170, (30, 0, 0)), (179, (30, 0, 0))]⟩) [4] [] g3 nodraw ?_; refine ⟨_, by (simp [*, F11, F12, F13, F14, F15, undef, twoBCells, asTw, flg]; exact Is.mk), ?_⟩)
      | (refine tri_seq ?_)
      ))
      all_goals (refine post_plainV (P := Try.prog) (fn := Try.f3) (by simp; exact IsV.mk) rfl ?_)
      all_goals (first | (simp [F11, F12, F13, F14, F15, undef, twoBCells, asTw, flg]; done) | (simp [*, F11, F12, F13, F14, F15, undef, twoBCells, asTw, flg]; done) | (simp_all [F11, F12, F13, F14, F15, undef, twoBCells, asTw, flg]; done) | (simp [F11, F12, F13, F14, F15, undef, twoBCells, asTw, flg] <;> (repeat' split) <;> simp_all; done) | (simp [F11, F12, F13, F14, F15, undef, twoBCells, asTw, flg] <;> (repeat' split) <;> simp_all [Bool.and_assoc] <;> grind [List.length_eq_zero_iff, sendCells_co, recvCells_co, pieceCells_co, connCells_co, segCells_co, clockCells_co]))
    · have hA2 : text.a.length ≤ 600 := by omega
      have hB2 : text.b.length ≤ 600 := by omega
      refine specAt_of_tri Try.func3 rfl (Nat.le_of_ble_eq_true rfl) ?_
      all_goals (repeat' (first
      | (refine tri_condF (b_true (by simp; with_reducible exact IsB.mk)) ?_)
      | (refine tri_skipT ?_)
      | (refine tri_block ?_)
      | (refine tri_step (id := 0) (C := ⟨[], [13, 14, 15], [(6, (7, 0, 0)), (41, (4, 0, 0)), (47, (30, 0, 0)), (56, (30, 0, 0)), (62, (30, 0, 0)), (95, (30, 0, 0)), (100, (30, 0, 0)), (103, (7, 0, 0)), (105, (12, 0, 0)), (109, (7, 0, 0)), (129, (30, 0, 0)), (136, (30, 0, 0)), (138, (4, 0, 0)), (147, (30, 0, 0)), (149, (4, 0, 0)), (156, (4, 0, 0)), (159, (4, 0, 0)), (170, (30, 0, 0)), (179, (30, 0, 0))]⟩) [2, 3] [(3, 0, 0), (4, 0, 0)] g3 nodraw ?_; refine ⟨_, by (simp [*, F11, F12, F13, F14, F15, undef, twoBCells, asTw, flg]; exact Is.mk), ?_⟩)
      | (refine tri_step (id := 1) (C := ⟨[], [13, 14, 15], [(6, (7, 0, 0)), (41, (4, 0, 0)), (47, (30, 0, 0)), (56, (30, 0, 0)), (62, (30, 0, 0)), (95, (30, 0, 0)), (100, (30, 0, 0)), (103, (7, 0, 0)), (105, (12, 0, 0)), (109, (7, 0, 0)), (129, (30, 0, 0)), (136, (30, 0, 0)), (138, (4, 0, 0)), (147, (30, 0, 0)), (149, (4, 0, 0)), (156, (4, 0, 0)), (159, (4, 0, 0)), (170, (30, 0, 0)), (179, (30, 0, 0))]⟩) [2, 3, 26] [(3, 0, 0), (4, 0, 0)] g3 nodraw ?_; refine ⟨_, by (simp [*, F11, F12, F13, F14, F15, undef, twoBCells, asTw, flg]; exact Is.mk), ?_⟩)
      | (refine tri_step (id := 3) (C := ⟨[], [13, 14, 15], [(6, (7, 0, 0)), (41, (4, 0, 0)), (47, (30, 0, 0)), (56, (30, 0, 0)), (62, (30, 0, 0)), (95, (30, 0, 0)), (100, (30, 0, 0)), (103, (7, 0, 0)), (105, (12, 0, 0)), (109, (7, 0, 0)), (129, (30, 0, 0)), (136, (30, 0, 0)), (138, (4, 0, 0)), (147, (30, 0, 0)), (149, (4, 0, 0)), (156, (4, 0, 0)), (159, (4, 0, 0)), (170, (30, 0, 0)), (179, (30, 0, 0))]⟩) [3, 5] [(4, 0, 0), (30, 0, 0)] g3 nodraw ?_; refine ⟨_, by (simp [*, F11, F12, F13, F14, F15, undef, twoBCells, asTw, flg]; exact Is.mk), ?_⟩)
      | (refine tri_step (id := 4) (C := ⟨[], [13, 14, 15], [(6, (7, 0, 0)), (41, (4, 0, 0)), (47, (30, 0, 0)), (56, (30, 0, 0)), (62, (30, 0, 0)), (95, (30, 0, 0)), (100, (30, 0, 0)), (103, (7, 0, 0)), (105, (12, 0, 0)), (109, (7, 0, 0)), (129, (30, 0, 0)), (136, (30, 0, 0)), (138, (4, 0, 0)), (147, (30, 0, 0)), (149, (4, 0, 0)), (156, (4, 0, 0)), (159, (4, 0, 0)), (170, (30, 0, 0)), (179, (30, 0, 0))]⟩) [3, 5, 6] [(4, 0, 0), (7, 0, 0), (30, 0, 0)] g3 nodraw ?_; refine ⟨_, by (simp [*, F11, F12, F13, F14, F15, undef, twoBCells, asTw, flg]; exact Is.mk), ?_⟩)
      | (refine tri_step (id := 5) (C := ⟨[], [13, 14, 15], [(6, (7, 0, 0)), (41, (4, 0, 0)), (47, (30, 0, 0)), (56, (30, 0, 0)), (62, (30, 0, 0)), (95, (30, 0, 0)), (100, (30, 0, 0)), (103, (7, 0, 0)), (105, (12, 0, 0)), (109, (7, 0, 0)), (129, (30, 0, 0)), (136, (30, 0, 0)), (138, (4, 0, 0)), (147, (30, 0, 0)), (149, (4, 0, 0)), (156, (4, 0, 0)), (159, (4, 0, 0)), (170, (30, 0, 0)), (179, (30, 0, 0))]⟩) [3, 5, 6, 7] [(4, 0, 0), (7, 0, 0), (30, 0, 0)] g3 nodraw ?_; refine ⟨_, by (simp [*, F11, F12, F13, F14, F15, undef, twoBCells, asTw, flg]; exact Is.mk), ?_⟩)
      | (refine tri_seq ?_)
      ))
      refine tri_loop (fun k s => ∃ (j s0 s1 : Nat) (t : Talk), k = 60 - j ∧ j ≤ 60 ∧ Turn first.a first.b text.a text.b j s0 s1 t ∧ s = mkSt [(3, .ptr (4,0,0) 0), (5, .ptr (30,0,0) 0), (6, .ptr (7,0,0) 0), (7, .v (.int .i64 (j : Nat)))] [((4,0,0), [.sl 1 (encB text.a) none, .sl 1 (encB text.b) none]), ((7,0,0), [.v (.int .i64 (s0 : Nat)), .v (.int .i64 (s1 : Nat))]), ((30,0,0), talkCells t)]) 60 _ (Le.refl _) ⟨0, 0, 0, begins first.a first.b, rfl, by omega, .inl ⟨rfl, rfl, rfl, hpre.1, hpre.2, rfl⟩, rfl⟩ ?_
      rintro k s ⟨j, s0, s1, t, hk, hj, ht, rfl⟩
      rcases Nat.lt_or_ge j 60 with hj60 | hj60
      · have hlt : decide ((j : Int) < 60) = true := by simp; omega
        have hj1 : IntKind.i64.wrap ((j : Int) + 1) = ((j + 1 : Nat) : Int) := wi_nat (k := 1) (by omega)
        obtain ⟨hl0, hp0, hl1, hp1, U, hU, hrunU, hstU, hwrU, hmU0, hmU1⟩ := turn_write hA2 hB2 ht
        generalize hT1 : writes t 0 (text.a.drop t.written0.size) = T1 at hl1 hp1 hU
        clear ht
        all_goals (repeat' (first
      | (refine tri_condT (b_true (by simp; with_reducible exact IsB.mk)) ?_)
      | (refine tri_skipT ?_)
      | (refine tri_block ?_)
      | (refine tri_step (id := 6) (C := ⟨[], [13, 14, 15], [(6, (7, 0, 0)), (41, (4, 0, 0)), (47, (30, 0, 0)), (56, (30, 0, 0)), (62, (30, 0, 0)), (95, (30, 0, 0)), (100, (30, 0, 0)), (103, (7, 0, 0)), (105, (12, 0, 0)), (109, (7, 0, 0)), (129, (30, 0, 0)), (136, (30, 0, 0)), (138, (4, 0, 0)), (147, (30, 0, 0)), (149, (4, 0, 0)), (156, (4, 0, 0)), (159, (4, 0, 0)), (170, (30, 0, 0)), (179, (30, 0, 0))]⟩) [3, 5, 6, 7, 32] [(4, 0, 0), (7, 0, 0), (30, 0, 0)] g3 nodraw ?_; refine ⟨_, by (simp [*, F11, F12, F13, F14, F15, undef, twoBCells, asTw, flg]; exact Is.mk), ?_⟩)
      | (refine tri_step (id := 8) (C := ⟨[], [13, 14, 15], [(6, (7, 0, 0)), (41, (4, 0, 0)), (47, (30, 0, 0)), (56, (30, 0, 0)), (62, (30, 0, 0)), (95, (30, 0, 0)), (100, (30, 0, 0)), (103, (7, 0, 0)), (105, (12, 0, 0)), (109, (7, 0, 0)), (129, (30, 0, 0)), (136, (30, 0, 0)), (138, (4, 0, 0)), (147, (30, 0, 0)), (149, (4, 0, 0)), (156, (4, 0, 0)), (159, (4, 0, 0)), (170, (30, 0, 0)), (179, (30, 0, 0))]⟩) [3, 5, 6, 7, 35] [(4, 0, 0), (7, 0, 0), (30, 0, 0)] g3 nodraw ?_; refine ⟨_, by (simp [*, F11, F12, F13, F14, F15, undef, twoBCells, asTw, flg]; exact Is.mk), ?_⟩)
      | (refine tri_seq ?_)
      ))
        refine tri_loop (fun k s => (k = 2 ∧ s = mkSt [(3, .ptr (4,0,0) 0), (5, .ptr (30,0,0) 0), (6, .ptr (7,0,0) 0), (7, .v (.int .i64 (j : Nat))), (35, .v (.int .i64 0))] [((4,0,0), [.sl 1 (encB text.a) none, .sl 1 (encB text.b) none]), ((7,0,0), [.v (.int .i64 (s0 : Nat)), .v (.int .i64 (s1 : Nat))]), ((30,0,0), talkCells t)]) ∨ (k = 1 ∧ s = mkSt [(3, .ptr (4,0,0) 0), (5, .ptr (30,0,0) 0), (6, .ptr (7,0,0) 0), (7, .v (.int .i64 (j : Nat))), (35, .v (.int .i64 1))] [((4,0,0), [.sl 1 (encB text.a) none, .sl 1 (encB text.b) none]), ((7,0,0), [.v (.int .i64 (s0 : Nat)), .v (.int .i64 (s1 : Nat))]), ((30,0,0), talkCells T1)]) ∨ (k = 0 ∧ s = mkSt [(3, .ptr (4,0,0) 0), (5, .ptr (30,0,0) 0), (6, .ptr (7,0,0) 0), (7, .v (.int .i64 (j : Nat))), (35, .v (.int .i64 2))] [((4,0,0), [.sl 1 (encB text.a) none, .sl 1 (encB text.b) none]), ((7,0,0), [.v (.int .i64 (s0 : Nat)), .v (.int .i64 (s1 : Nat))]), ((30,0,0), talkCells U)])) 2 _ (Le.refl _) (.inl ⟨rfl, rfl⟩) ?_
        rintro k2 s2 (⟨rfl, rfl⟩ | ⟨rfl, rfl⟩ | ⟨rfl, rfl⟩)
        · all_goals (repeat' (first
      | (refine tri_condT (b_true (by simp; with_reducible exact IsB.mk)) ?_)
      | (refine tri_skipT ?_)
      | (refine th_n ?_)
      | (refine in_n ?_)
      | (refine tri_block ?_)
      | (refine tri_step (id := 9) (C := ⟨[], [13, 14, 15], [(6, (7, 0, 0)), (41, (4, 0, 0)), (47, (30, 0, 0)), (56, (30, 0, 0)), (62, (30, 0, 0)), (95, (30, 0, 0)), (100, (30, 0, 0)), (103, (7, 0, 0)), (105, (12, 0, 0)), (109, (7, 0, 0)), (129, (30, 0, 0)), (136, (30, 0, 0)), (138, (4, 0, 0)), (147, (30, 0, 0)), (149, (4, 0, 0)), (156, (4, 0, 0)), (159, (4, 0, 0)), (170, (30, 0, 0)), (179, (30, 0, 0))]⟩) [3, 5, 6, 7, 35, 36] [(4, 0, 0), (7, 0, 0), (30, 0, 0)] g3 nodraw ?_; refine ⟨_, by (simp [*, F11, F12, F13, F14, F15, undef, twoBCells, asTw, flg]; exact Is.mk), ?_⟩)
      | (refine tri_step (id := 10) (C := ⟨[], [13, 14, 15], [(6, (7, 0, 0)), (41, (4, 0, 0)), (47, (30, 0, 0)), (56, (30, 0, 0)), (62, (30, 0, 0)), (95, (30, 0, 0)), (100, (30, 0, 0)), (103, (7, 0, 0)), (105, (12, 0, 0)), (109, (7, 0, 0)), (129, (30, 0, 0)), (136, (30, 0, 0)), (138, (4, 0, 0)), (147, (30, 0, 0)), (149, (4, 0, 0)), (156, (4, 0, 0)), (159, (4, 0, 0)), (170, (30, 0, 0)), (179, (30, 0, 0))]⟩) [3, 5, 6, 7, 8, 35] [(4, 0, 0), (7, 0, 0), (30, 0, 0)] g3 nodraw ?_; refine ⟨_, by (simp [*, F11, F12, F13, F14, F15, undef, twoBCells, asTw, flg]; exact Is.mk), ?_⟩)
      | (refine tri_last (id := 11) (C := ⟨[], [13, 14, 15], [(6, (7, 0, 0)), (41, (4, 0, 0)), (47, (30, 0, 0)), (56, (30, 0, 0)), (62, (30, 0, 0)), (95, (30, 0, 0)), (100, (30, 0, 0)), (103, (7, 0, 0)), (105, (12, 0, 0)), (109, (7, 0, 0)), (129, (30, 0, 0)), (136, (30, 0, 0)), (138, (4, 0, 0)), (147, (30, 0, 0)), (149, (4, 0, 0)), (156, (4, 0, 0)), (159, (4, 0, 0)), (170, (30, 0, 0)), (179, (30, 0, 0))]⟩) [3, 5, 6, 7, 35] [(4, 0, 0), (7, 0, 0), (30, 0, 0)] g3 (fun _ => ⟨q_mixed, by kernel_rfl⟩) ?_; refine ⟨_, by (simp [*, F11, F12, F13, F14, F15, undef, twoBCells, asTw, flg]; exact Is.mk), ?_⟩)
      | (refine tri_last (id := 12) (C := ⟨[], [13, 14, 15], [(6, (7, 0, 0)), (41, (4, 0, 0)), (47, (30, 0, 0)), (56, (30, 0, 0)), (62, (30, 0, 0)), (95, (30, 0, 0)), (100, (30, 0, 0)), (103, (7, 0, 0)), (105, (12, 0, 0)), (109, (7, 0, 0)), (129, (30, 0, 0)), (136, (30, 0, 0)), (138, (4, 0, 0)), (147, (30, 0, 0)), (149, (4, 0, 0)), (156, (4, 0, 0)), (159, (4, 0, 0)), (170, (30, 0, 0)), (179, (30, 0, 0))]⟩) [3, 5, 6, 7, 35] [(4, 0, 0), (7, 0, 0), (30, 0, 0)] g3 nodraw ?_; refine ⟨_, by (simp [*, F11, F12, F13, F14, F15, undef, twoBCells, asTw, flg]; exact Is.mk), ?_⟩)
      | (refine tri_seq ?_)
      ))
          refine ⟨1, _, by omega, Le.refl _, .inr <| .inl ⟨rfl, rfl⟩⟩
        · all_goals (repeat' (first
      | (refine tri_condT (b_true (by simp; with_reducible exact IsB.mk)) ?_)
      | (refine tri_skipT ?_)
      | (refine th_n ?_)
      | (refine in_n ?_)
      | (refine tri_block ?_)
      | (refine tri_step (id := 9) (C := ⟨[], [13, 14, 15], [(6, (7, 0, 0)), (41, (4, 0, 0)), (47, (30, 0, 0)), (56, (30, 0, 0)), (62, (30, 0, 0)), (95, (30, 0, 0)), (100, (30, 0, 0)), (103, (7, 0, 0)), (105, (12, 0, 0)), (109, (7, 0, 0)), (129, (30, 0, 0)), (136, (30, 0, 0)), (138, (4, 0, 0)), (147, (30, 0, 0)), (149, (4, 0, 0)), (156, (4, 0, 0)), (159, (4, 0, 0)), (170, (30, 0, 0)), (179, (30, 0, 0))]⟩) [3, 5, 6, 7, 35, 36] [(4, 0, 0), (7, 0, 0), (30, 0, 0)] g3 nodraw ?_; refine ⟨_, by (simp [*, F11, F12, F13, F14, F15, undef, twoBCells, asTw, flg]; exact Is.mk), ?_⟩)
      | (refine tri_step (id := 10) (C := ⟨[], [13, 14, 15], [(6, (7, 0, 0)), (41, (4, 0, 0)), (47, (30, 0, 0)), (56, (30, 0, 0)), (62, (30, 0, 0)), (95, (30, 0, 0)), (100, (30, 0, 0)), (103, (7, 0, 0)), (105, (12, 0, 0)), (109, (7, 0, 0)), (129, (30, 0, 0)), (136, (30, 0, 0)), (138, (4, 0, 0)), (147, (30, 0, 0)), (149, (4, 0, 0)), (156, (4, 0, 0)), (159, (4, 0, 0)), (170, (30, 0, 0)), (179, (30, 0, 0))]⟩) [3, 5, 6, 7, 8, 35] [(4, 0, 0), (7, 0, 0), (30, 0, 0)] g3 nodraw ?_; refine ⟨_, by (simp [*, F11, F12, F13, F14, F15, undef, twoBCells, asTw, flg]; exact Is.mk), ?_⟩)
      | (refine tri_last (id := 11) (C := ⟨[], [13, 14, 15], [(6, (7, 0, 0)), (41, (4, 0, 0)), (47, (30, 0, 0)), (56, (30, 0, 0)), (62, (30, 0, 0)), (95, (30, 0, 0)), (100, (30, 0, 0)), (103, (7, 0, 0)), (105, (12, 0, 0)), (109, (7, 0, 0)), (129, (30, 0, 0)), (136, (30, 0, 0)), (138, (4, 0, 0)), (147, (30, 0, 0)), (149, (4, 0, 0)), (156, (4, 0, 0)), (159, (4, 0, 0)), (170, (30, 0, 0)), (179, (30, 0, 0))]⟩) [3, 5, 6, 7, 35] [(4, 0, 0), (7, 0, 0), (30, 0, 0)] g3 (fun _ => ⟨q_mixed, by kernel_rfl⟩) ?_; refine ⟨_, by (simp [*, F11, F12, F13, F14, F15, undef, twoBCells, asTw, flg]; exact Is.mk), ?_⟩)
      | (refine tri_last (id := 12) (C := ⟨[], [13, 14, 15], [(6, (7, 0, 0)), (41, (4, 0, 0)), (47, (30, 0, 0)), (56, (30, 0, 0)), (62, (30, 0, 0)), (95, (30, 0, 0)), (100, (30, 0, 0)), (103, (7, 0, 0)), (105, (12, 0, 0)), (109, (7, 0, 0)), (129, (30, 0, 0)), (136, (30, 0, 0)), (138, (4, 0, 0)), (147, (30, 0, 0)), (149, (4, 0, 0)), (156, (4, 0, 0)), (159, (4, 0, 0)), (170, (30, 0, 0)), (179, (30, 0, 0))]⟩) [3, 5, 6, 7, 35] [(4, 0, 0), (7, 0, 0), (30, 0, 0)] g3 nodraw ?_; refine ⟨_, by (simp [*, F11, F12, F13, F14, F15, undef, twoBCells, asTw, flg]; exact Is.mk), ?_⟩)
      | (refine tri_seq ?_)
      ))
          refine ⟨0, _, by omega, Le.refl _, .inr <| .inr ⟨rfl, rfl⟩⟩
        · clear hp0 hp1 hl0 hl1 hT1 hU
          all_goals (repeat' (first
      | (refine tri_condF (b_true (by simp; with_reducible exact IsB.mk)) ?_)
      | (refine th_n ?_)
      | (refine in_e ?_)
      | (refine th_e ?_)
      | (refine tri_exit ?_)
      | (refine tri_block ?_)
      | (refine tri_step (id := 9) (C := ⟨[], [13, 14, 15], [(6, (7, 0, 0)), (41, (4, 0, 0)), (47, (30, 0, 0)), (56, (30, 0, 0)), (62, (30, 0, 0)), (95, (30, 0, 0)), (100, (30, 0, 0)), (103, (7, 0, 0)), (105, (12, 0, 0)), (109, (7, 0, 0)), (129, (30, 0, 0)), (136, (30, 0, 0)), (138, (4, 0, 0)), (147, (30, 0, 0)), (149, (4, 0, 0)), (156, (4, 0, 0)), (159, (4, 0, 0)), (170, (30, 0, 0)), (179, (30, 0, 0))]⟩) [3, 5, 6, 7, 35, 36] [(4, 0, 0), (7, 0, 0), (30, 0, 0)] g3 nodraw ?_; refine ⟨_, by (simp [*, F11, F12, F13, F14, F15, undef, twoBCells, asTw, flg]; exact Is.mk), ?_⟩)
      | (refine tri_step (id := 13) (C := ⟨[], [13, 14, 15], [(6, (7, 0, 0)), (41, (4, 0, 0)), (47, (30, 0, 0)), (56, (30, 0, 0)), (62, (30, 0, 0)), (95, (30, 0, 0)), (100, (30, 0, 0)), (103, (7, 0, 0)), (105, (12, 0, 0)), (109, (7, 0, 0)), (129, (30, 0, 0)), (136, (30, 0, 0)), (138, (4, 0, 0)), (147, (30, 0, 0)), (149, (4, 0, 0)), (156, (4, 0, 0)), (159, (4, 0, 0)), (170, (30, 0, 0)), (179, (30, 0, 0))]⟩) [3, 5, 6, 7, 9] [(4, 0, 0), (7, 0, 0), (30, 0, 0)] g3 nodraw ?_; refine ⟨_, by (simp [*, F11, F12, F13, F14, F15, undef, twoBCells, asTw, flg]; exact Is.mk), ?_⟩)
      | (refine tri_seq ?_)
      ))
          refine tri_loop (fun k s => ∃ (n r0 r1 : Nat) (u : Talk), k = 71 - n ∧ Stage first.a first.b n r0 r1 u ∧ Run u ∧ Wr text.a text.b u ∧ (min text.a.length (256 * (j + 1)) ≤ u.written0.size ∧ min text.b.length (256 * j) ≤ u.written1.size) ∧ s = mkSt [(3, .ptr (4,0,0) 0), (5, .ptr (30,0,0) 0), (6, .ptr (7,0,0) 0), (7, .v (.int .i64 (j : Nat))), (9, .v (.int .i64 (n : Nat)))] [((4,0,0), [.sl 1 (encB text.a) none, .sl 1 (encB text.b) none]), ((7,0,0), [.v (.int .i64 (r1 : Nat)), .v (.int .i64 (r0 : Nat))]), ((30,0,0), talkCells u)]) 71 _ (Le.refl _) ⟨0, s1, s0, U, rfl, hstU, hrunU, hwrU, ⟨hmU0, hmU1⟩, rfl⟩ ?_
          clear hstU hrunU hwrU hmU0 hmU1
          rintro k3 s3 ⟨n, r0, r1, u, hk3, hst, hrun, hwr, hm, rfl⟩
          have hn70 := hst.le
          have hn500 : decide ((500 : Int) < (n : Int)) = false := by simp; omega
          have hn1 : IntKind.i64.wrap ((n : Int) + 1) = ((n + 1 : Nat) : Int) := wi_nat (k := 1) (by omega)
          obtain ⟨-, htw0, htw1, -⟩ := hst.tight
          obtain ⟨hbr0, hbr1⟩ := hst.br
          by_cases hb : u.way0 = [] ∧ u.way1 = []
          · obtain ⟨e0, e1⟩ := hb
            obtain ⟨hi0, hr0, hi1, hr1, hturn⟩ := turn_read (j := j) hst hrun hwr e0 e1 hm.1 hm.2
            generalize hV : reads u 0 300 = V at hi1 hr1 hturn
            generalize hV2 : reads V 1 300 = V2 at hturn
            clear hst hrun hwr hm
            all_goals (repeat' (first
      | (refine tri_condF (b_true (by simp; with_reducible exact IsB.mk)) ?_)
      | (refine th_n ?_)
      | (refine in_e ?_)
      | (refine th_e ?_)
      | (refine tri_exit ?_)
      | (refine tri_block ?_)
      | (refine tri_step (id := 14) (C := ⟨[], [13, 14, 15], [(6, (7, 0, 0)), (41, (4, 0, 0)), (47, (30, 0, 0)), (56, (30, 0, 0)), (62, (30, 0, 0)), (95, (30, 0, 0)), (100, (30, 0, 0)), (103, (7, 0, 0)), (105, (12, 0, 0)), (109, (7, 0, 0)), (129, (30, 0, 0)), (136, (30, 0, 0)), (138, (4, 0, 0)), (147, (30, 0, 0)), (149, (4, 0, 0)), (156, (4, 0, 0)), (159, (4, 0, 0)), (170, (30, 0, 0)), (179, (30, 0, 0))]⟩) [3, 5, 6, 7, 9, 66] [(4, 0, 0), (7, 0, 0), (30, 0, 0)] g3 (fun _ => ⟨q_mixed, by kernel_rfl⟩) ?_; refine ⟨_, by (simp [*, F11, F12, F13, F14, F15, undef, twoBCells, asTw, flg]; exact Is.mk), ?_⟩)
      | (refine tri_step (id := 24) (C := ⟨[], [13, 14, 15], [(6, (7, 0, 0)), (41, (4, 0, 0)), (47, (30, 0, 0)), (56, (30, 0, 0)), (62, (30, 0, 0)), (95, (30, 0, 0)), (100, (30, 0, 0)), (103, (7, 0, 0)), (105, (12, 0, 0)), (109, (7, 0, 0)), (129, (30, 0, 0)), (136, (30, 0, 0)), (138, (4, 0, 0)), (147, (30, 0, 0)), (149, (4, 0, 0)), (156, (4, 0, 0)), (159, (4, 0, 0)), (170, (30, 0, 0)), (179, (30, 0, 0))]⟩) [3, 5, 6, 7, 114] [(4, 0, 0), (7, 0, 0), (30, 0, 0)] g3 nodraw ?_; refine ⟨_, by (simp [*, F11, F12, F13, F14, F15, undef, twoBCells, asTw, flg]; exact Is.mk), ?_⟩)
      | (refine tri_seq ?_)
      ))
            clear e0 e1 hn500 hn1
            refine tri_loop (fun k s => (k = 2 ∧ s = mkSt [(3, .ptr (4,0,0) 0), (5, .ptr (30,0,0) 0), (6, .ptr (7,0,0) 0), (7, .v (.int .i64 (j : Nat))), (114, .v (.int .i64 0))] [((4,0,0), [.sl 1 (encB text.a) none, .sl 1 (encB text.b) none]), ((7,0,0), [.v (.int .i64 (r1 : Nat)), .v (.int .i64 (r0 : Nat))]), ((30,0,0), talkCells u)]) ∨ (k = 1 ∧ s = mkSt [(3, .ptr (4,0,0) 0), (5, .ptr (30,0,0) 0), (6, .ptr (7,0,0) 0), (7, .v (.int .i64 (j : Nat))), (114, .v (.int .i64 1))] [((4,0,0), [.sl 1 (encB text.a) none, .sl 1 (encB text.b) none]), ((7,0,0), [.v (.int .i64 (r1 : Nat)), .v (.int .i64 (r0 : Nat))]), ((30,0,0), talkCells V)]) ∨ (k = 0 ∧ s = mkSt [(3, .ptr (4,0,0) 0), (5, .ptr (30,0,0) 0), (6, .ptr (7,0,0) 0), (7, .v (.int .i64 (j : Nat))), (114, .v (.int .i64 2))] [((4,0,0), [.sl 1 (encB text.a) none, .sl 1 (encB text.b) none]), ((7,0,0), [.v (.int .i64 (r1 : Nat)), .v (.int .i64 (r0 : Nat))]), ((30,0,0), talkCells V2)])) 2 _ (Le.refl _) (.inl ⟨rfl, rfl⟩) ?_
            rintro k2 s2 (⟨rfl, rfl⟩ | ⟨rfl, rfl⟩ | ⟨rfl, rfl⟩)
            · all_goals (repeat' (first
      | (refine tri_condT (b_true (by simp; with_reducible exact IsB.mk)) ?_)
      | (refine tri_skipT ?_)
      | (refine th_n ?_)
      | (refine in_n ?_)
      | (refine tri_block ?_)
      | (refine tri_step (id := 25) (C := ⟨[], [13, 14, 15], [(6, (7, 0, 0)), (41, (4, 0, 0)), (47, (30, 0, 0)), (56, (30, 0, 0)), (62, (30, 0, 0)), (95, (30, 0, 0)), (100, (30, 0, 0)), (103, (7, 0, 0)), (105, (12, 0, 0)), (109, (7, 0, 0)), (129, (30, 0, 0)), (136, (30, 0, 0)), (138, (4, 0, 0)), (147, (30, 0, 0)), (149, (4, 0, 0)), (156, (4, 0, 0)), (159, (4, 0, 0)), (170, (30, 0, 0)), (179, (30, 0, 0))]⟩) [3, 5, 6, 7, 114, 115] [(4, 0, 0), (7, 0, 0), (30, 0, 0)] g3 nodraw ?_; refine ⟨_, by (simp [*, F11, F12, F13, F14, F15, undef, twoBCells, asTw, flg]; exact Is.mk), ?_⟩)
      | (refine tri_step (id := 26) (C := ⟨[], [13, 14, 15], [(6, (7, 0, 0)), (41, (4, 0, 0)), (47, (30, 0, 0)), (56, (30, 0, 0)), (62, (30, 0, 0)), (95, (30, 0, 0)), (100, (30, 0, 0)), (103, (7, 0, 0)), (105, (12, 0, 0)), (109, (7, 0, 0)), (129, (30, 0, 0)), (136, (30, 0, 0)), (138, (4, 0, 0)), (147, (30, 0, 0)), (149, (4, 0, 0)), (156, (4, 0, 0)), (159, (4, 0, 0)), (170, (30, 0, 0)), (179, (30, 0, 0))]⟩) [3, 5, 6, 7, 12, 114] [(4, 0, 0), (7, 0, 0), (30, 0, 0)] g3 nodraw ?_; refine ⟨_, by (simp [*, F11, F12, F13, F14, F15, undef, twoBCells, asTw, flg]; exact Is.mk), ?_⟩)
      | (refine tri_step (id := 27) (C := ⟨[], [13, 14, 15], [(6, (7, 0, 0)), (41, (4, 0, 0)), (47, (30, 0, 0)), (56, (30, 0, 0)), (62, (30, 0, 0)), (95, (30, 0, 0)), (100, (30, 0, 0)), (103, (7, 0, 0)), (105, (12, 0, 0)), (109, (7, 0, 0)), (129, (30, 0, 0)), (136, (30, 0, 0)), (138, (4, 0, 0)), (147, (30, 0, 0)), (149, (4, 0, 0)), (156, (4, 0, 0)), (159, (4, 0, 0)), (170, (30, 0, 0)), (179, (30, 0, 0))]⟩) [3, 5, 6, 7, 12, 114, 122] [(4, 0, 0), (7, 0, 0), (30, 0, 0)] g3 nodraw ?_; refine ⟨_, by (simp [*, F11, F12, F13, F14, F15, undef, twoBCells, asTw, flg]; exact Is.mk), ?_⟩)
      | (refine tri_last (id := 28) (C := ⟨[], [13, 14, 15], [(6, (7, 0, 0)), (41, (4, 0, 0)), (47, (30, 0, 0)), (56, (30, 0, 0)), (62, (30, 0, 0)), (95, (30, 0, 0)), (100, (30, 0, 0)), (103, (7, 0, 0)), (105, (12, 0, 0)), (109, (7, 0, 0)), (129, (30, 0, 0)), (136, (30, 0, 0)), (138, (4, 0, 0)), (147, (30, 0, 0)), (149, (4, 0, 0)), (156, (4, 0, 0)), (159, (4, 0, 0)), (170, (30, 0, 0)), (179, (30, 0, 0))]⟩) [3, 5, 6, 7, 114] [(4, 0, 0), (7, 0, 0), (30, 0, 0)] g3 nodraw ?_; refine ⟨_, by (simp [*, F11, F12, F13, F14, F15, undef, twoBCells, asTw, flg]; exact Is.mk), ?_⟩)
      | (refine tri_last (id := 29) (C := ⟨[], [13, 14, 15], [(6, (7, 0, 0)), (41, (4, 0, 0)), (47, (30, 0, 0)), (56, (30, 0, 0)), (62, (30, 0, 0)), (95, (30, 0, 0)), (100, (30, 0, 0)), (103, (7, 0, 0)), (105, (12, 0, 0)), (109, (7, 0, 0)), (129, (30, 0, 0)), (136, (30, 0, 0)), (138, (4, 0, 0)), (147, (30, 0, 0)), (149, (4, 0, 0)), (156, (4, 0, 0)), (159, (4, 0, 0)), (170, (30, 0, 0)), (179, (30, 0, 0))]⟩) [3, 5, 6, 7, 114] [(4, 0, 0), (7, 0, 0), (30, 0, 0)] g3 nodraw ?_; refine ⟨_, by (simp [*, F11, F12, F13, F14, F15, undef, twoBCells, asTw, flg]; exact Is.mk), ?_⟩)
      | (refine tri_seq ?_)
      ))
              refine ⟨1, _, by omega, Le.refl _, .inr <| .inl ⟨rfl, rfl⟩⟩
            · all_goals (repeat' (first
      | (refine tri_condT (b_true (by simp; with_reducible exact IsB.mk)) ?_)
      | (refine tri_skipT ?_)
      | (refine th_n ?_)
      | (refine in_n ?_)
      | (refine tri_block ?_)
      | (refine tri_step (id := 25) (C := ⟨[], [13, 14, 15], [(6, (7, 0, 0)), (41, (4, 0, 0)), (47, (30, 0, 0)), (56, (30, 0, 0)), (62, (30, 0, 0)), (95, (30, 0, 0)), (100, (30, 0, 0)), (103, (7, 0, 0)), (105, (12, 0, 0)), (109, (7, 0, 0)), (129, (30, 0, 0)), (136, (30, 0, 0)), (138, (4, 0, 0)), (147, (30, 0, 0)), (149, (4, 0, 0)), (156, (4, 0, 0)), (159, (4, 0, 0)), (170, (30, 0, 0)), (179, (30, 0, 0))]⟩) [3, 5, 6, 7, 114, 115] [(4, 0, 0), (7, 0, 0), (30, 0, 0)] g3 nodraw ?_; refine ⟨_, by (simp [*, F11, F12, F13, F14, F15, undef, twoBCells, asTw, flg]; exact Is.mk), ?_⟩)
      | (refine tri_step (id := 26) (C := ⟨[], [13, 14, 15], [(6, (7, 0, 0)), (41, (4, 0, 0)), (47, (30, 0, 0)), (56, (30, 0, 0)), (62, (30, 0, 0)), (95, (30, 0, 0)), (100, (30, 0, 0)), (103, (7, 0, 0)), (105, (12, 0, 0)), (109, (7, 0, 0)), (129, (30, 0, 0)), (136, (30, 0, 0)), (138, (4, 0, 0)), (147, (30, 0, 0)), (149, (4, 0, 0)), (156, (4, 0, 0)), (159, (4, 0, 0)), (170, (30, 0, 0)), (179, (30, 0, 0))]⟩) [3, 5, 6, 7, 12, 114] [(4, 0, 0), (7, 0, 0), (30, 0, 0)] g3 nodraw ?_; refine ⟨_, by (simp [*, F11, F12, F13, F14, F15, undef, twoBCells, asTw, flg]; exact Is.mk), ?_⟩)
      | (refine tri_step (id := 27) (C := ⟨[], [13, 14, 15], [(6, (7, 0, 0)), (41, (4, 0, 0)), (47, (30, 0, 0)), (56, (30, 0, 0)), (62, (30, 0, 0)), (95, (30, 0, 0)), (100, (30, 0, 0)), (103, (7, 0, 0)), (105, (12, 0, 0)), (109, (7, 0, 0)), (129, (30, 0, 0)), (136, (30, 0, 0)), (138, (4, 0, 0)), (147, (30, 0, 0)), (149, (4, 0, 0)), (156, (4, 0, 0)), (159, (4, 0, 0)), (170, (30, 0, 0)), (179, (30, 0, 0))]⟩) [3, 5, 6, 7, 12, 114, 122] [(4, 0, 0), (7, 0, 0), (30, 0, 0)] g3 nodraw ?_; refine ⟨_, by (simp [*, F11, F12, F13, F14, F15, undef, twoBCells, asTw, flg]; exact Is.mk), ?_⟩)
      | (refine tri_last (id := 28) (C := ⟨[], [13, 14, 15], [(6, (7, 0, 0)), (41, (4, 0, 0)), (47, (30, 0, 0)), (56, (30, 0, 0)), (62, (30, 0, 0)), (95, (30, 0, 0)), (100, (30, 0, 0)), (103, (7, 0, 0)), (105, (12, 0, 0)), (109, (7, 0, 0)), (129, (30, 0, 0)), (136, (30, 0, 0)), (138, (4, 0, 0)), (147, (30, 0, 0)), (149, (4, 0, 0)), (156, (4, 0, 0)), (159, (4, 0, 0)), (170, (30, 0, 0)), (179, (30, 0, 0))]⟩) [3, 5, 6, 7, 114] [(4, 0, 0), (7, 0, 0), (30, 0, 0)] g3 nodraw ?_; refine ⟨_, by (simp [*, F11, F12, F13, F14, F15, undef, twoBCells, asTw, flg]; exact Is.mk), ?_⟩)
      | (refine tri_last (id := 29) (C := ⟨[], [13, 14, 15], [(6, (7, 0, 0)), (41, (4, 0, 0)), (47, (30, 0, 0)), (56, (30, 0, 0)), (62, (30, 0, 0)), (95, (30, 0, 0)), (100, (30, 0, 0)), (103, (7, 0, 0)), (105, (12, 0, 0)), (109, (7, 0, 0)), (129, (30, 0, 0)), (136, (30, 0, 0)), (138, (4, 0, 0)), (147, (30, 0, 0)), (149, (4, 0, 0)), (156, (4, 0, 0)), (159, (4, 0, 0)), (170, (30, 0, 0)), (179, (30, 0, 0))]⟩) [3, 5, 6, 7, 114] [(4, 0, 0), (7, 0, 0), (30, 0, 0)] g3 nodraw ?_; refine ⟨_, by (simp [*, F11, F12, F13, F14, F15, undef, twoBCells, asTw, flg]; exact Is.mk), ?_⟩)
      | (refine tri_seq ?_)
      ))
              refine ⟨0, _, by omega, Le.refl _, .inr <| .inr ⟨rfl, rfl⟩⟩
            · all_goals (repeat' (first
      | (refine tri_condF (b_true (by simp; with_reducible exact IsB.mk)) ?_)
      | (refine th_n ?_)
      | (refine in_n ?_)
      | (refine in_e ?_)
      | (refine th_e ?_)
      | (refine tri_exit ?_)
      | (refine tri_last (id := 7) (C := ⟨[], [13, 14, 15], [(6, (7, 0, 0)), (41, (4, 0, 0)), (47, (30, 0, 0)), (56, (30, 0, 0)), (62, (30, 0, 0)), (95, (30, 0, 0)), (100, (30, 0, 0)), (103, (7, 0, 0)), (105, (12, 0, 0)), (109, (7, 0, 0)), (129, (30, 0, 0)), (136, (30, 0, 0)), (138, (4, 0, 0)), (147, (30, 0, 0)), (149, (4, 0, 0)), (156, (4, 0, 0)), (159, (4, 0, 0)), (170, (30, 0, 0)), (179, (30, 0, 0))]⟩) [3, 5, 6, 7] [(4, 0, 0), (7, 0, 0), (30, 0, 0)] g3 nodraw ?_; refine ⟨_, by (simp [*, F11, F12, F13, F14, F15, undef, twoBCells, asTw, flg]; exact Is.mk), ?_⟩)
      | (refine tri_step (id := 25) (C := ⟨[], [13, 14, 15], [(6, (7, 0, 0)), (41, (4, 0, 0)), (47, (30, 0, 0)), (56, (30, 0, 0)), (62, (30, 0, 0)), (95, (30, 0, 0)), (100, (30, 0, 0)), (103, (7, 0, 0)), (105, (12, 0, 0)), (109, (7, 0, 0)), (129, (30, 0, 0)), (136, (30, 0, 0)), (138, (4, 0, 0)), (147, (30, 0, 0)), (149, (4, 0, 0)), (156, (4, 0, 0)), (159, (4, 0, 0)), (170, (30, 0, 0)), (179, (30, 0, 0))]⟩) [3, 5, 6, 7, 114, 115] [(4, 0, 0), (7, 0, 0), (30, 0, 0)] g3 nodraw ?_; refine ⟨_, by (simp [*, F11, F12, F13, F14, F15, undef, twoBCells, asTw, flg]; exact Is.mk), ?_⟩)
      | (refine tri_seq ?_)
      ))
              refine ⟨60 - (j + 1), _, by omega, Le.refl _, j + 1, r1, r0, V2, rfl, by omega, hturn, rfl⟩
          · rcases tmod_two n with hpar | hpar
            · have hnm : n % 2 = 0 := by rw [Int.tmod_eq_emod_of_nonneg (by omega)] at hpar; omega
              cases hw : u.way0 with
              | nil =>
                have hst2 := stage_skip0 hst (by omega) hw (fun q => hb ⟨hw, q⟩)
                have hpos : decide (0 < IntKind.i64.wrap ((u.way1.length : Int))) = true := wi_pos (by have : u.way1 ≠ [] := (fun q => hb ⟨hw, q⟩); have := List.length_pos_iff.2 this; omega) (by omega)
                clear hst hb
                all_goals (repeat' (first
      | (refine tri_condT (b_true (by simp; with_reducible exact IsB.mk)) ?_)
      | (refine tri_condF (b_true (by simp; with_reducible exact IsB.mk)) ?_)
      | (refine tri_skipT ?_)
      | (refine th_n ?_)
      | (refine in_e ?_)
      | (refine th_e ?_)
      | (refine tri_exit ?_)
      | (refine tri_block ?_)
      | (refine tri_step (id := 14) (C := ⟨[], [13, 14, 15], [(6, (7, 0, 0)), (41, (4, 0, 0)), (47, (30, 0, 0)), (56, (30, 0, 0)), (62, (30, 0, 0)), (95, (30, 0, 0)), (100, (30, 0, 0)), (103, (7, 0, 0)), (105, (12, 0, 0)), (109, (7, 0, 0)), (129, (30, 0, 0)), (136, (30, 0, 0)), (138, (4, 0, 0)), (147, (30, 0, 0)), (149, (4, 0, 0)), (156, (4, 0, 0)), (159, (4, 0, 0)), (170, (30, 0, 0)), (179, (30, 0, 0))]⟩) [3, 5, 6, 7, 9, 66] [(4, 0, 0), (7, 0, 0), (30, 0, 0)] g3 (fun _ => ⟨q_mixed, by kernel_rfl⟩) ?_; refine ⟨_, by (simp [*, F11, F12, F13, F14, F15, undef, twoBCells, asTw, flg]; exact Is.mk), ?_⟩)
      | (refine tri_last (id := 15) (C := ⟨[], [13, 14, 15], [(6, (7, 0, 0)), (41, (4, 0, 0)), (47, (30, 0, 0)), (56, (30, 0, 0)), (62, (30, 0, 0)), (95, (30, 0, 0)), (100, (30, 0, 0)), (103, (7, 0, 0)), (105, (12, 0, 0)), (109, (7, 0, 0)), (129, (30, 0, 0)), (136, (30, 0, 0)), (138, (4, 0, 0)), (147, (30, 0, 0)), (149, (4, 0, 0)), (156, (4, 0, 0)), (159, (4, 0, 0)), (170, (30, 0, 0)), (179, (30, 0, 0))]⟩) [3, 5, 6, 7, 9] [(4, 0, 0), (7, 0, 0), (30, 0, 0)] g3 nodraw ?_; refine ⟨_, by (simp [*, F11, F12, F13, F14, F15, undef, twoBCells, asTw, flg]; exact Is.mk), ?_⟩)
      | (refine tri_step (id := 16) (C := ⟨[], [13, 14, 15], [(6, (7, 0, 0)), (41, (4, 0, 0)), (47, (30, 0, 0)), (56, (30, 0, 0)), (62, (30, 0, 0)), (95, (30, 0, 0)), (100, (30, 0, 0)), (103, (7, 0, 0)), (105, (12, 0, 0)), (109, (7, 0, 0)), (129, (30, 0, 0)), (136, (30, 0, 0)), (138, (4, 0, 0)), (147, (30, 0, 0)), (149, (4, 0, 0)), (156, (4, 0, 0)), (159, (4, 0, 0)), (170, (30, 0, 0)), (179, (30, 0, 0))]⟩) [3, 5, 6, 7, 9, 70] [(4, 0, 0), (7, 0, 0), (30, 0, 0)] g3 nodraw ?_; refine ⟨_, by (simp [*, F11, F12, F13, F14, F15, undef, twoBCells, asTw, flg]; exact Is.mk), ?_⟩)
      | (refine tri_step (id := 18) (C := ⟨[], [13, 14, 15], [(6, (7, 0, 0)), (41, (4, 0, 0)), (47, (30, 0, 0)), (56, (30, 0, 0)), (62, (30, 0, 0)), (95, (30, 0, 0)), (100, (30, 0, 0)), (103, (7, 0, 0)), (105, (12, 0, 0)), (109, (7, 0, 0)), (129, (30, 0, 0)), (136, (30, 0, 0)), (138, (4, 0, 0)), (147, (30, 0, 0)), (149, (4, 0, 0)), (156, (4, 0, 0)), (159, (4, 0, 0)), (170, (30, 0, 0)), (179, (30, 0, 0))]⟩) [3, 5, 6, 7, 9, 10] [(4, 0, 0), (7, 0, 0), (30, 0, 0)] g3 nodraw ?_; refine ⟨_, by (simp [*, F11, F12, F13, F14, F15, undef, twoBCells, asTw, flg]; exact Is.mk), ?_⟩)
      | (refine tri_step (id := 19) (C := ⟨[], [13, 14, 15], [(6, (7, 0, 0)), (41, (4, 0, 0)), (47, (30, 0, 0)), (56, (30, 0, 0)), (62, (30, 0, 0)), (95, (30, 0, 0)), (100, (30, 0, 0)), (103, (7, 0, 0)), (105, (12, 0, 0)), (109, (7, 0, 0)), (129, (30, 0, 0)), (136, (30, 0, 0)), (138, (4, 0, 0)), (147, (30, 0, 0)), (149, (4, 0, 0)), (156, (4, 0, 0)), (159, (4, 0, 0)), (170, (30, 0, 0)), (179, (30, 0, 0))]⟩) [3, 5, 6, 7, 9, 10, 80] [(4, 0, 0), (7, 0, 0), (30, 0, 0)] g3 nodraw ?_; refine ⟨_, by (simp [*, F11, F12, F13, F14, F15, undef, twoBCells, asTw, flg]; exact Is.mk), ?_⟩)
      | (refine tri_seq ?_)
      ))
                refine ⟨70 - n, _, by omega, Le.refl _, n + 1, r0, r1, u, by omega, hst2, hrun, hwr, hm, rfl⟩
              | cons x l =>
                have hxm : x ∈ u.way0 := by rw [hw]; exact List.mem_cons_self
                have hxl : x.data.length ≤ 4096 := (hrun.ok.w0 x hxm).d0
                have hll : l.length ≤ 100 := by rw [hw] at htw0; simp only [List.length_cons] at htw0; omega
                have hn0 : ((l.length : Int) + 1 == 0) = false := by simp; omega
                have hpos : decide (0 < IntKind.i64.wrap ((l.length : Int) + 1 + (u.way1.length : Int))) = true := wi_pos (by omega) (by omega)
                have hst2 := stage_come0 hst (by omega) hw
                obtain ⟨hcp, hrun2⟩ := run_come0 hrun hw hst2
                obtain ⟨-, cw0, cw1⟩ := comes_first0 { u with way0 := l } x
                have hwr2 : Wr text.a text.b (comes { u with way0 := l } 0 x) := ⟨by rw [cw0]; exact hwr.e0, by rw [cw0]; exact hwr.l0, by rw [cw1]; exact hwr.e1, by rw [cw1]; exact hwr.l1⟩
                have hm2 : min text.a.length (256 * (j + 1)) ≤ (comes { u with way0 := l } 0 x).written0.size ∧ min text.b.length (256 * j) ≤ (comes { u with way0 := l } 0 x).written1.size := by rw [cw0, cw1]; exact hm
                have hsum : IntKind.i64.wrap ((r0 : Int) + (x.data.length : Int)) = (r0 : Int) + (x.data.length : Int) := by rw [wi_of (by omega) (by omega)]
                have hbr2 := hst2.br
                clear hst hrun hwr hm cw0 cw1 hxm hb
                generalize hU : comes { u with way0 := l } 0 x = U2 at hst2 hrun2 hwr2 hm2
                all_goals (repeat' (first
      | (refine tri_condT (b_true (by simp; with_reducible exact IsB.mk)) ?_)
      | (refine tri_condF (b_true (by simp; with_reducible exact IsB.mk)) ?_)
      | (refine tri_skipT ?_)
      | (refine th_n ?_)
      | (refine in_n ?_)
      | (refine tri_block ?_)
      | (refine tri_step (id := 14) (C := ⟨[], [13, 14, 15], [(6, (7, 0, 0)), (41, (4, 0, 0)), (47, (30, 0, 0)), (56, (30, 0, 0)), (62, (30, 0, 0)), (95, (30, 0, 0)), (100, (30, 0, 0)), (103, (7, 0, 0)), (105, (12, 0, 0)), (109, (7, 0, 0)), (129, (30, 0, 0)), (136, (30, 0, 0)), (138, (4, 0, 0)), (147, (30, 0, 0)), (149, (4, 0, 0)), (156, (4, 0, 0)), (159, (4, 0, 0)), (170, (30, 0, 0)), (179, (30, 0, 0))]⟩) [3, 5, 6, 7, 9, 66] [(4, 0, 0), (7, 0, 0), (30, 0, 0)] g3 (fun _ => ⟨q_mixed, by kernel_rfl⟩) ?_; refine ⟨_, by (simp [*, F11, F12, F13, F14, F15, undef, twoBCells, asTw, flg]; exact Is.mk), ?_⟩)
      | (refine tri_last (id := 15) (C := ⟨[], [13, 14, 15], [(6, (7, 0, 0)), (41, (4, 0, 0)), (47, (30, 0, 0)), (56, (30, 0, 0)), (62, (30, 0, 0)), (95, (30, 0, 0)), (100, (30, 0, 0)), (103, (7, 0, 0)), (105, (12, 0, 0)), (109, (7, 0, 0)), (129, (30, 0, 0)), (136, (30, 0, 0)), (138, (4, 0, 0)), (147, (30, 0, 0)), (149, (4, 0, 0)), (156, (4, 0, 0)), (159, (4, 0, 0)), (170, (30, 0, 0)), (179, (30, 0, 0))]⟩) [3, 5, 6, 7, 9] [(4, 0, 0), (7, 0, 0), (30, 0, 0)] g3 nodraw ?_; refine ⟨_, by (simp [*, F11, F12, F13, F14, F15, undef, twoBCells, asTw, flg]; exact Is.mk), ?_⟩)
      | (refine tri_step (id := 16) (C := ⟨[], [13, 14, 15], [(6, (7, 0, 0)), (41, (4, 0, 0)), (47, (30, 0, 0)), (56, (30, 0, 0)), (62, (30, 0, 0)), (95, (30, 0, 0)), (100, (30, 0, 0)), (103, (7, 0, 0)), (105, (12, 0, 0)), (109, (7, 0, 0)), (129, (30, 0, 0)), (136, (30, 0, 0)), (138, (4, 0, 0)), (147, (30, 0, 0)), (149, (4, 0, 0)), (156, (4, 0, 0)), (159, (4, 0, 0)), (170, (30, 0, 0)), (179, (30, 0, 0))]⟩) [3, 5, 6, 7, 9, 70] [(4, 0, 0), (7, 0, 0), (30, 0, 0)] g3 nodraw ?_; refine ⟨_, by (simp [*, F11, F12, F13, F14, F15, undef, twoBCells, asTw, flg]; exact Is.mk), ?_⟩)
      | (refine tri_step (id := 18) (C := ⟨[], [13, 14, 15], [(6, (7, 0, 0)), (41, (4, 0, 0)), (47, (30, 0, 0)), (56, (30, 0, 0)), (62, (30, 0, 0)), (95, (30, 0, 0)), (100, (30, 0, 0)), (103, (7, 0, 0)), (105, (12, 0, 0)), (109, (7, 0, 0)), (129, (30, 0, 0)), (136, (30, 0, 0)), (138, (4, 0, 0)), (147, (30, 0, 0)), (149, (4, 0, 0)), (156, (4, 0, 0)), (159, (4, 0, 0)), (170, (30, 0, 0)), (179, (30, 0, 0))]⟩) [3, 5, 6, 7, 9, 10] [(4, 0, 0), (7, 0, 0), (30, 0, 0)] g3 nodraw ?_; refine ⟨_, by (simp [*, F11, F12, F13, F14, F15, undef, twoBCells, asTw, flg]; exact Is.mk), ?_⟩)
      | (refine tri_step (id := 19) (C := ⟨[], [13, 14, 15], [(6, (7, 0, 0)), (41, (4, 0, 0)), (47, (30, 0, 0)), (56, (30, 0, 0)), (62, (30, 0, 0)), (95, (30, 0, 0)), (100, (30, 0, 0)), (103, (7, 0, 0)), (105, (12, 0, 0)), (109, (7, 0, 0)), (129, (30, 0, 0)), (136, (30, 0, 0)), (138, (4, 0, 0)), (147, (30, 0, 0)), (149, (4, 0, 0)), (156, (4, 0, 0)), (159, (4, 0, 0)), (170, (30, 0, 0)), (179, (30, 0, 0))]⟩) [3, 5, 6, 7, 9, 10, 80] [(4, 0, 0), (7, 0, 0), (30, 0, 0)] g3 nodraw ?_; refine ⟨_, by (simp [*, F11, F12, F13, F14, F15, undef, twoBCells, asTw, flg]; exact Is.mk), ?_⟩)
      | (refine tri_step (id := 20) (C := ⟨[], [13, 14, 15], [(6, (7, 0, 0)), (41, (4, 0, 0)), (47, (30, 0, 0)), (56, (30, 0, 0)), (62, (30, 0, 0)), (95, (30, 0, 0)), (100, (30, 0, 0)), (103, (7, 0, 0)), (105, (12, 0, 0)), (109, (7, 0, 0)), (129, (30, 0, 0)), (136, (30, 0, 0)), (138, (4, 0, 0)), (147, (30, 0, 0)), (149, (4, 0, 0)), (156, (4, 0, 0)), (159, (4, 0, 0)), (170, (30, 0, 0)), (179, (30, 0, 0))]⟩) [3, 5, 6, 7, 9, 10, 11] [(4, 0, 0), (7, 0, 0), (12, 0, 0), (30, 0, 0)] g3 nodraw ?_; refine ⟨_, by (simp [*, F11, F12, F13, F14, F15, undef, twoBCells, asTw, flg]; exact Is.mk), ?_⟩)
      | (refine tri_step (id := 21) (C := ⟨[], [13, 14, 15], [(6, (7, 0, 0)), (41, (4, 0, 0)), (47, (30, 0, 0)), (56, (30, 0, 0)), (62, (30, 0, 0)), (95, (30, 0, 0)), (100, (30, 0, 0)), (103, (7, 0, 0)), (105, (12, 0, 0)), (109, (7, 0, 0)), (129, (30, 0, 0)), (136, (30, 0, 0)), (138, (4, 0, 0)), (147, (30, 0, 0)), (149, (4, 0, 0)), (156, (4, 0, 0)), (159, (4, 0, 0)), (170, (30, 0, 0)), (179, (30, 0, 0))]⟩) [3, 5, 6, 7, 9, 10, 11] [(4, 0, 0), (7, 0, 0), (12, 0, 0), (30, 0, 0)] g3 (fun _ => ⟨q_mixed, by kernel_rfl⟩) ?_; refine ⟨_, by (simp [*, F11, F12, F13, F14, F15, undef, twoBCells, asTw, flg]; exact Is.mk), ?_⟩)
      | (refine tri_step (id := 22) (C := ⟨[], [13, 14, 15], [(6, (7, 0, 0)), (41, (4, 0, 0)), (47, (30, 0, 0)), (56, (30, 0, 0)), (62, (30, 0, 0)), (95, (30, 0, 0)), (100, (30, 0, 0)), (103, (7, 0, 0)), (105, (12, 0, 0)), (109, (7, 0, 0)), (129, (30, 0, 0)), (136, (30, 0, 0)), (138, (4, 0, 0)), (147, (30, 0, 0)), (149, (4, 0, 0)), (156, (4, 0, 0)), (159, (4, 0, 0)), (170, (30, 0, 0)), (179, (30, 0, 0))]⟩) [3, 5, 6, 7, 9, 10, 11] [(4, 0, 0), (7, 0, 0), (12, 0, 0), (30, 0, 0)] g3 (fun _ => ⟨q_mixed, by kernel_rfl⟩) ?_; refine ⟨_, by (simp [*, F11, F12, F13, F14, F15, undef, twoBCells, asTw, flg]; exact Is.mk), ?_⟩)
      | (refine tri_last (id := 23) (C := ⟨[], [13, 14, 15], [(6, (7, 0, 0)), (41, (4, 0, 0)), (47, (30, 0, 0)), (56, (30, 0, 0)), (62, (30, 0, 0)), (95, (30, 0, 0)), (100, (30, 0, 0)), (103, (7, 0, 0)), (105, (12, 0, 0)), (109, (7, 0, 0)), (129, (30, 0, 0)), (136, (30, 0, 0)), (138, (4, 0, 0)), (147, (30, 0, 0)), (149, (4, 0, 0)), (156, (4, 0, 0)), (159, (4, 0, 0)), (170, (30, 0, 0)), (179, (30, 0, 0))]⟩) [3, 5, 6, 7, 9] [(4, 0, 0), (7, 0, 0), (30, 0, 0)] g3 nodraw ?_; refine ⟨_, by (simp [*, F11, F12, F13, F14, F15, undef, twoBCells, asTw, flg]; exact Is.mk), ?_⟩)
      | (refine tri_seq ?_)
      ))
                refine ⟨70 - n, _, by omega, Le.refl _, n + 1, r0 + x.data.length, r1, U2, by omega, hst2, hrun2, hwr2, hm2, ?_⟩
                simp
            · have hnm : n % 2 = 1 := by rw [Int.tmod_eq_emod_of_nonneg (by omega)] at hpar; omega
              cases hw : u.way1 with
              | nil =>
                have hst2 := stage_skip1 hst (by omega) hw (fun q => hb ⟨q, hw⟩)
                have hpos : decide (0 < IntKind.i64.wrap ((u.way0.length : Int))) = true := wi_pos (by have : u.way0 ≠ [] := (fun q => hb ⟨q, hw⟩); have := List.length_pos_iff.2 this; omega) (by omega)
                clear hst hb
                all_goals (repeat' (first
      | (refine tri_condT (b_true (by simp; with_reducible exact IsB.mk)) ?_)
      | (refine tri_condF (b_true (by simp; with_reducible exact IsB.mk)) ?_)
      | (refine tri_skipT ?_)
      | (refine th_n ?_)
      | (refine in_e ?_)
      | (refine th_e ?_)
      | (refine tri_exit ?_)
      | (refine tri_block ?_)
      | (refine tri_step (id := 14) (C := ⟨[], [13, 14, 15], [(6, (7, 0, 0)), (41, (4, 0, 0)), (47, (30, 0, 0)), (56, (30, 0, 0)), (62, (30, 0, 0)), (95, (30, 0, 0)), (100, (30, 0, 0)), (103, (7, 0, 0)), (105, (12, 0, 0)), (109, (7, 0, 0)), (129, (30, 0, 0)), (136, (30, 0, 0)), (138, (4, 0, 0)), (147, (30, 0, 0)), (149, (4, 0, 0)), (156, (4, 0, 0)), (159, (4, 0, 0)), (170, (30, 0, 0)), (179, (30, 0, 0))]⟩) [3, 5, 6, 7, 9, 66] [(4, 0, 0), (7, 0, 0), (30, 0, 0)] g3 (fun _ => ⟨q_mixed, by kernel_rfl⟩) ?_; refine ⟨_, by (simp [*, F11, F12, F13, F14, F15, undef, twoBCells, asTw, flg]; exact Is.mk), ?_⟩)
      | (refine tri_last (id := 15) (C := ⟨[], [13, 14, 15], [(6, (7, 0, 0)), (41, (4, 0, 0)), (47, (30, 0, 0)), (56, (30, 0, 0)), (62, (30, 0, 0)), (95, (30, 0, 0)), (100, (30, 0, 0)), (103, (7, 0, 0)), (105, (12, 0, 0)), (109, (7, 0, 0)), (129, (30, 0, 0)), (136, (30, 0, 0)), (138, (4, 0, 0)), (147, (30, 0, 0)), (149, (4, 0, 0)), (156, (4, 0, 0)), (159, (4, 0, 0)), (170, (30, 0, 0)), (179, (30, 0, 0))]⟩) [3, 5, 6, 7, 9] [(4, 0, 0), (7, 0, 0), (30, 0, 0)] g3 nodraw ?_; refine ⟨_, by (simp [*, F11, F12, F13, F14, F15, undef, twoBCells, asTw, flg]; exact Is.mk), ?_⟩)
      | (refine tri_step (id := 16) (C := ⟨[], [13, 14, 15], [(6, (7, 0, 0)), (41, (4, 0, 0)), (47, (30, 0, 0)), (56, (30, 0, 0)), (62, (30, 0, 0)), (95, (30, 0, 0)), (100, (30, 0, 0)), (103, (7, 0, 0)), (105, (12, 0, 0)), (109, (7, 0, 0)), (129, (30, 0, 0)), (136, (30, 0, 0)), (138, (4, 0, 0)), (147, (30, 0, 0)), (149, (4, 0, 0)), (156, (4, 0, 0)), (159, (4, 0, 0)), (170, (30, 0, 0)), (179, (30, 0, 0))]⟩) [3, 5, 6, 7, 9, 70] [(4, 0, 0), (7, 0, 0), (30, 0, 0)] g3 nodraw ?_; refine ⟨_, by (simp [*, F11, F12, F13, F14, F15, undef, twoBCells, asTw, flg]; exact Is.mk), ?_⟩)
      | (refine tri_step (id := 18) (C := ⟨[], [13, 14, 15], [(6, (7, 0, 0)), (41, (4, 0, 0)), (47, (30, 0, 0)), (56, (30, 0, 0)), (62, (30, 0, 0)), (95, (30, 0, 0)), (100, (30, 0, 0)), (103, (7, 0, 0)), (105, (12, 0, 0)), (109, (7, 0, 0)), (129, (30, 0, 0)), (136, (30, 0, 0)), (138, (4, 0, 0)), (147, (30, 0, 0)), (149, (4, 0, 0)), (156, (4, 0, 0)), (159, (4, 0, 0)), (170, (30, 0, 0)), (179, (30, 0, 0))]⟩) [3, 5, 6, 7, 9, 10] [(4, 0, 0), (7, 0, 0), (30, 0, 0)] g3 nodraw ?_; refine ⟨_, by (simp [*, F11, F12, F13, F14, F15, undef, twoBCells, asTw, flg]; exact Is.mk), ?_⟩)
      | (refine tri_step (id := 19) (C := ⟨[], [13, 14, 15], [(6, (7, 0, 0)), (41, (4, 0, 0)), (47, (30, 0, 0)), (56, (30, 0, 0)), (62, (30, 0, 0)), (95, (30, 0, 0)), (100, (30, 0, 0)), (103, (7, 0, 0)), (105, (12, 0, 0)), (109, (7, 0, 0)), (129, (30, 0, 0)), (136, (30, 0, 0)), (138, (4, 0, 0)), (147, (30, 0, 0)), (149, (4, 0, 0)), (156, (4, 0, 0)), (159, (4, 0, 0)), (170, (30, 0, 0)), (179, (30, 0, 0))]⟩) [3, 5, 6, 7, 9, 10, 80] [(4, 0, 0), (7, 0, 0), (30, 0, 0)] g3 nodraw ?_; refine ⟨_, by (simp [*, F11, F12, F13, F14, F15, undef, twoBCells, asTw, flg]; exact Is.mk), ?_⟩)
      | (refine tri_seq ?_)
      ))
                refine ⟨70 - n, _, by omega, Le.refl _, n + 1, r0, r1, u, by omega, hst2, hrun, hwr, hm, rfl⟩
              | cons x l =>
                have hxm : x ∈ u.way1 := by rw [hw]; exact List.mem_cons_self
                have hxl : x.data.length ≤ 4096 := (hrun.ok.w1 x hxm).d0
                have hll : l.length ≤ 100 := by rw [hw] at htw1; simp only [List.length_cons] at htw1; omega
                have hn0 : ((l.length : Int) + 1 == 0) = false := by simp; omega
                have hpos : decide (0 < IntKind.i64.wrap ((u.way0.length : Int) + ((l.length : Int) + 1))) = true := wi_pos (by omega) (by omega)
                have hst2 := stage_come1 hst (by omega) hw
                obtain ⟨hcp, hrun2⟩ := run_come1 hrun hw hst2
                obtain ⟨-, cw0, cw1⟩ := comes_first1 { u with way1 := l } x
                have hwr2 : Wr text.a text.b (comes { u with way1 := l } 1 x) := ⟨by rw [cw0]; exact hwr.e0, by rw [cw0]; exact hwr.l0, by rw [cw1]; exact hwr.e1, by rw [cw1]; exact hwr.l1⟩
                have hm2 : min text.a.length (256 * (j + 1)) ≤ (comes { u with way1 := l } 1 x).written0.size ∧ min text.b.length (256 * j) ≤ (comes { u with way1 := l } 1 x).written1.size := by rw [cw0, cw1]; exact hm
                have hsum : IntKind.i64.wrap ((r1 : Int) + (x.data.length : Int)) = (r1 : Int) + (x.data.length : Int) := by rw [wi_of (by omega) (by omega)]
                have hbr2 := hst2.br
                clear hst hrun hwr hm cw0 cw1 hxm hb
                generalize hU : comes { u with way1 := l } 1 x = U2 at hst2 hrun2 hwr2 hm2
                all_goals (repeat' (first
      | (refine tri_condT (b_true (by simp; with_reducible exact IsB.mk)) ?_)
      | (refine tri_condF (b_true (by simp; with_reducible exact IsB.mk)) ?_)
      | (refine tri_skipT ?_)
      | (refine th_n ?_)
      | (refine in_n ?_)
      | (refine tri_block ?_)
      | (refine tri_step (id := 14) (C := ⟨[], [13, 14, 15], [(6, (7, 0, 0)), (41, (4, 0, 0)), (47, (30, 0, 0)), (56, (30, 0, 0)), (62, (30, 0, 0)), (95, (30, 0, 0)), (100, (30, 0, 0)), (103, (7, 0, 0)), (105, (12, 0, 0)), (109, (7, 0, 0)), (129, (30, 0, 0)), (136, (30, 0, 0)), (138, (4, 0, 0)), (147, (30, 0, 0)), (149, (4, 0, 0)), (156, (4, 0, 0)), (159, (4, 0, 0)), (170, (30, 0, 0)), (179, (30, 0, 0))]⟩) [3, 5, 6, 7, 9, 66] [(4, 0, 0), (7, 0, 0), (30, 0, 0)] g3 (fun _ => ⟨q_mixed, by kernel_rfl⟩) ?_; refine ⟨_, by (simp [*, F11, F12, F13, F14, F15, undef, twoBCells, asTw, flg]; exact Is.mk), ?_⟩)
      | (refine tri_last (id := 15) (C := ⟨[], [13, 14, 15], [(6, (7, 0, 0)), (41, (4, 0, 0)), (47, (30, 0, 0)), (56, (30, 0, 0)), (62, (30, 0, 0)), (95, (30, 0, 0)), (100, (30, 0, 0)), (103, (7, 0, 0)), (105, (12, 0, 0)), (109, (7, 0, 0)), (129, (30, 0, 0)), (136, (30, 0, 0)), (138, (4, 0, 0)), (147, (30, 0, 0)), (149, (4, 0, 0)), (156, (4, 0, 0)), (159, (4, 0, 0)), (170, (30, 0, 0)), (179, (30, 0, 0))]⟩) [3, 5, 6, 7, 9] [(4, 0, 0), (7, 0, 0), (30, 0, 0)] g3 nodraw ?_; refine ⟨_, by (simp [*, F11, F12, F13, F14, F15, undef, twoBCells, asTw, flg]; exact Is.mk), ?_⟩)
      | (refine tri_step (id := 16) (C := ⟨[], [13, 14, 15], [(6, (7, 0, 0)), (41, (4, 0, 0)), (47, (30, 0, 0)), (56, (30, 0, 0)), (62, (30, 0, 0)), (95, (30, 0, 0)), (100, (30, 0, 0)), (103, (7, 0, 0)), (105, (12, 0, 0)), (109, (7, 0, 0)), (129, (30, 0, 0)), (136, (30, 0, 0)), (138, (4, 0, 0)), (147, (30, 0, 0)), (149, (4, 0, 0)), (156, (4, 0, 0)), (159, (4, 0, 0)), (170, (30, 0, 0)), (179, (30, 0, 0))]⟩) [3, 5, 6, 7, 9, 70] [(4, 0, 0), (7, 0, 0), (30, 0, 0)] g3 nodraw ?_; refine ⟨_, by (simp [*, F11, F12, F13, F14, F15, undef, twoBCells, asTw, flg]; exact Is.mk), ?_⟩)
      | (refine tri_step (id := 18) (C := ⟨[], [13, 14, 15], [(6, (7, 0, 0)), (41, (4, 0, 0)), (47, (30, 0, 0)), (56, (30, 0, 0)), (62, (30, 0, 0)), (95, (30, 0, 0)), (100, (30, 0, 0)), (103, (7, 0, 0)), (105, (12, 0, 0)), (109, (7, 0, 0)), (129, (30, 0, 0)), (136, (30, 0, 0)), (138, (4, 0, 0)), (147, (30, 0, 0)), (149, (4, 0, 0)), (156, (4, 0, 0)), (159, (4, 0, 0)), (170, (30, 0, 0)), (179, (30, 0, 0))]⟩) [3, 5, 6, 7, 9, 10] [(4, 0, 0), (7, 0, 0), (30, 0, 0)] g3 nodraw ?_; refine ⟨_, by (simp [*, F11, F12, F13, F14, F15, undef, twoBCells, asTw, flg]; exact Is.mk), ?_⟩)
      | (refine tri_step (id := 19) (C := ⟨[], [13, 14, 15], [(6, (7, 0, 0)), (41, (4, 0, 0)), (47, (30, 0, 0)), (56, (30, 0, 0)), (62, (30, 0, 0)), (95, (30, 0, 0)), (100, (30, 0, 0)), (103, (7, 0, 0)), (105, (12, 0, 0)), (109, (7, 0, 0)), (129, (30, 0, 0)), (136, (30, 0, 0)), (138, (4, 0, 0)), (147, (30, 0, 0)), (149, (4, 0, 0)), (156, (4, 0, 0)), (159, (4, 0, 0)), (170, (30, 0, 0)), (179, (30, 0, 0))]⟩) [3, 5, 6, 7, 9, 10, 80] [(4, 0, 0), (7, 0, 0), (30, 0, 0)] g3 nodraw ?_; refine ⟨_, by (simp [*, F11, F12, F13, F14, F15, undef, twoBCells, asTw, flg]; exact Is.mk), ?_⟩)
      | (refine tri_step (id := 20) (C := ⟨[], [13, 14, 15], [(6, (7, 0, 0)), (41, (4, 0, 0)), (47, (30, 0, 0)), (56, (30, 0, 0)), (62, (30, 0, 0)), (95, (30, 0, 0)), (100, (30, 0, 0)), (103, (7, 0, 0)), (105, (12, 0, 0)), (109, (7, 0, 0)), (129, (30, 0, 0)), (136, (30, 0, 0)), (138, (4, 0, 0)), (147, (30, 0, 0)), (149, (4, 0, 0)), (156, (4, 0, 0)), (159, (4, 0, 0)), (170, (30, 0, 0)), (179, (30, 0, 0))]⟩) [3, 5, 6, 7, 9, 10, 11] [(4, 0, 0), (7, 0, 0), (12, 0, 0), (30, 0, 0)] g3 nodraw ?_; refine ⟨_, by (simp [*, F11, F12, F13, F14, F15, undef, twoBCells, asTw, flg]; exact Is.mk), ?_⟩)
      | (refine tri_step (id := 21) (C := ⟨[], [13, 14, 15], [(6, (7, 0, 0)), (41, (4, 0, 0)), (47, (30, 0, 0)), (56, (30, 0, 0)), (62, (30, 0, 0)), (95, (30, 0, 0)), (100, (30, 0, 0)), (103, (7, 0, 0)), (105, (12, 0, 0)), (109, (7, 0, 0)), (129, (30, 0, 0)), (136, (30, 0, 0)), (138, (4, 0, 0)), (147, (30, 0, 0)), (149, (4, 0, 0)), (156, (4, 0, 0)), (159, (4, 0, 0)), (170, (30, 0, 0)), (179, (30, 0, 0))]⟩) [3, 5, 6, 7, 9, 10, 11] [(4, 0, 0), (7, 0, 0), (12, 0, 0), (30, 0, 0)] g3 (fun _ => ⟨q_mixed, by kernel_rfl⟩) ?_; refine ⟨_, by (simp [*, F11, F12, F13, F14, F15, undef, twoBCells, asTw, flg]; exact Is.mk), ?_⟩)
      | (refine tri_step (id := 22) (C := ⟨[], [13, 14, 15], [(6, (7, 0, 0)), (41, (4, 0, 0)), (47, (30, 0, 0)), (56, (30, 0, 0)), (62, (30, 0, 0)), (95, (30, 0, 0)), (100, (30, 0, 0)), (103, (7, 0, 0)), (105, (12, 0, 0)), (109, (7, 0, 0)), (129, (30, 0, 0)), (136, (30, 0, 0)), (138, (4, 0, 0)), (147, (30, 0, 0)), (149, (4, 0, 0)), (156, (4, 0, 0)), (159, (4, 0, 0)), (170, (30, 0, 0)), (179, (30, 0, 0))]⟩) [3, 5, 6, 7, 9, 10, 11] [(4, 0, 0), (7, 0, 0), (12, 0, 0), (30, 0, 0)] g3 (fun _ => ⟨q_mixed, by kernel_rfl⟩) ?_; refine ⟨_, by (simp [*, F11, F12, F13, F14, F15, undef, twoBCells, asTw, flg]; exact Is.mk), ?_⟩)
      | (refine tri_last (id := 23) (C := ⟨[], [13, 14, 15], [(6, (7, 0, 0)), (41, (4, 0, 0)), (47, (30, 0, 0)), (56, (30, 0, 0)), (62, (30, 0, 0)), (95, (30, 0, 0)), (100, (30, 0, 0)), (103, (7, 0, 0)), (105, (12, 0, 0)), (109, (7, 0, 0)), (129, (30, 0, 0)), (136, (30, 0, 0)), (138, (4, 0, 0)), (147, (30, 0, 0)), (149, (4, 0, 0)), (156, (4, 0, 0)), (159, (4, 0, 0)), (170, (30, 0, 0)), (179, (30, 0, 0))]⟩) [3, 5, 6, 7, 9] [(4, 0, 0), (7, 0, 0), (30, 0, 0)] g3 nodraw ?_; refine ⟨_, by (simp [*, F11, F12, F13, F14, F15, undef, twoBCells, asTw, flg]; exact Is.mk), ?_⟩)
      | (refine tri_seq ?_)
      ))
                refine ⟨70 - n, _, by omega, Le.refl _, n + 1, r0, r1 + x.data.length, U2, by omega, hst2, hrun2, hwr2, hm2, ?_⟩
                simp
      · have hj2 : j = 60 := by omega
        subst hj2
        obtain ⟨hwrong, hr0, hr1, hs0, hs1, ht0, ht1⟩ := turn_end hA2 hB2 ht
        subst hs0
        subst hs1
        unfold bytesS at hr0 hr1
        clear ht
        all_goals (repeat' (first
      | (refine tri_condF (b_true (by simp; with_reducible exact IsB.mk)) ?_)
      | (refine th_n ?_)
      | (refine in_e ?_)
      | (refine th_e ?_)
      | (refine tri_ret ?_)
      | (refine tri_exit ?_)
      | (refine tri_step (id := 6) (C := ⟨[], [13, 14, 15], [(6, (7, 0, 0)), (41, (4, 0, 0)), (47, (30, 0, 0)), (56, (30, 0, 0)), (62, (30, 0, 0)), (95, (30, 0, 0)), (100, (30, 0, 0)), (103, (7, 0, 0)), (105, (12, 0, 0)), (109, (7, 0, 0)), (129, (30, 0, 0)), (136, (30, 0, 0)), (138, (4, 0, 0)), (147, (30, 0, 0)), (149, (4, 0, 0)), (156, (4, 0, 0)), (159, (4, 0, 0)), (170, (30, 0, 0)), (179, (30, 0, 0))]⟩) [3, 5, 6, 7, 32] [(4, 0, 0), (7, 0, 0), (30, 0, 0)] g3 nodraw ?_; refine ⟨_, by (simp [*, F11, F12, F13, F14, F15, undef, twoBCells, asTw, flg]; exact Is.mk), ?_⟩)
      | (refine tri_step (id := 30) (C := ⟨[], [13, 14, 15], [(6, (7, 0, 0)), (41, (4, 0, 0)), (47, (30, 0, 0)), (56, (30, 0, 0)), (62, (30, 0, 0)), (95, (30, 0, 0)), (100, (30, 0, 0)), (103, (7, 0, 0)), (105, (12, 0, 0)), (109, (7, 0, 0)), (129, (30, 0, 0)), (136, (30, 0, 0)), (138, (4, 0, 0)), (147, (30, 0, 0)), (149, (4, 0, 0)), (156, (4, 0, 0)), (159, (4, 0, 0)), (170, (30, 0, 0)), (179, (30, 0, 0))]⟩) [4] [] g3 (fun _ => ⟨q_mixed, by kernel_rfl⟩) ?_; refine ⟨_, by (simp [*, F11, F12, F13, F14, F15, undef, twoBCells, asTw, flg]; exact Is.mk), ?_⟩)
      | (refine tri_seq ?_)
      ))
        all_goals (refine post_plainV (P := Try.prog) (fn := Try.f3) (by simp; exact IsV.mk) rfl ?_)
        all_goals (first | (simp [F11, F12, F13, F14, F15, undef, twoBCells, asTw, flg]; done) | (simp [*, F11, F12, F13, F14, F15, undef, twoBCells, asTw, flg]; done) | (simp_all [F11, F12, F13, F14, F15, undef, twoBCells, asTw, flg]; done) | (simp [F11, F12, F13, F14, F15, undef, twoBCells, asTw, flg] <;> (repeat' split) <;> simp_all; done) | (simp [F11, F12, F13, F14, F15, undef, twoBCells, asTw, flg] <;> (repeat' split) <;> simp_all [Bool.and_assoc] <;> grind [List.length_eq_zero_iff, sendCells_co, recvCells_co, pieceCells_co, connCells_co, segCells_co, clockCells_co]))
end Go.Proofs.Ytkjodjaamjnejaa

