import Derived.Test.YtkjodjaamjnejaaK12
import Derived.Test.YtkjodjaamjnejaaP1
import Derived.Test.YtkjodjaamjnejaaP10
import Derived.Test.YtkjodjaamjnejaaK11
import Derived.Test.YtkjodjaamjnejaaP17
import Derived.Test.YtkjodjaamjnejaaP9
import Derived.Test.YtkjodjaamjnejaaK13
import Derived.Test.YtkjodjaamjnejaaK14
set_option linter.all false
set_option linter.all false
namespace Go.Proofs.Ytkjodjaamjnejaa
open Go Go.RowKit Caw
theorem prun_map {α β : Type} (f : α → β) (s : Sem α) : prun Try.prog (f <$> s) = (prun Try.prog s).map f := by
  show prun Try.prog (s >>= fun x => pure (f x)) = _
  rw [prun_bind]
  cases prun Try.prog s <;> rfl
theorem prun_prog : prun Try.prog program = some Try.prog := rfl
theorem stood42 : Try.prog.stoodInHeld 42 = false := by kernel_rfl
theorem stood35 : Try.prog.stoodInHeld 35 = false := by kernel_rfl
theorem eq_clock (d : Nat) (a b c : Int) : prun Try.prog (Op.equalIn (d + 2) 42 (.agg #[.int .i64 a, .int .i64 b, .int .i64 c]) (.agg #[.int .i64 a, .int .i64 b, .int .i64 c])) = some true := by
  have p0 : prun Try.prog (part 2 #[.int .i64 a, .int .i64 b, .int .i64 c] 0) = some (.int .i64 a) := by kernel_rfl
  have p1 : prun Try.prog (part 2 #[.int .i64 a, .int .i64 b, .int .i64 c] 1) = some (.int .i64 b) := by kernel_rfl
  have p2 : prun Try.prog (part 2 #[.int .i64 a, .int .i64 b, .int .i64 c] 2) = some (.int .i64 c) := by kernel_rfl
  rw [Op.equalIn, prun_bind, prun_und Try.underlying42]
  simp [prun_bind, prun_pure, prun_prog, stood42, p0, p1, p2, eq_int Try.underlying2]
theorem eq_ip (d : Nat) (a b c e : Int) : prun Try.prog (Op.equalIn (d + 2) 32 (.agg #[.int .u8 a, .int .u8 b, .int .u8 c, .int .u8 e]) (.agg #[.int .u8 a, .int .u8 b, .int .u8 c, .int .u8 e])) = some true := by
  have p0 : prun Try.prog (part 5 #[.int .u8 a, .int .u8 b, .int .u8 c, .int .u8 e] 0) = some (.int .u8 a) := by kernel_rfl
  have p1 : prun Try.prog (part 5 #[.int .u8 a, .int .u8 b, .int .u8 c, .int .u8 e] 1) = some (.int .u8 b) := by kernel_rfl
  have p2 : prun Try.prog (part 5 #[.int .u8 a, .int .u8 b, .int .u8 c, .int .u8 e] 2) = some (.int .u8 c) := by kernel_rfl
  have p3 : prun Try.prog (part 5 #[.int .u8 a, .int .u8 b, .int .u8 c, .int .u8 e] 3) = some (.int .u8 e) := by kernel_rfl
  have ps : prun Try.prog (Go.sizeOf 5) = some 1 := by kernel_rfl
  rw [Op.equalIn, prun_bind, prun_und Try.underlying32]
  simp [prun_bind, prun_pure, prun_prog, ps, p0, p1, p2, p3, eq_int Try.underlying5, List.range', Std.Legacy.Range.forIn_eq_forIn_range']
theorem eq_addr (d : Nat) (a b c e p : Int) : prun Try.prog (Op.equalIn (d + 3) 35 (.agg #[.int .u8 a, .int .u8 b, .int .u8 c, .int .u8 e, .int .u16 p]) (.agg #[.int .u8 a, .int .u8 b, .int .u8 c, .int .u8 e, .int .u16 p])) = some true := by
  have p0 : prun Try.prog (part 32 #[.int .u8 a, .int .u8 b, .int .u8 c, .int .u8 e, .int .u16 p] 0) = some (.agg #[.int .u8 a, .int .u8 b, .int .u8 c, .int .u8 e]) := by kernel_rfl
  have p1 : prun Try.prog (part 33 #[.int .u8 a, .int .u8 b, .int .u8 c, .int .u8 e, .int .u16 p] 4) = some (.int .u16 p) := by kernel_rfl
  rw [Op.equalIn, prun_bind, prun_und Try.underlying35]
  simp [prun_bind, prun_pure, prun_prog, stood35, p0, p1, eq_int Try.underlying33, eq_ip]
@[simp] theorem ops_eq35 (x y : Operand) (n : TypeId) : (Op.binOp .eql 35 x y n).operands = #[x, y] := by simp [Op.operands]
@[simp] theorem ops_eq42 (x y : Operand) (n : TypeId) : (Op.binOp .eql 42 x y n).operands = #[x, y] := by simp [Op.operands]
def asAd : Value → Option (Int × Int × Int × Int × Int)
  | .agg a => match a.toList with
    | [.int .u8 a, .int .u8 b, .int .u8 c, .int .u8 d, .int .u16 p] => some (a, b, c, d, p)
    | _ => none
  | _ => none
theorem asAd_eq {v : Value} {a b c d p : Int} (h : asAd v = some (a, b, c, d, p)) : v = .agg #[.int .u8 a, .int .u8 b, .int .u8 c, .int .u8 d, .int .u16 p] := by
  unfold asAd at h
  split at h
  · rename_i xs
    split at h
    · rename_i e
      obtain ⟨l⟩ := xs
      simp only at e
      cases h
      rw [e]
    · cases h
  · cases h
def asCk : Value → Option (Int × Int × Int)
  | .agg a => match a.toList with
    | [.int .i64 a, .int .i64 b, .int .i64 c] => some (a, b, c)
    | _ => none
  | _ => none
theorem asCk_eq {v : Value} {a b c : Int} (h : asCk v = some (a, b, c)) : v = .agg #[.int .i64 a, .int .i64 b, .int .i64 c] := by
  unfold asCk at h
  split at h
  · rename_i xs
    split at h
    · rename_i e
      obtain ⟨l⟩ := xs
      simp only at e
      cases h
      rw [e]
    · cases h
  · cases h
@[simp] theorem prun_addr (g : Operand → Value) (x y : Operand) (dd : Option Tmp) (n ty : TypeId) (pos : String) (af : Array Edge) (gu : Option (Nat × Bool)) (h1 : (asAd (g x)).isSome = true) (h2 : asAd (g y) = asAd (g x)) :
    prun Try.prog (execOp g ⟨dd, .binOp .eql 35 x y n, ty, pos, af, gu⟩) = some (.value (.bool true)) := by
  obtain ⟨⟨a, b, c, e, p⟩, hx⟩ := Option.isSome_iff_exists.1 h1
  have hy := h2.trans hx
  have ex := asAd_eq hx
  have ey := asAd_eq hy
  have g0 : prun Try.prog (eqGuard .eql 35 x y (.agg #[.int .u8 a, .int .u8 b, .int .u8 c, .int .u8 e, .int .u16 p]) (.agg #[.int .u8 a, .int .u8 b, .int .u8 c, .int .u8 e, .int .u16 p])) = some () := by kernel_rfl
  have g1 : prun Try.prog (Op.equal 35 (.agg #[.int .u8 a, .int .u8 b, .int .u8 c, .int .u8 e, .int .u16 p]) (.agg #[.int .u8 a, .int .u8 b, .int .u8 c, .int .u8 e, .int .u16 p])) = some true := eq_addr 9997 a b c e p
  unfold execOp
  simp only []
  rw [ex, ey]
  simp [prun_bind, prun_pure, prun_map, g0, binOp, g1]
@[simp] theorem prun_clock (g : Operand → Value) (x y : Operand) (dd : Option Tmp) (n ty : TypeId) (pos : String) (af : Array Edge) (gu : Option (Nat × Bool)) (h1 : (asCk (g x)).isSome = true) (h2 : asCk (g y) = asCk (g x)) :
    prun Try.prog (execOp g ⟨dd, .binOp .eql 42 x y n, ty, pos, af, gu⟩) = some (.value (.bool true)) := by
  obtain ⟨⟨a, b, c⟩, hx⟩ := Option.isSome_iff_exists.1 h1
  have hy := h2.trans hx
  have ex := asCk_eq hx
  have ey := asCk_eq hy
  have g0 : prun Try.prog (eqGuard .eql 42 x y (.agg #[.int .i64 a, .int .i64 b, .int .i64 c]) (.agg #[.int .i64 a, .int .i64 b, .int .i64 c])) = some () := by kernel_rfl
  have g1 : prun Try.prog (Op.equal 42 (.agg #[.int .i64 a, .int .i64 b, .int .i64 c]) (.agg #[.int .i64 a, .int .i64 b, .int .i64 c])) = some true := eq_clock 9998 a b c
  unfold execOp
  simp only []
  rw [ex, ey]
  simp [prun_bind, prun_pure, prun_map, g0, binOp, g1]
end Go.Proofs.Ytkjodjaamjnejaa

-- Printed by genwalk.py.
namespace Go.Proofs.Ytkjodjaamjnejaa
open Go Go.RowKit Caw
set_option linter.unusedSimpArgs false
set_option linter.unusedVariables false
set_option maxRecDepth 100000

-- caravel/caravellaw19.same
set_option maxHeartbeats 8000000 in
theorem at25 (a : Caw.Conn) (b : Caw.Conn) (hpre : a = b ∧ a.sm) : SpecAt Try.prog 25 [.agg (connCells a), .agg (connCells b)] (.v (.bool true)) none := by
  obtain ⟨rfl, h1⟩ := hpre
  have h2 : a.recv.ahead.length ≤ 1000000 := by have := h1.r.2.1; omega
  refine specAt_of_tri Try.func25 rfl (Nat.le_of_ble_eq_true rfl) ?_
  all_goals (repeat' (first
      | (refine tri_condF (b_true (by simp; with_reducible exact IsB.mk)) ?_)
      | (refine tri_skipT ?_)
      | (refine tri_block ?_)
      | (refine tri_step (id := 0) (C := ⟨[2, 3], [], [(126, (3, 0, 0)), (133, (4, 0, 0)), (142, (3, 0, 0)), (150, (4, 0, 0))]⟩) [2, 3] [] gok_nil nodraw ?_; refine ⟨_, by (simp [*, undef, encAddr, encClock, asAd, asCk, flg]; exact Is.mk), ?_⟩)
      | (refine tri_step (id := 1) (C := ⟨[2, 3], [], [(126, (3, 0, 0)), (133, (4, 0, 0)), (142, (3, 0, 0)), (150, (4, 0, 0))]⟩) [2, 3, 117] [] gok_nil nodraw ?_; refine ⟨_, by (simp [*, undef, encAddr, encClock, asAd, asCk, flg]; exact Is.mk), ?_⟩)
      | (refine tri_step (id := 3) (C := ⟨[2, 3], [], [(126, (3, 0, 0)), (133, (4, 0, 0)), (142, (3, 0, 0)), (150, (4, 0, 0))]⟩) [2, 3, 121, 122] [] gok_nil nodraw ?_; refine ⟨_, by (simp [*, undef, encAddr, encClock, asAd, asCk, flg]; exact Is.mk), ?_⟩)
      | (refine tri_seq ?_)
      ))
  refine tri_loop (fun n s => ∃ i d r, At a.recv.ahead d r i ∧ n = r.length ∧ s = mkSt [(2, (AV.agg (connCells a)).rptr 0), (3, (AV.agg (connCells a)).rptr 0), (121, .v (.int .i64 a.recv.ahead.length)), (122, .v (.int .i64 i))] []) a.recv.ahead.length _ (Le.refl _) ⟨0, [], a.recv.ahead, .start _, rfl, rfl⟩ ?_
  rintro n s ⟨i, d, r, hl, hn, rfl⟩
  cases r with
  | nil =>
    have hlt := hl.ge
    all_goals (repeat' (first
      | (refine tri_condF (b_true (by simp; with_reducible exact IsB.mk)) ?_)
      | (refine th_n ?_)
      | (refine in_e ?_)
      | (refine th_e ?_)
      | (refine tri_ret ?_)
      | (refine tri_exit ?_)
      | (refine tri_step (id := 4) (C := ⟨[2, 3], [], [(126, (3, 0, 0)), (133, (4, 0, 0)), (142, (3, 0, 0)), (150, (4, 0, 0))]⟩) [2, 3, 121, 122, 123] [] gok_nil nodraw ?_; refine ⟨_, by (simp [*, undef, encAddr, encClock, asAd, asCk, flg]; exact Is.mk), ?_⟩)
      | (refine tri_step (id := 9) (C := ⟨[2, 3], [], [(126, (3, 0, 0)), (133, (4, 0, 0)), (142, (3, 0, 0)), (150, (4, 0, 0))]⟩) [4] [] gok_nil nodraw ?_; refine ⟨_, by (simp [*, undef, encAddr, encClock, asAd, asCk, flg]; exact Is.mk), ?_⟩)
      | (refine tri_seq ?_)
      ))
    all_goals (refine post_plainV (P := Try.prog) (fn := Try.f25) (by simp; exact IsV.mk) rfl ?_)
    all_goals (first | (simp [undef, encAddr, encClock, asAd, asCk, flg]; done) | (simp [*, undef, encAddr, encClock, asAd, asCk, flg]; done) | (simp_all [undef, encAddr, encClock, asAd, asCk, flg]; done) | (simp [undef, encAddr, encClock, asAd, asCk, flg] <;> (repeat' split) <;> simp_all; done) | (simp [undef, encAddr, encClock, asAd, asCk, flg] <;> (repeat' split) <;> simp_all [Bool.and_assoc] <;> grind [List.length_eq_zero_iff, sendCells_co, recvCells_co, pieceCells_co, connCells_co, segCells_co, clockCells_co]))
  | cons x r =>
    have hlt := hl.lt
    have hget := hl.get
    have hw := hl.wi h2
    have hl2 := hl.next
    clear hl
    all_goals (repeat' (first
      | (refine tri_condT (b_true (by simp; with_reducible exact IsB.mk)) ?_)
      | (refine tri_condF (b_true (by simp; with_reducible exact IsB.mk)) ?_)
      | (refine tri_skipT ?_)
      | (refine tri_skip ?_)
      | (refine th_n ?_)
      | (refine in_n ?_)
      | (refine tri_block ?_)
      | (refine tri_step (id := 4) (C := ⟨[2, 3], [], [(126, (3, 0, 0)), (133, (4, 0, 0)), (142, (3, 0, 0)), (150, (4, 0, 0))]⟩) [2, 3, 121, 122, 123] [] gok_nil nodraw ?_; refine ⟨_, by (simp [*, undef, encAddr, encClock, asAd, asCk, flg]; exact Is.mk), ?_⟩)
      | (refine tri_step (id := 5) (C := ⟨[2, 3], [], [(126, (3, 0, 0)), (133, (4, 0, 0)), (142, (3, 0, 0)), (150, (4, 0, 0))]⟩) [2, 3, 5, 121, 122] [] gok_nil nodraw ?_; refine ⟨_, by (simp [*, undef, encAddr, encClock, asAd, asCk, flg]; exact Is.mk), ?_⟩)
      | (refine tri_step (id := 6) (C := ⟨[2, 3], [], [(126, (3, 0, 0)), (133, (4, 0, 0)), (142, (3, 0, 0)), (150, (4, 0, 0))]⟩) [2, 3, 121, 122, 158] [] gok_nil (fun _ => ⟨q_mixed, by kernel_rfl⟩) ?_; refine ⟨_, by (simp [*, undef, encAddr, encClock, asAd, asCk, flg]; exact Is.mk), ?_⟩)
      | (refine tri_last (id := 8) (C := ⟨[2, 3], [], [(126, (3, 0, 0)), (133, (4, 0, 0)), (142, (3, 0, 0)), (150, (4, 0, 0))]⟩) [2, 3, 121, 122] [] gok_nil nodraw ?_; refine ⟨_, by (simp [*, undef, encAddr, encClock, asAd, asCk, flg]; exact Is.mk), ?_⟩)
      | (refine tri_seq ?_)
      ))
    refine ⟨r.length, _, by simp [hn], Le.refl _, i + 1, d ++ [x], r, hl2, rfl, rfl⟩
open Classical in
noncomputable def F25 : Fn1
  | [x0, x1] => (whole pConn x0).bind fun a => (whole pConn x1).bind fun b => if a = b ∧ a.sm then some ((.v (.bool true)), none) else none
  | _ => none
theorem spec25 : Spec1 Try.prog 25 F25 := spec_of fun ys r o h => by
  unfold F25 at h
  split at h
  case h_2 => cases h
  obtain ⟨a, k0, h1⟩ := bind_some h
  obtain ⟨b, k1, h2⟩ := bind_some h1
  obtain ⟨hpre, hz⟩ := ite_some h2
  cases hz
  exact ⟨_, at25 a b hpre, rfl, le_plain ⟨whole_co pConn_snd k0, ⟨whole_co pConn_snd k1, trivial⟩⟩ (by simp only [List.all_cons, List.all_nil, Bool.not_false, Bool.and_self, notRefB (whole_co pConn_snd k0) rfl (by simp), notRefB (whole_co pConn_snd k1) rfl (by simp)]) rfl⟩
theorem en25 : Enters Try.prog 25 := enters_of Try.func25 (by kernel_rfl) (by kernel_rfl)

end Go.Proofs.Ytkjodjaamjnejaa

-- Printed by genwalk.py.
namespace Go.Proofs.Ytkjodjaamjnejaa
open Go Go.RowKit Caw
set_option linter.unusedSimpArgs false
set_option linter.unusedVariables false
set_option maxRecDepth 100000

-- caravel/caravellaw19.TcbShut
theorem g10 : GOk1 Try.prog (ctxOf [(11, F11), (16, F16), (12, F12), (17, F17), (29, F29), (20, F20), (24, F24), (23, F23), (30, F30), (31, F31), (32, F32), (33, F33), (25, F25)]) := gok_cons spec11 en11 (gok_cons spec16 en16 (gok_cons spec12 en12 (gok_cons spec17 en17 (gok_cons spec29 en29 (gok_cons spec20 en20 (gok_cons spec24 en24 (gok_cons spec23 en23 (gok_cons spec30 en30 (gok_cons spec31 en31 (gok_cons spec32 en32 (gok_cons spec33 en33 (gok_cons spec25 en25 (gok_nil)))))))))))))
set_option maxHeartbeats 20000000 in
theorem at10 (first : Caw.Two) (l : List Stp) (s : Caw.Far) (hpre : l.length ≤ 9223372036854775807) : SpecAt Try.prog 10 [.agg (twoCells first), .sl 5 (encS stpCells l) none, .agg (farCells s)] (.v (.bool true)) none := by
  rcases told_cases (fitsL l) with hf | hf
  · by_cases h300 : (300 : Int) < s.data.length
    · refine specAt_of_tri Try.func10 rfl (Nat.le_of_ble_eq_true rfl) ?_
      all_goals (repeat' (first
      | (refine tri_condT (b_true (by simp; with_reducible exact IsB.mk)) ?_)
      | (refine th_r ?_)
      | (refine tri_ret ?_)
      | (refine tri_step (id := 0) (C := ⟨[], [17], [(10, (11, 0, 0)), (12, (13, 0, 0)), (14, (15, 0, 0)), (16, (17, 0, 0)), (18, (19, 0, 0)), (22, (23, 0, 0)), (82, (6, 0, 0)), (85, (6, 0, 0)), (88, (6, 0, 0)), (91, (6, 0, 0)), (93, (6, 0, 0)), (98, (43, 0, 0)), (107, (43, 0, 0)), (117, (43, 0, 0)), (129, (43, 0, 0)), (141, (43, 0, 0))]⟩) [1, 3, 5] [(4, 0, 0), (6, 0, 0)] g10 nodraw ?_; refine ⟨_, by (simp [*, F11, F16, F12, F17, F29, F20, F24, F23, F30, F31, F32, F33, F25, undef, pSeg_lit, flg]; exact Is.mk), ?_⟩)
      | (refine tri_step (id := 1) (C := ⟨[], [17], [(10, (11, 0, 0)), (12, (13, 0, 0)), (14, (15, 0, 0)), (16, (17, 0, 0)), (18, (19, 0, 0)), (22, (23, 0, 0)), (82, (6, 0, 0)), (85, (6, 0, 0)), (88, (6, 0, 0)), (91, (6, 0, 0)), (93, (6, 0, 0)), (98, (43, 0, 0)), (107, (43, 0, 0)), (117, (43, 0, 0)), (129, (43, 0, 0)), (141, (43, 0, 0))]⟩) [1, 3, 5, 39] [(4, 0, 0), (6, 0, 0)] g10 nodraw ?_; refine ⟨_, by (simp [*, F11, F16, F12, F17, F29, F20, F24, F23, F30, F31, F32, F33, F25, undef, pSeg_lit, flg]; exact Is.mk), ?_⟩)
      | (refine tri_step (id := 2) (C := ⟨[], [17], [(10, (11, 0, 0)), (12, (13, 0, 0)), (14, (15, 0, 0)), (16, (17, 0, 0)), (18, (19, 0, 0)), (22, (23, 0, 0)), (82, (6, 0, 0)), (85, (6, 0, 0)), (88, (6, 0, 0)), (91, (6, 0, 0)), (93, (6, 0, 0)), (98, (43, 0, 0)), (107, (43, 0, 0)), (117, (43, 0, 0)), (129, (43, 0, 0)), (141, (43, 0, 0))]⟩) [6] [] g10 nodraw ?_; refine ⟨_, by (simp [*, F11, F16, F12, F17, F29, F20, F24, F23, F30, F31, F32, F33, F25, undef, pSeg_lit, flg]; exact Is.mk), ?_⟩)
      | (refine tri_seq ?_)
      ))
      all_goals (refine post_plainV (P := Try.prog) (fn := Try.f10) (by simp; exact IsV.mk) rfl ?_)
      all_goals (first | (simp [F11, F16, F12, F17, F29, F20, F24, F23, F30, F31, F32, F33, F25, undef, pSeg_lit, flg]; done) | (simp [*, F11, F16, F12, F17, F29, F20, F24, F23, F30, F31, F32, F33, F25, undef, pSeg_lit, flg]; done) | (simp_all [F11, F16, F12, F17, F29, F20, F24, F23, F30, F31, F32, F33, F25, undef, pSeg_lit, flg]; done) | (simp [F11, F16, F12, F17, F29, F20, F24, F23, F30, F31, F32, F33, F25, undef, pSeg_lit, flg] <;> (repeat' split) <;> simp_all; done) | (simp [F11, F16, F12, F17, F29, F20, F24, F23, F30, F31, F32, F33, F25, undef, pSeg_lit, flg] <;> (repeat' split) <;> simp_all [Bool.and_assoc] <;> grind [List.length_eq_zero_iff, sendCells_co, recvCells_co, pieceCells_co, connCells_co, segCells_co, clockCells_co]))
    · obtain ⟨hlen, hdat⟩ := fits_len hf
      refine specAt_of_tri Try.func10 rfl (Nat.le_of_ble_eq_true rfl) ?_
      all_goals (repeat' (first
      | (refine tri_condF (b_true (by simp; with_reducible exact IsB.mk)) ?_)
      | (refine tri_skipT ?_)
      | (refine tri_block ?_)
      | (refine tri_step (id := 0) (C := ⟨[], [17], [(10, (11, 0, 0)), (12, (13, 0, 0)), (14, (15, 0, 0)), (16, (17, 0, 0)), (18, (19, 0, 0)), (22, (23, 0, 0)), (82, (6, 0, 0)), (85, (6, 0, 0)), (88, (6, 0, 0)), (91, (6, 0, 0)), (93, (6, 0, 0)), (98, (43, 0, 0)), (107, (43, 0, 0)), (117, (43, 0, 0)), (129, (43, 0, 0)), (141, (43, 0, 0))]⟩) [1, 3, 5] [(4, 0, 0), (6, 0, 0)] g10 nodraw ?_; refine ⟨_, by (simp [*, F11, F16, F12, F17, F29, F20, F24, F23, F30, F31, F32, F33, F25, undef, pSeg_lit, flg]; exact Is.mk), ?_⟩)
      | (refine tri_step (id := 1) (C := ⟨[], [17], [(10, (11, 0, 0)), (12, (13, 0, 0)), (14, (15, 0, 0)), (16, (17, 0, 0)), (18, (19, 0, 0)), (22, (23, 0, 0)), (82, (6, 0, 0)), (85, (6, 0, 0)), (88, (6, 0, 0)), (91, (6, 0, 0)), (93, (6, 0, 0)), (98, (43, 0, 0)), (107, (43, 0, 0)), (117, (43, 0, 0)), (129, (43, 0, 0)), (141, (43, 0, 0))]⟩) [1, 3, 5, 39] [(4, 0, 0), (6, 0, 0)] g10 nodraw ?_; refine ⟨_, by (simp [*, F11, F16, F12, F17, F29, F20, F24, F23, F30, F31, F32, F33, F25, undef, pSeg_lit, flg]; exact Is.mk), ?_⟩)
      | (refine tri_step (id := 3) (C := ⟨[], [17], [(10, (11, 0, 0)), (12, (13, 0, 0)), (14, (15, 0, 0)), (16, (17, 0, 0)), (18, (19, 0, 0)), (22, (23, 0, 0)), (82, (6, 0, 0)), (85, (6, 0, 0)), (88, (6, 0, 0)), (91, (6, 0, 0)), (93, (6, 0, 0)), (98, (43, 0, 0)), (107, (43, 0, 0)), (117, (43, 0, 0)), (129, (43, 0, 0)), (141, (43, 0, 0))]⟩) [1, 5, 7] [(6, 0, 0), (43, 0, 0)] g10 nodraw ?_; refine ⟨_, by (simp [*, F11, F16, F12, F17, F29, F20, F24, F23, F30, F31, F32, F33, F25, undef, pSeg_lit, flg]; exact Is.mk), ?_⟩)
      | (refine tri_step (id := 4) (C := ⟨[], [17], [(10, (11, 0, 0)), (12, (13, 0, 0)), (14, (15, 0, 0)), (16, (17, 0, 0)), (18, (19, 0, 0)), (22, (23, 0, 0)), (82, (6, 0, 0)), (85, (6, 0, 0)), (88, (6, 0, 0)), (91, (6, 0, 0)), (93, (6, 0, 0)), (98, (43, 0, 0)), (107, (43, 0, 0)), (117, (43, 0, 0)), (129, (43, 0, 0)), (141, (43, 0, 0))]⟩) [5, 7, 43, 44, 45] [(6, 0, 0), (43, 0, 0)] g10 nodraw ?_; refine ⟨_, by (simp [*, F11, F16, F12, F17, F29, F20, F24, F23, F30, F31, F32, F33, F25, undef, pSeg_lit, flg]; exact Is.mk), ?_⟩)
      | (refine tri_seq ?_)
      ))
      refine tri_loop (fun n s2 => ∃ i d r t, At l d r i ∧ n = r.length ∧ TalkOk (1 + 3 * i) t ∧ s2 = mkSt [(5, .ptr (6,0,0) 0), (7, .ptr (43,0,0) 0), (43, .sl 5 (encS stpCells l) none), (44, .v (.int .i64 l.length)), (45, .v (.int .i64 i))] [((6,0,0), farCells s), ((43,0,0), talkCells t)]) l.length _ (Le.refl _) ⟨0, [], l, begins first.a first.b, .start _, rfl, (begins_ok first.a first.b).2, rfl⟩ ?_
      rintro n s2 ⟨i, d, r, t, hl, hn, hok, rfl⟩
      cases r with
      | cons x r =>
        have hlt := hl.lt
        have hget := hl.get
        have hw := hl.wi2 hpre
        have hi : i ≤ 79 := by simp at hlt; omega
        obtain ⟨hp, hok2⟩ := step_okT (by omega) hok (hdat x hl.mem)
        have hl2 := hl.next
        clear hl hok hdat
        all_goals (repeat' (first
      | (refine tri_condT (b_true (by simp; with_reducible exact IsB.mk)) ?_)
      | (refine tri_skipT ?_)
      | (refine th_n ?_)
      | (refine in_n ?_)
      | (refine tri_block ?_)
      | (refine tri_step (id := 5) (C := ⟨[], [17], [(10, (11, 0, 0)), (12, (13, 0, 0)), (14, (15, 0, 0)), (16, (17, 0, 0)), (18, (19, 0, 0)), (22, (23, 0, 0)), (82, (6, 0, 0)), (85, (6, 0, 0)), (88, (6, 0, 0)), (91, (6, 0, 0)), (93, (6, 0, 0)), (98, (43, 0, 0)), (107, (43, 0, 0)), (117, (43, 0, 0)), (129, (43, 0, 0)), (141, (43, 0, 0))]⟩) [5, 7, 43, 44, 45, 46] [(6, 0, 0), (43, 0, 0)] g10 nodraw ?_; refine ⟨_, by (simp [*, F11, F16, F12, F17, F29, F20, F24, F23, F30, F31, F32, F33, F25, undef, pSeg_lit, flg]; exact Is.mk), ?_⟩)
      | (refine tri_step (id := 6) (C := ⟨[], [17], [(10, (11, 0, 0)), (12, (13, 0, 0)), (14, (15, 0, 0)), (16, (17, 0, 0)), (18, (19, 0, 0)), (22, (23, 0, 0)), (82, (6, 0, 0)), (85, (6, 0, 0)), (88, (6, 0, 0)), (91, (6, 0, 0)), (93, (6, 0, 0)), (98, (43, 0, 0)), (107, (43, 0, 0)), (117, (43, 0, 0)), (129, (43, 0, 0)), (141, (43, 0, 0))]⟩) [5, 7, 9, 43, 44, 45] [(6, 0, 0), (10, 0, 0), (43, 0, 0)] g10 nodraw ?_; refine ⟨_, by (simp [*, F11, F16, F12, F17, F29, F20, F24, F23, F30, F31, F32, F33, F25, undef, pSeg_lit, flg]; exact Is.mk), ?_⟩)
      | (refine tri_last (id := 7) (C := ⟨[], [17], [(10, (11, 0, 0)), (12, (13, 0, 0)), (14, (15, 0, 0)), (16, (17, 0, 0)), (18, (19, 0, 0)), (22, (23, 0, 0)), (82, (6, 0, 0)), (85, (6, 0, 0)), (88, (6, 0, 0)), (91, (6, 0, 0)), (93, (6, 0, 0)), (98, (43, 0, 0)), (107, (43, 0, 0)), (117, (43, 0, 0)), (129, (43, 0, 0)), (141, (43, 0, 0))]⟩) [5, 7, 43, 44, 45] [(6, 0, 0), (43, 0, 0)] g10 nodraw ?_; refine ⟨_, by (simp [*, F11, F16, F12, F17, F29, F20, F24, F23, F30, F31, F32, F33, F25, undef, pSeg_lit, flg]; exact Is.mk), ?_⟩)
      | (refine tri_last (id := 8) (C := ⟨[], [17], [(10, (11, 0, 0)), (12, (13, 0, 0)), (14, (15, 0, 0)), (16, (17, 0, 0)), (18, (19, 0, 0)), (22, (23, 0, 0)), (82, (6, 0, 0)), (85, (6, 0, 0)), (88, (6, 0, 0)), (91, (6, 0, 0)), (93, (6, 0, 0)), (98, (43, 0, 0)), (107, (43, 0, 0)), (117, (43, 0, 0)), (129, (43, 0, 0)), (141, (43, 0, 0))]⟩) [5, 7, 43, 44, 45] [(6, 0, 0), (43, 0, 0)] g10 nodraw ?_; refine ⟨_, by (simp [*, F11, F16, F12, F17, F29, F20, F24, F23, F30, F31, F32, F33, F25, undef, pSeg_lit, flg]; exact Is.mk), ?_⟩)
      | (refine tri_seq ?_)
      ))
        refine ⟨r.length, _, by simp [hn], Le.refl _, i + 1, d ++ [x], r, talkStep t x, hl2, rfl, hok2.le (by omega), rfl⟩
      | nil =>
        have hlt := hl.ge
        have hc := hok.c0.sm
        obtain ⟨D, hD⟩ := shutC hok.c0
        have hh1 := hD.is
        have hh2 := hD.out
        have hph := hD.ph
        have hnm := shut_name hph
        have hrt := connRight_of hD.ok
        have hsm := hD.ok.sm
        have hsr := hsm.r
        have hsl : D.send.data.length ≤ 256 := hD.ok.send.len
        have hpr := hD.pre ⟨0, 0, IntKind.u32.wrap s.seq, IntKind.u32.wrap s.ack, bAnd .u8 s.flags 31, s.wnd, 0, s.data⟩ (by simp only; omega)
        have hhe := hD.hear
        have htk := hD.tick
        have hcl := hD.close
        obtain ⟨y, hy, hwr⟩ := hD.write
        have hy2 := bne_true hy
        rcases hD.read with ⟨hda, z, hz, hrd⟩ | ⟨hda, d3, hrd⟩
        · have hz2 := beq_no hz
          clear hl hok hpre hf hdat hlen hn hD hz hy
          all_goals (repeat' (first
      | (refine tri_condF (b_true (by simp; with_reducible exact IsB.mk)) ?_)
      | (refine tri_skipT ?_)
      | (refine th_n ?_)
      | (refine in_e ?_)
      | (refine th_e ?_)
      | (refine tri_exit ?_)
      | (refine tri_step (id := 5) (C := ⟨[], [17], [(10, (11, 0, 0)), (12, (13, 0, 0)), (14, (15, 0, 0)), (16, (17, 0, 0)), (18, (19, 0, 0)), (22, (23, 0, 0)), (82, (6, 0, 0)), (85, (6, 0, 0)), (88, (6, 0, 0)), (91, (6, 0, 0)), (93, (6, 0, 0)), (98, (43, 0, 0)), (107, (43, 0, 0)), (117, (43, 0, 0)), (129, (43, 0, 0)), (141, (43, 0, 0))]⟩) [5, 7, 43, 44, 45, 46] [(6, 0, 0), (43, 0, 0)] g10 nodraw ?_; refine ⟨_, by (simp [*, F11, F16, F12, F17, F29, F20, F24, F23, F30, F31, F32, F33, F25, undef, pSeg_lit, flg]; exact Is.mk), ?_⟩)
      | (refine tri_step (id := 9) (C := ⟨[], [17], [(10, (11, 0, 0)), (12, (13, 0, 0)), (14, (15, 0, 0)), (16, (17, 0, 0)), (18, (19, 0, 0)), (22, (23, 0, 0)), (82, (6, 0, 0)), (85, (6, 0, 0)), (88, (6, 0, 0)), (91, (6, 0, 0)), (93, (6, 0, 0)), (98, (43, 0, 0)), (107, (43, 0, 0)), (117, (43, 0, 0)), (129, (43, 0, 0)), (141, (43, 0, 0))]⟩) [5, 7, 10, 11] [(6, 0, 0), (11, 0, 0), (43, 0, 0)] g10 nodraw ?_; refine ⟨_, by (simp [*, F11, F16, F12, F17, F29, F20, F24, F23, F30, F31, F32, F33, F25, undef, pSeg_lit, flg]; exact Is.mk), ?_⟩)
      | (refine tri_step (id := 10) (C := ⟨[], [17], [(10, (11, 0, 0)), (12, (13, 0, 0)), (14, (15, 0, 0)), (16, (17, 0, 0)), (18, (19, 0, 0)), (22, (23, 0, 0)), (82, (6, 0, 0)), (85, (6, 0, 0)), (88, (6, 0, 0)), (91, (6, 0, 0)), (93, (6, 0, 0)), (98, (43, 0, 0)), (107, (43, 0, 0)), (117, (43, 0, 0)), (129, (43, 0, 0)), (141, (43, 0, 0))]⟩) [5, 7, 10, 79] [(6, 0, 0), (11, 0, 0), (43, 0, 0)] g10 nodraw ?_; refine ⟨_, by (simp [*, F11, F16, F12, F17, F29, F20, F24, F23, F30, F31, F32, F33, F25, undef, pSeg_lit, flg]; exact Is.mk), ?_⟩)
      | (refine tri_step (id := 12) (C := ⟨[], [17], [(10, (11, 0, 0)), (12, (13, 0, 0)), (14, (15, 0, 0)), (16, (17, 0, 0)), (18, (19, 0, 0)), (22, (23, 0, 0)), (82, (6, 0, 0)), (85, (6, 0, 0)), (88, (6, 0, 0)), (91, (6, 0, 0)), (93, (6, 0, 0)), (98, (43, 0, 0)), (107, (43, 0, 0)), (117, (43, 0, 0)), (129, (43, 0, 0)), (141, (43, 0, 0))]⟩) [7, 10, 12, 13] [(11, 0, 0), (13, 0, 0), (43, 0, 0)] g10 (fun _ => ⟨q_mixed, by kernel_rfl⟩) ?_; refine ⟨_, by (simp [*, F11, F16, F12, F17, F29, F20, F24, F23, F30, F31, F32, F33, F25, undef, pSeg_lit, flg]; exact Is.mk), ?_⟩)
      | (refine tri_step (id := 13) (C := ⟨[], [17], [(10, (11, 0, 0)), (12, (13, 0, 0)), (14, (15, 0, 0)), (16, (17, 0, 0)), (18, (19, 0, 0)), (22, (23, 0, 0)), (82, (6, 0, 0)), (85, (6, 0, 0)), (88, (6, 0, 0)), (91, (6, 0, 0)), (93, (6, 0, 0)), (98, (43, 0, 0)), (107, (43, 0, 0)), (117, (43, 0, 0)), (129, (43, 0, 0)), (141, (43, 0, 0))]⟩) [7, 10, 13, 14, 15] [(11, 0, 0), (15, 0, 0), (43, 0, 0)] g10 (fun _ => ⟨q_mixed, by kernel_rfl⟩) ?_; refine ⟨_, by (simp [*, F11, F16, F12, F17, F29, F20, F24, F23, F30, F31, F32, F33, F25, undef, pSeg_lit, flg]; exact Is.mk), ?_⟩)
      | (refine tri_step (id := 14) (C := ⟨[], [17], [(10, (11, 0, 0)), (12, (13, 0, 0)), (14, (15, 0, 0)), (16, (17, 0, 0)), (18, (19, 0, 0)), (22, (23, 0, 0)), (82, (6, 0, 0)), (85, (6, 0, 0)), (88, (6, 0, 0)), (91, (6, 0, 0)), (93, (6, 0, 0)), (98, (43, 0, 0)), (107, (43, 0, 0)), (117, (43, 0, 0)), (129, (43, 0, 0)), (141, (43, 0, 0))]⟩) [7, 10, 13, 15, 16, 17] [(11, 0, 0), (17, 0, 0), (43, 0, 0)] g10 (fun _ => ⟨q_mixed, by kernel_rfl⟩) ?_; refine ⟨_, by (simp [*, F11, F16, F12, F17, F29, F20, F24, F23, F30, F31, F32, F33, F25, undef, pSeg_lit, flg]; exact Is.mk), ?_⟩)
      | (refine tri_seq ?_)
      ))
          refine tri_mark (id := 15) (C := ⟨[], [17], [(10, (11, 0, 0)), (12, (13, 0, 0)), (14, (15, 0, 0)), (16, (17, 0, 0)), (18, (19, 0, 0)), (22, (23, 0, 0)), (82, (6, 0, 0)), (85, (6, 0, 0)), (88, (6, 0, 0)), (91, (6, 0, 0)), (93, (6, 0, 0)), (98, (43, 0, 0)), (107, (43, 0, 0)), (117, (43, 0, 0)), (129, (43, 0, 0)), (141, (43, 0, 0))]⟩) [7, 10, 13, 15, 16, 17, 19, 20, 21] [(11, 0, 0), (17, 0, 0), (43, 0, 0)] g10 q_mixed 1 125 126 24 5 [120] rfl rfl rfl rfl rfl rfl rfl (by kernel_rfl) (by kernel_rfl) (Nat.le_of_ble_eq_true rfl) (Nat.le_of_ble_eq_true rfl) (by kernel_rfl) (by kernel_rfl) (run_bytes [120] (z := .int .u8 0) rfl (by kernel_rfl) (by kernel_rfl) (by kernel_rfl) (by decide) (by decide) (fun g hg => by simp only [List.map_toArray, List.map_cons, List.map_nil, hg]; kernel_rfl)) (fun st => by simp [eop, ebuildS, ev, flat, leafP, isPure]) rfl (by kernel_rfl) (by simp [*, F11, F16, F12, F17, F29, F20, F24, F23, F30, F31, F32, F33, F25, undef, pSeg_lit, flg]; exact Is.mk) (by simp [*, F11, F16, F12, F17, F29, F20, F24, F23, F30, F31, F32, F33, F25, undef, pSeg_lit, flg]; exact Is.mk) ?_
          refine th_n ?_
          all_goals (repeat' (first
      | (refine tri_ret ?_)
      | (refine tri_step (id := 16) (C := ⟨[], [17], [(10, (11, 0, 0)), (12, (13, 0, 0)), (14, (15, 0, 0)), (16, (17, 0, 0)), (18, (19, 0, 0)), (22, (23, 0, 0)), (82, (6, 0, 0)), (85, (6, 0, 0)), (88, (6, 0, 0)), (91, (6, 0, 0)), (93, (6, 0, 0)), (98, (43, 0, 0)), (107, (43, 0, 0)), (117, (43, 0, 0)), (129, (43, 0, 0)), (141, (43, 0, 0))]⟩) [7, 10, 13, 15, 16, 17, 19, 20, 21, 23, 25] [(11, 0, 0), (17, 0, 0), (43, 0, 0)] g10 (fun _ => ⟨q_mixed, by kernel_rfl⟩) ?_; refine ⟨_, by (simp [*, F11, F16, F12, F17, F29, F20, F24, F23, F30, F31, F32, F33, F25, undef, pSeg_lit, flg]; exact Is.mk), ?_⟩)
      | (refine tri_step (id := 17) (C := ⟨[], [17], [(10, (11, 0, 0)), (12, (13, 0, 0)), (14, (15, 0, 0)), (16, (17, 0, 0)), (18, (19, 0, 0)), (22, (23, 0, 0)), (82, (6, 0, 0)), (85, (6, 0, 0)), (88, (6, 0, 0)), (91, (6, 0, 0)), (93, (6, 0, 0)), (98, (43, 0, 0)), (107, (43, 0, 0)), (117, (43, 0, 0)), (129, (43, 0, 0)), (141, (43, 0, 0))]⟩) [10, 13, 15, 16, 17, 19, 20, 21, 23, 25, 26] [(11, 0, 0), (17, 0, 0)] g10 nodraw ?_; refine ⟨_, by (simp [*, F11, F16, F12, F17, F29, F20, F24, F23, F30, F31, F32, F33, F25, undef, pSeg_lit, flg]; exact Is.mk), ?_⟩)
      | (refine tri_step (id := 18) (C := ⟨[], [17], [(10, (11, 0, 0)), (12, (13, 0, 0)), (14, (15, 0, 0)), (16, (17, 0, 0)), (18, (19, 0, 0)), (22, (23, 0, 0)), (82, (6, 0, 0)), (85, (6, 0, 0)), (88, (6, 0, 0)), (91, (6, 0, 0)), (93, (6, 0, 0)), (98, (43, 0, 0)), (107, (43, 0, 0)), (117, (43, 0, 0)), (129, (43, 0, 0)), (141, (43, 0, 0))]⟩) [6] [] g10 nodraw ?_; refine ⟨_, by (simp [*, F11, F16, F12, F17, F29, F20, F24, F23, F30, F31, F32, F33, F25, undef, pSeg_lit, flg]; exact Is.mk), ?_⟩)
      ))
          all_goals (refine post_plainV (P := Try.prog) (fn := Try.f10) (by simp; exact IsV.mk) rfl ?_)
          all_goals (first | (simp [F11, F16, F12, F17, F29, F20, F24, F23, F30, F31, F32, F33, F25, undef, pSeg_lit, flg]; done) | (simp [*, F11, F16, F12, F17, F29, F20, F24, F23, F30, F31, F32, F33, F25, undef, pSeg_lit, flg]; done) | (simp_all [F11, F16, F12, F17, F29, F20, F24, F23, F30, F31, F32, F33, F25, undef, pSeg_lit, flg]; done) | (simp [F11, F16, F12, F17, F29, F20, F24, F23, F30, F31, F32, F33, F25, undef, pSeg_lit, flg] <;> (repeat' split) <;> simp_all; done) | (simp [F11, F16, F12, F17, F29, F20, F24, F23, F30, F31, F32, F33, F25, undef, pSeg_lit, flg] <;> (repeat' split) <;> simp_all [Bool.and_assoc] <;> grind [List.length_eq_zero_iff, sendCells_co, recvCells_co, pieceCells_co, connCells_co, segCells_co, clockCells_co]))
        · cases hdd : t.c0.recv.data with
          | nil => exact absurd hdd hda
          | cons q qs =>
          rw [hdd] at hrd
          clear hl hok hpre hf hdat hlen hn hD hy hda
          all_goals (repeat' (first
      | (refine tri_condF (b_true (by simp; with_reducible exact IsB.mk)) ?_)
      | (refine tri_skipT ?_)
      | (refine th_n ?_)
      | (refine in_e ?_)
      | (refine th_e ?_)
      | (refine tri_exit ?_)
      | (refine tri_step (id := 5) (C := ⟨[], [17], [(10, (11, 0, 0)), (12, (13, 0, 0)), (14, (15, 0, 0)), (16, (17, 0, 0)), (18, (19, 0, 0)), (22, (23, 0, 0)), (82, (6, 0, 0)), (85, (6, 0, 0)), (88, (6, 0, 0)), (91, (6, 0, 0)), (93, (6, 0, 0)), (98, (43, 0, 0)), (107, (43, 0, 0)), (117, (43, 0, 0)), (129, (43, 0, 0)), (141, (43, 0, 0))]⟩) [5, 7, 43, 44, 45, 46] [(6, 0, 0), (43, 0, 0)] g10 nodraw ?_; refine ⟨_, by (simp [*, F11, F16, F12, F17, F29, F20, F24, F23, F30, F31, F32, F33, F25, undef, pSeg_lit, flg]; exact Is.mk), ?_⟩)
      | (refine tri_step (id := 9) (C := ⟨[], [17], [(10, (11, 0, 0)), (12, (13, 0, 0)), (14, (15, 0, 0)), (16, (17, 0, 0)), (18, (19, 0, 0)), (22, (23, 0, 0)), (82, (6, 0, 0)), (85, (6, 0, 0)), (88, (6, 0, 0)), (91, (6, 0, 0)), (93, (6, 0, 0)), (98, (43, 0, 0)), (107, (43, 0, 0)), (117, (43, 0, 0)), (129, (43, 0, 0)), (141, (43, 0, 0))]⟩) [5, 7, 10, 11] [(6, 0, 0), (11, 0, 0), (43, 0, 0)] g10 nodraw ?_; refine ⟨_, by (simp [*, F11, F16, F12, F17, F29, F20, F24, F23, F30, F31, F32, F33, F25, undef, pSeg_lit, flg]; exact Is.mk), ?_⟩)
      | (refine tri_step (id := 10) (C := ⟨[], [17], [(10, (11, 0, 0)), (12, (13, 0, 0)), (14, (15, 0, 0)), (16, (17, 0, 0)), (18, (19, 0, 0)), (22, (23, 0, 0)), (82, (6, 0, 0)), (85, (6, 0, 0)), (88, (6, 0, 0)), (91, (6, 0, 0)), (93, (6, 0, 0)), (98, (43, 0, 0)), (107, (43, 0, 0)), (117, (43, 0, 0)), (129, (43, 0, 0)), (141, (43, 0, 0))]⟩) [5, 7, 10, 79] [(6, 0, 0), (11, 0, 0), (43, 0, 0)] g10 nodraw ?_; refine ⟨_, by (simp [*, F11, F16, F12, F17, F29, F20, F24, F23, F30, F31, F32, F33, F25, undef, pSeg_lit, flg]; exact Is.mk), ?_⟩)
      | (refine tri_step (id := 12) (C := ⟨[], [17], [(10, (11, 0, 0)), (12, (13, 0, 0)), (14, (15, 0, 0)), (16, (17, 0, 0)), (18, (19, 0, 0)), (22, (23, 0, 0)), (82, (6, 0, 0)), (85, (6, 0, 0)), (88, (6, 0, 0)), (91, (6, 0, 0)), (93, (6, 0, 0)), (98, (43, 0, 0)), (107, (43, 0, 0)), (117, (43, 0, 0)), (129, (43, 0, 0)), (141, (43, 0, 0))]⟩) [7, 10, 12, 13] [(11, 0, 0), (13, 0, 0), (43, 0, 0)] g10 (fun _ => ⟨q_mixed, by kernel_rfl⟩) ?_; refine ⟨_, by (simp [*, F11, F16, F12, F17, F29, F20, F24, F23, F30, F31, F32, F33, F25, undef, pSeg_lit, flg]; exact Is.mk), ?_⟩)
      | (refine tri_step (id := 13) (C := ⟨[], [17], [(10, (11, 0, 0)), (12, (13, 0, 0)), (14, (15, 0, 0)), (16, (17, 0, 0)), (18, (19, 0, 0)), (22, (23, 0, 0)), (82, (6, 0, 0)), (85, (6, 0, 0)), (88, (6, 0, 0)), (91, (6, 0, 0)), (93, (6, 0, 0)), (98, (43, 0, 0)), (107, (43, 0, 0)), (117, (43, 0, 0)), (129, (43, 0, 0)), (141, (43, 0, 0))]⟩) [7, 10, 13, 14, 15] [(11, 0, 0), (15, 0, 0), (43, 0, 0)] g10 (fun _ => ⟨q_mixed, by kernel_rfl⟩) ?_; refine ⟨_, by (simp [*, F11, F16, F12, F17, F29, F20, F24, F23, F30, F31, F32, F33, F25, undef, pSeg_lit, flg]; exact Is.mk), ?_⟩)
      | (refine tri_step (id := 14) (C := ⟨[], [17], [(10, (11, 0, 0)), (12, (13, 0, 0)), (14, (15, 0, 0)), (16, (17, 0, 0)), (18, (19, 0, 0)), (22, (23, 0, 0)), (82, (6, 0, 0)), (85, (6, 0, 0)), (88, (6, 0, 0)), (91, (6, 0, 0)), (93, (6, 0, 0)), (98, (43, 0, 0)), (107, (43, 0, 0)), (117, (43, 0, 0)), (129, (43, 0, 0)), (141, (43, 0, 0))]⟩) [7, 10, 13, 15, 16, 17] [(11, 0, 0), (17, 0, 0), (43, 0, 0)] g10 (fun _ => ⟨q_mixed, by kernel_rfl⟩) ?_; refine ⟨_, by (simp [*, F11, F16, F12, F17, F29, F20, F24, F23, F30, F31, F32, F33, F25, undef, pSeg_lit, flg]; exact Is.mk), ?_⟩)
      | (refine tri_seq ?_)
      ))
          refine tri_mark (id := 15) (C := ⟨[], [17], [(10, (11, 0, 0)), (12, (13, 0, 0)), (14, (15, 0, 0)), (16, (17, 0, 0)), (18, (19, 0, 0)), (22, (23, 0, 0)), (82, (6, 0, 0)), (85, (6, 0, 0)), (88, (6, 0, 0)), (91, (6, 0, 0)), (93, (6, 0, 0)), (98, (43, 0, 0)), (107, (43, 0, 0)), (117, (43, 0, 0)), (129, (43, 0, 0)), (141, (43, 0, 0))]⟩) [7, 10, 13, 15, 16, 17, 19, 20, 21] [(11, 0, 0), (17, 0, 0), (43, 0, 0)] g10 q_mixed 1 125 126 24 5 [120] rfl rfl rfl rfl rfl rfl rfl (by kernel_rfl) (by kernel_rfl) (Nat.le_of_ble_eq_true rfl) (Nat.le_of_ble_eq_true rfl) (by kernel_rfl) (by kernel_rfl) (run_bytes [120] (z := .int .u8 0) rfl (by kernel_rfl) (by kernel_rfl) (by kernel_rfl) (by decide) (by decide) (fun g hg => by simp only [List.map_toArray, List.map_cons, List.map_nil, hg]; kernel_rfl)) (fun st => by simp [eop, ebuildS, ev, flat, leafP, isPure]) rfl (by kernel_rfl) (by simp [*, F11, F16, F12, F17, F29, F20, F24, F23, F30, F31, F32, F33, F25, undef, pSeg_lit, flg]; exact Is.mk) (by simp [*, F11, F16, F12, F17, F29, F20, F24, F23, F30, F31, F32, F33, F25, undef, pSeg_lit, flg]; exact Is.mk) ?_
          refine th_n ?_
          all_goals (repeat' (first
      | (refine tri_ret ?_)
      | (refine tri_step (id := 16) (C := ⟨[], [17], [(10, (11, 0, 0)), (12, (13, 0, 0)), (14, (15, 0, 0)), (16, (17, 0, 0)), (18, (19, 0, 0)), (22, (23, 0, 0)), (82, (6, 0, 0)), (85, (6, 0, 0)), (88, (6, 0, 0)), (91, (6, 0, 0)), (93, (6, 0, 0)), (98, (43, 0, 0)), (107, (43, 0, 0)), (117, (43, 0, 0)), (129, (43, 0, 0)), (141, (43, 0, 0))]⟩) [7, 10, 13, 15, 16, 17, 19, 20, 21, 23, 25] [(11, 0, 0), (17, 0, 0), (43, 0, 0)] g10 (fun _ => ⟨q_mixed, by kernel_rfl⟩) ?_; refine ⟨_, by (simp [*, F11, F16, F12, F17, F29, F20, F24, F23, F30, F31, F32, F33, F25, undef, pSeg_lit, flg]; exact Is.mk), ?_⟩)
      | (refine tri_step (id := 17) (C := ⟨[], [17], [(10, (11, 0, 0)), (12, (13, 0, 0)), (14, (15, 0, 0)), (16, (17, 0, 0)), (18, (19, 0, 0)), (22, (23, 0, 0)), (82, (6, 0, 0)), (85, (6, 0, 0)), (88, (6, 0, 0)), (91, (6, 0, 0)), (93, (6, 0, 0)), (98, (43, 0, 0)), (107, (43, 0, 0)), (117, (43, 0, 0)), (129, (43, 0, 0)), (141, (43, 0, 0))]⟩) [10, 13, 15, 16, 17, 19, 20, 21, 23, 25, 26] [(11, 0, 0), (17, 0, 0)] g10 nodraw ?_; refine ⟨_, by (simp [*, F11, F16, F12, F17, F29, F20, F24, F23, F30, F31, F32, F33, F25, undef, pSeg_lit, flg]; exact Is.mk), ?_⟩)
      | (refine tri_step (id := 18) (C := ⟨[], [17], [(10, (11, 0, 0)), (12, (13, 0, 0)), (14, (15, 0, 0)), (16, (17, 0, 0)), (18, (19, 0, 0)), (22, (23, 0, 0)), (82, (6, 0, 0)), (85, (6, 0, 0)), (88, (6, 0, 0)), (91, (6, 0, 0)), (93, (6, 0, 0)), (98, (43, 0, 0)), (107, (43, 0, 0)), (117, (43, 0, 0)), (129, (43, 0, 0)), (141, (43, 0, 0))]⟩) [6] [] g10 nodraw ?_; refine ⟨_, by (simp [*, F11, F16, F12, F17, F29, F20, F24, F23, F30, F31, F32, F33, F25, undef, pSeg_lit, flg]; exact Is.mk), ?_⟩)
      ))
          all_goals (refine post_plainV (P := Try.prog) (fn := Try.f10) (by simp; exact IsV.mk) rfl ?_)
          all_goals (first | (simp [F11, F16, F12, F17, F29, F20, F24, F23, F30, F31, F32, F33, F25, undef, pSeg_lit, flg]; done) | (simp [*, F11, F16, F12, F17, F29, F20, F24, F23, F30, F31, F32, F33, F25, undef, pSeg_lit, flg]; done) | (simp_all [F11, F16, F12, F17, F29, F20, F24, F23, F30, F31, F32, F33, F25, undef, pSeg_lit, flg]; done) | (simp [F11, F16, F12, F17, F29, F20, F24, F23, F30, F31, F32, F33, F25, undef, pSeg_lit, flg] <;> (repeat' split) <;> simp_all; done) | (simp [F11, F16, F12, F17, F29, F20, F24, F23, F30, F31, F32, F33, F25, undef, pSeg_lit, flg] <;> (repeat' split) <;> simp_all [Bool.and_assoc] <;> grind [List.length_eq_zero_iff, sendCells_co, recvCells_co, pieceCells_co, connCells_co, segCells_co, clockCells_co]))
  · refine specAt_of_tri Try.func10 rfl (Nat.le_of_ble_eq_true rfl) ?_
    all_goals (repeat' (first
      | (refine tri_condT (b_true (by simp; with_reducible exact IsB.mk)) ?_)
      | (refine th_r ?_)
      | (refine tri_ret ?_)
      | (refine tri_step (id := 0) (C := ⟨[], [17], [(10, (11, 0, 0)), (12, (13, 0, 0)), (14, (15, 0, 0)), (16, (17, 0, 0)), (18, (19, 0, 0)), (22, (23, 0, 0)), (82, (6, 0, 0)), (85, (6, 0, 0)), (88, (6, 0, 0)), (91, (6, 0, 0)), (93, (6, 0, 0)), (98, (43, 0, 0)), (107, (43, 0, 0)), (117, (43, 0, 0)), (129, (43, 0, 0)), (141, (43, 0, 0))]⟩) [1, 3, 5] [(4, 0, 0), (6, 0, 0)] g10 nodraw ?_; refine ⟨_, by (simp [*, F11, F16, F12, F17, F29, F20, F24, F23, F30, F31, F32, F33, F25, undef, pSeg_lit, flg]; exact Is.mk), ?_⟩)
      | (refine tri_step (id := 1) (C := ⟨[], [17], [(10, (11, 0, 0)), (12, (13, 0, 0)), (14, (15, 0, 0)), (16, (17, 0, 0)), (18, (19, 0, 0)), (22, (23, 0, 0)), (82, (6, 0, 0)), (85, (6, 0, 0)), (88, (6, 0, 0)), (91, (6, 0, 0)), (93, (6, 0, 0)), (98, (43, 0, 0)), (107, (43, 0, 0)), (117, (43, 0, 0)), (129, (43, 0, 0)), (141, (43, 0, 0))]⟩) [1, 3, 5, 39] [(4, 0, 0), (6, 0, 0)] g10 nodraw ?_; refine ⟨_, by (simp [*, F11, F16, F12, F17, F29, F20, F24, F23, F30, F31, F32, F33, F25, undef, pSeg_lit, flg]; exact Is.mk), ?_⟩)
      | (refine tri_step (id := 2) (C := ⟨[], [17], [(10, (11, 0, 0)), (12, (13, 0, 0)), (14, (15, 0, 0)), (16, (17, 0, 0)), (18, (19, 0, 0)), (22, (23, 0, 0)), (82, (6, 0, 0)), (85, (6, 0, 0)), (88, (6, 0, 0)), (91, (6, 0, 0)), (93, (6, 0, 0)), (98, (43, 0, 0)), (107, (43, 0, 0)), (117, (43, 0, 0)), (129, (43, 0, 0)), (141, (43, 0, 0))]⟩) [6] [] g10 nodraw ?_; refine ⟨_, by (simp [*, F11, F16, F12, F17, F29, F20, F24, F23, F30, F31, F32, F33, F25, undef, pSeg_lit, flg]; exact Is.mk), ?_⟩)
      | (refine tri_seq ?_)
      ))
    all_goals (refine post_plainV (P := Try.prog) (fn := Try.f10) (by simp; exact IsV.mk) rfl ?_)
    all_goals (first | (simp [F11, F16, F12, F17, F29, F20, F24, F23, F30, F31, F32, F33, F25, undef, pSeg_lit, flg]; done) | (simp [*, F11, F16, F12, F17, F29, F20, F24, F23, F30, F31, F32, F33, F25, undef, pSeg_lit, flg]; done) | (simp_all [F11, F16, F12, F17, F29, F20, F24, F23, F30, F31, F32, F33, F25, undef, pSeg_lit, flg]; done) | (simp [F11, F16, F12, F17, F29, F20, F24, F23, F30, F31, F32, F33, F25, undef, pSeg_lit, flg] <;> (repeat' split) <;> simp_all; done) | (simp [F11, F16, F12, F17, F29, F20, F24, F23, F30, F31, F32, F33, F25, undef, pSeg_lit, flg] <;> (repeat' split) <;> simp_all [Bool.and_assoc] <;> grind [List.length_eq_zero_iff, sendCells_co, recvCells_co, pieceCells_co, connCells_co, segCells_co, clockCells_co]))
open Classical in
noncomputable def F10 : Fn1
  | [x0, x1, x2] => (whole pTwo x0).bind fun first => (decS 5 pStp stpCells x1).bind fun l => (whole pFar x2).bind fun s => if l.length ≤ 9223372036854775807 then some ((.v (.bool true)), none) else none
  | _ => none
theorem spec10 : Spec1 Try.prog 10 F10 := spec_of fun ys r o h => by
  unfold F10 at h
  split at h
  case h_2 => cases h
  obtain ⟨first, k0, h1⟩ := bind_some h
  obtain ⟨l, k1, h2⟩ := bind_some h1
  obtain ⟨s, k2, h3⟩ := bind_some h2
  obtain ⟨hpre, hz⟩ := ite_some h3
  cases hz
  exact ⟨_, at10 first l s hpre, rfl, le_plain ⟨whole_co pTwo_snd k0, ⟨decS_coA k1, ⟨whole_co pFar_snd k2, trivial⟩⟩⟩ (by simp only [List.all_cons, List.all_nil, Bool.not_false, Bool.and_self, notRefB (whole_co pTwo_snd k0) rfl (by simp), notRefB (decS_coA k1) rfl (by simp), notRefB (whole_co pFar_snd k2) rfl (by simp)]) rfl⟩
theorem en10 : Enters Try.prog 10 := enters_of Try.func10 (by kernel_rfl) (by kernel_rfl)

end Go.Proofs.Ytkjodjaamjnejaa

