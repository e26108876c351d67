import Derived.Test.YtkjodjaamjnejaaK12
import Derived.Test.YtkjodjaamjnejaaP1
import Derived.Test.YtkjodjaamjnejaaP10
import Derived.Test.YtkjodjaamjnejaaK11
import Derived.Test.YtkjodjaamjnejaaP17
import Derived.Test.YtkjodjaamjnejaaP8
import Derived.Test.YtkjodjaamjnejaaK10
set_option linter.all false
set_option linter.all false
namespace Go.Proofs.Ytkjodjaamjnejaa
open Go Go.RowKit Caw
theorem prun_map {α β : Type} (f : α → β) (s : Sem α) : prun Try.prog (f <$> s) = (prun Try.prog s).map f := by
  show prun Try.prog (s >>= fun x => pure (f x)) = _
  rw [prun_bind]
  cases prun Try.prog s <;> rfl
theorem prun_prog : prun Try.prog program = some Try.prog := rfl
theorem stood42 : Try.prog.stoodInHeld 42 = false := by kernel_rfl
theorem stood35 : Try.prog.stoodInHeld 35 = false := by kernel_rfl
theorem eq_clock (d : Nat) (a b c : Int) : prun Try.prog (Op.equalIn (d + 2) 42 (.agg #[.int .i64 a, .int .i64 b, .int .i64 c]) (.agg #[.int .i64 a, .int .i64 b, .int .i64 c])) = some true := by
  have p0 : prun Try.prog (part 2 #[.int .i64 a, .int .i64 b, .int .i64 c] 0) = some (.int .i64 a) := by kernel_rfl
  have p1 : prun Try.prog (part 2 #[.int .i64 a, .int .i64 b, .int .i64 c] 1) = some (.int .i64 b) := by kernel_rfl
  have p2 : prun Try.prog (part 2 #[.int .i64 a, .int .i64 b, .int .i64 c] 2) = some (.int .i64 c) := by kernel_rfl
  rw [Op.equalIn, prun_bind, prun_und Try.underlying42]
  simp [prun_bind, prun_pure, prun_prog, stood42, p0, p1, p2, eq_int Try.underlying2]
theorem eq_ip (d : Nat) (a b c e : Int) : prun Try.prog (Op.equalIn (d + 2) 32 (.agg #[.int .u8 a, .int .u8 b, .int .u8 c, .int .u8 e]) (.agg #[.int .u8 a, .int .u8 b, .int .u8 c, .int .u8 e])) = some true := by
  have p0 : prun Try.prog (part 5 #[.int .u8 a, .int .u8 b, .int .u8 c, .int .u8 e] 0) = some (.int .u8 a) := by kernel_rfl
  have p1 : prun Try.prog (part 5 #[.int .u8 a, .int .u8 b, .int .u8 c, .int .u8 e] 1) = some (.int .u8 b) := by kernel_rfl
  have p2 : prun Try.prog (part 5 #[.int .u8 a, .int .u8 b, .int .u8 c, .int .u8 e] 2) = some (.int .u8 c) := by kernel_rfl
  have p3 : prun Try.prog (part 5 #[.int .u8 a, .int .u8 b, .int .u8 c, .int .u8 e] 3) = some (.int .u8 e) := by kernel_rfl
  have ps : prun Try.prog (Go.sizeOf 5) = some 1 := by kernel_rfl
  rw [Op.equalIn, prun_bind, prun_und Try.underlying32]
  simp [prun_bind, prun_pure, prun_prog, ps, p0, p1, p2, p3, eq_int Try.underlying5, List.range', Std.Legacy.Range.forIn_eq_forIn_range']
theorem eq_addr (d : Nat) (a b c e p : Int) : prun Try.prog (Op.equalIn (d + 3) 35 (.agg #[.int .u8 a, .int .u8 b, .int .u8 c, .int .u8 e, .int .u16 p]) (.agg #[.int .u8 a, .int .u8 b, .int .u8 c, .int .u8 e, .int .u16 p])) = some true := by
  have p0 : prun Try.prog (part 32 #[.int .u8 a, .int .u8 b, .int .u8 c, .int .u8 e, .int .u16 p] 0) = some (.agg #[.int .u8 a, .int .u8 b, .int .u8 c, .int .u8 e]) := by kernel_rfl
  have p1 : prun Try.prog (part 33 #[.int .u8 a, .int .u8 b, .int .u8 c, .int .u8 e, .int .u16 p] 4) = some (.int .u16 p) := by kernel_rfl
  rw [Op.equalIn, prun_bind, prun_und Try.underlying35]
  simp [prun_bind, prun_pure, prun_prog, stood35, p0, p1, eq_int Try.underlying33, eq_ip]
@[simp] theorem ops_eq35 (x y : Operand) (n : TypeId) : (Op.binOp .eql 35 x y n).operands = #[x, y] := by simp [Op.operands]
@[simp] theorem ops_eq42 (x y : Operand) (n : TypeId) : (Op.binOp .eql 42 x y n).operands = #[x, y] := by simp [Op.operands]
def asAd : Value → Option (Int × Int × Int × Int × Int)
  | .agg a => match a.toList with
    | [.int .u8 a, .int .u8 b, .int .u8 c, .int .u8 d, .int .u16 p] => some (a, b, c, d, p)
    | _ => none
  | _ => none
theorem asAd_eq {v : Value} {a b c d p : Int} (h : asAd v = some (a, b, c, d, p)) : v = .agg #[.int .u8 a, .int .u8 b, .int .u8 c, .int .u8 d, .int .u16 p] := by
  unfold asAd at h
  split at h
  · rename_i xs
    split at h
    · rename_i e
      obtain ⟨l⟩ := xs
      simp only at e
      cases h
      rw [e]
    · cases h
  · cases h
def asCk : Value → Option (Int × Int × Int)
  | .agg a => match a.toList with
    | [.int .i64 a, .int .i64 b, .int .i64 c] => some (a, b, c)
    | _ => none
  | _ => none
theorem asCk_eq {v : Value} {a b c : Int} (h : asCk v = some (a, b, c)) : v = .agg #[.int .i64 a, .int .i64 b, .int .i64 c] := by
  unfold asCk at h
  split at h
  · rename_i xs
    split at h
    · rename_i e
      obtain ⟨l⟩ := xs
      simp only at e
      cases h
      rw [e]
    · cases h
  · cases h
@[simp] theorem prun_addr (g : Operand → Value) (x y : Operand) (dd : Option Tmp) (n ty : TypeId) (pos : String) (af : Array Edge) (gu : Option (Nat × Bool)) (h1 : (asAd (g x)).isSome = true) (h2 : asAd (g y) = asAd (g x)) :
    prun Try.prog (execOp g ⟨dd, .binOp .eql 35 x y n, ty, pos, af, gu⟩) = some (.value (.bool true)) := by
  obtain ⟨⟨a, b, c, e, p⟩, hx⟩ := Option.isSome_iff_exists.1 h1
  have hy := h2.trans hx
  have ex := asAd_eq hx
  have ey := asAd_eq hy
  have g0 : prun Try.prog (eqGuard .eql 35 x y (.agg #[.int .u8 a, .int .u8 b, .int .u8 c, .int .u8 e, .int .u16 p]) (.agg #[.int .u8 a, .int .u8 b, .int .u8 c, .int .u8 e, .int .u16 p])) = some () := by kernel_rfl
  have g1 : prun Try.prog (Op.equal 35 (.agg #[.int .u8 a, .int .u8 b, .int .u8 c, .int .u8 e, .int .u16 p]) (.agg #[.int .u8 a, .int .u8 b, .int .u8 c, .int .u8 e, .int .u16 p])) = some true := eq_addr 9997 a b c e p
  unfold execOp
  simp only []
  rw [ex, ey]
  simp [prun_bind, prun_pure, prun_map, g0, binOp, g1]
@[simp] theorem prun_clock (g : Operand → Value) (x y : Operand) (dd : Option Tmp) (n ty : TypeId) (pos : String) (af : Array Edge) (gu : Option (Nat × Bool)) (h1 : (asCk (g x)).isSome = true) (h2 : asCk (g y) = asCk (g x)) :
    prun Try.prog (execOp g ⟨dd, .binOp .eql 42 x y n, ty, pos, af, gu⟩) = some (.value (.bool true)) := by
  obtain ⟨⟨a, b, c⟩, hx⟩ := Option.isSome_iff_exists.1 h1
  have hy := h2.trans hx
  have ex := asCk_eq hx
  have ey := asCk_eq hy
  have g0 : prun Try.prog (eqGuard .eql 42 x y (.agg #[.int .i64 a, .int .i64 b, .int .i64 c]) (.agg #[.int .i64 a, .int .i64 b, .int .i64 c])) = some () := by kernel_rfl
  have g1 : prun Try.prog (Op.equal 42 (.agg #[.int .i64 a, .int .i64 b, .int .i64 c]) (.agg #[.int .i64 a, .int .i64 b, .int .i64 c])) = some true := eq_clock 9998 a b c
  unfold execOp
  simp only []
  rw [ex, ey]
  simp [prun_bind, prun_pure, prun_map, g0, binOp, g1]
end Go.Proofs.Ytkjodjaamjnejaa

-- Printed by genwalk.py.
namespace Go.Proofs.Ytkjodjaamjnejaa
open Go Go.RowKit Caw
set_option linter.unusedSimpArgs false
set_option linter.unusedVariables false
set_option maxRecDepth 100000

-- caravel/caravellaw19.same
set_option maxHeartbeats 8000000 in
theorem at25 (a : Caw.Conn) (b : Caw.Conn) (hpre : a = b ∧ a.sm) : SpecAt Try.prog 25 [.agg (connCells a), .agg (connCells b)] (.v (.bool true)) none := by
  obtain ⟨rfl, h1⟩ := hpre
  have h2 : a.recv.ahead.length ≤ 1000000 := by have := h1.r.2.1; omega
  refine specAt_of_tri Try.func25 rfl (Nat.le_of_ble_eq_true rfl) ?_
  all_goals (repeat' (first
      | (refine tri_condF (b_true (by simp; with_reducible exact IsB.mk)) ?_)
      | (refine tri_skipT ?_)
      | (refine tri_block ?_)
      | (refine tri_step (id := 0) (C := ⟨[2, 3], [], [(126, (3, 0, 0)), (133, (4, 0, 0)), (142, (3, 0, 0)), (150, (4, 0, 0))]⟩) [2, 3] [] gok_nil nodraw ?_; refine ⟨_, by (simp [*, undef, encAddr, encClock, asAd, asCk, flg]; exact Is.mk), ?_⟩)
      | (refine tri_step (id := 1) (C := ⟨[2, 3], [], [(126, (3, 0, 0)), (133, (4, 0, 0)), (142, (3, 0, 0)), (150, (4, 0, 0))]⟩) [2, 3, 117] [] gok_nil nodraw ?_; refine ⟨_, by (simp [*, undef, encAddr, encClock, asAd, asCk, flg]; exact Is.mk), ?_⟩)
      | (refine tri_step (id := 3) (C := ⟨[2, 3], [], [(126, (3, 0, 0)), (133, (4, 0, 0)), (142, (3, 0, 0)), (150, (4, 0, 0))]⟩) [2, 3, 121, 122] [] gok_nil nodraw ?_; refine ⟨_, by (simp [*, undef, encAddr, encClock, asAd, asCk, flg]; exact Is.mk), ?_⟩)
      | (refine tri_seq ?_)
      ))
  refine tri_loop (fun n s => ∃ i d r, At a.recv.ahead d r i ∧ n = r.length ∧ s = mkSt [(2, (AV.agg (connCells a)).rptr 0), (3, (AV.agg (connCells a)).rptr 0), (121, .v (.int .i64 a.recv.ahead.length)), (122, .v (.int .i64 i))] []) a.recv.ahead.length _ (Le.refl _) ⟨0, [], a.recv.ahead, .start _, rfl, rfl⟩ ?_
  rintro n s ⟨i, d, r, hl, hn, rfl⟩
  cases r with
  | nil =>
    have hlt := hl.ge
    all_goals (repeat' (first
      | (refine tri_condF (b_true (by simp; with_reducible exact IsB.mk)) ?_)
      | (refine th_n ?_)
      | (refine in_e ?_)
      | (refine th_e ?_)
      | (refine tri_ret ?_)
      | (refine tri_exit ?_)
      | (refine tri_step (id := 4) (C := ⟨[2, 3], [], [(126, (3, 0, 0)), (133, (4, 0, 0)), (142, (3, 0, 0)), (150, (4, 0, 0))]⟩) [2, 3, 121, 122, 123] [] gok_nil nodraw ?_; refine ⟨_, by (simp [*, undef, encAddr, encClock, asAd, asCk, flg]; exact Is.mk), ?_⟩)
      | (refine tri_step (id := 9) (C := ⟨[2, 3], [], [(126, (3, 0, 0)), (133, (4, 0, 0)), (142, (3, 0, 0)), (150, (4, 0, 0))]⟩) [4] [] gok_nil nodraw ?_; refine ⟨_, by (simp [*, undef, encAddr, encClock, asAd, asCk, flg]; exact Is.mk), ?_⟩)
      | (refine tri_seq ?_)
      ))
    all_goals (refine post_plainV (P := Try.prog) (fn := Try.f25) (by simp; exact IsV.mk) rfl ?_)
    all_goals (first | (simp [undef, encAddr, encClock, asAd, asCk, flg]; done) | (simp [*, undef, encAddr, encClock, asAd, asCk, flg]; done) | (simp_all [undef, encAddr, encClock, asAd, asCk, flg]; done) | (simp [undef, encAddr, encClock, asAd, asCk, flg] <;> (repeat' split) <;> simp_all; done) | (simp [undef, encAddr, encClock, asAd, asCk, flg] <;> (repeat' split) <;> simp_all [Bool.and_assoc] <;> grind [List.length_eq_zero_iff, sendCells_co, recvCells_co, pieceCells_co, connCells_co, segCells_co, clockCells_co]))
  | cons x r =>
    have hlt := hl.lt
    have hget := hl.get
    have hw := hl.wi h2
    have hl2 := hl.next
    clear hl
    all_goals (repeat' (first
      | (refine tri_condT (b_true (by simp; with_reducible exact IsB.mk)) ?_)
      | (refine tri_condF (b_true (by simp; with_reducible exact IsB.mk)) ?_)
      | (refine tri_skipT ?_)
      | (refine tri_skip ?_)
      | (refine th_n ?_)
      | (refine in_n ?_)
      | (refine tri_block ?_)
      | (refine tri_step (id := 4) (C := ⟨[2, 3], [], [(126, (3, 0, 0)), (133, (4, 0, 0)), (142, (3, 0, 0)), (150, (4, 0, 0))]⟩) [2, 3, 121, 122, 123] [] gok_nil nodraw ?_; refine ⟨_, by (simp [*, undef, encAddr, encClock, asAd, asCk, flg]; exact Is.mk), ?_⟩)
      | (refine tri_step (id := 5) (C := ⟨[2, 3], [], [(126, (3, 0, 0)), (133, (4, 0, 0)), (142, (3, 0, 0)), (150, (4, 0, 0))]⟩) [2, 3, 5, 121, 122] [] gok_nil nodraw ?_; refine ⟨_, by (simp [*, undef, encAddr, encClock, asAd, asCk, flg]; exact Is.mk), ?_⟩)
      | (refine tri_step (id := 6) (C := ⟨[2, 3], [], [(126, (3, 0, 0)), (133, (4, 0, 0)), (142, (3, 0, 0)), (150, (4, 0, 0))]⟩) [2, 3, 121, 122, 158] [] gok_nil (fun _ => ⟨q_mixed, by kernel_rfl⟩) ?_; refine ⟨_, by (simp [*, undef, encAddr, encClock, asAd, asCk, flg]; exact Is.mk), ?_⟩)
      | (refine tri_last (id := 8) (C := ⟨[2, 3], [], [(126, (3, 0, 0)), (133, (4, 0, 0)), (142, (3, 0, 0)), (150, (4, 0, 0))]⟩) [2, 3, 121, 122] [] gok_nil nodraw ?_; refine ⟨_, by (simp [*, undef, encAddr, encClock, asAd, asCk, flg]; exact Is.mk), ?_⟩)
      | (refine tri_seq ?_)
      ))
    refine ⟨r.length, _, by simp [hn], Le.refl _, i + 1, d ++ [x], r, hl2, rfl, rfl⟩
open Classical in
noncomputable def F25 : Fn1
  | [x0, x1] => (whole pConn x0).bind fun a => (whole pConn x1).bind fun b => if a = b ∧ a.sm then some ((.v (.bool true)), none) else none
  | _ => none
theorem spec25 : Spec1 Try.prog 25 F25 := spec_of fun ys r o h => by
  unfold F25 at h
  split at h
  case h_2 => cases h
  obtain ⟨a, k0, h1⟩ := bind_some h
  obtain ⟨b, k1, h2⟩ := bind_some h1
  obtain ⟨hpre, hz⟩ := ite_some h2
  cases hz
  exact ⟨_, at25 a b hpre, rfl, le_plain ⟨whole_co pConn_snd k0, ⟨whole_co pConn_snd k1, trivial⟩⟩ (by simp only [List.all_cons, List.all_nil, Bool.not_false, Bool.and_self, notRefB (whole_co pConn_snd k0) rfl (by simp), notRefB (whole_co pConn_snd k1) rfl (by simp)]) rfl⟩
theorem en25 : Enters Try.prog 25 := enters_of Try.func25 (by kernel_rfl) (by kernel_rfl)

end Go.Proofs.Ytkjodjaamjnejaa

-- Printed by genwalk.py.
namespace Go.Proofs.Ytkjodjaamjnejaa
open Go Go.RowKit Caw
set_option linter.unusedSimpArgs false
set_option linter.unusedVariables false
set_option maxRecDepth 100000

-- caravel/caravellaw19.TcbAny
theorem g7 : GOk1 Try.prog (ctxOf [(11, F11), (16, F16), (12, F12), (17, F17), (22, F22), (23, F23), (24, F24), (20, F20), (25, F25)]) := gok_cons spec11 en11 (gok_cons spec16 en16 (gok_cons spec12 en12 (gok_cons spec17 en17 (gok_cons spec22 en22 (gok_cons spec23 en23 (gok_cons spec24 en24 (gok_cons spec20 en20 (gok_cons spec25 en25 (gok_nil)))))))))
set_option maxHeartbeats 20000000 in
theorem at7 (first : Caw.Two) (l : List Stp) (far : List Far) (hpre : l.length ≤ 9223372036854775807 ∧ far.length ≤ 9223372036854775807 ∧ ∀ x ∈ far, FarOk x) : SpecAt Try.prog 7 [.agg (twoCells first), .sl 5 (encS stpCells l) none, .sl 6 (encS farCells far) none] (.v (.bool true)) none := by
  obtain ⟨hp1, hp2, hp3⟩ := hpre
  rcases told_cases (fitsL l) with hf | hf
  · by_cases h40 : (40 : Int) < far.length
    · refine specAt_of_tri Try.func7 rfl (Nat.le_of_ble_eq_true rfl) ?_
      all_goals (repeat' (first
      | (refine tri_condT (b_true (by simp; with_reducible exact IsB.mk)) ?_)
      | (refine th_r ?_)
      | (refine tri_ret ?_)
      | (refine tri_step (id := 0) (C := ⟨[3], [17], [(13, (14, 0, 0)), (14, (15, 0, 0)), (15, (16, 0, 0)), (16, (17, 0, 0)), (18, (19, 0, 0)), (108, (35, 0, 0)), (118, (35, 0, 0)), (162, (35, 0, 0))]⟩) [1, 2, 3] [] g7 nodraw ?_; refine ⟨_, by (simp [*, F11, F16, F12, F17, F22, F23, F24, F20, F25, undef, flg]; exact Is.mk), ?_⟩)
      | (refine tri_step (id := 1) (C := ⟨[3], [17], [(13, (14, 0, 0)), (14, (15, 0, 0)), (15, (16, 0, 0)), (16, (17, 0, 0)), (18, (19, 0, 0)), (108, (35, 0, 0)), (118, (35, 0, 0)), (162, (35, 0, 0))]⟩) [1, 2, 3, 31] [] g7 nodraw ?_; refine ⟨_, by (simp [*, F11, F16, F12, F17, F22, F23, F24, F20, F25, undef, flg]; exact Is.mk), ?_⟩)
      | (refine tri_step (id := 2) (C := ⟨[3], [17], [(13, (14, 0, 0)), (14, (15, 0, 0)), (15, (16, 0, 0)), (16, (17, 0, 0)), (18, (19, 0, 0)), (108, (35, 0, 0)), (118, (35, 0, 0)), (162, (35, 0, 0))]⟩) [6] [] g7 nodraw ?_; refine ⟨_, by (simp [*, F11, F16, F12, F17, F22, F23, F24, F20, F25, undef, flg]; exact Is.mk), ?_⟩)
      | (refine tri_seq ?_)
      ))
      all_goals (refine post_plainV (P := Try.prog) (fn := Try.f7) (by simp; exact IsV.mk) rfl ?_)
      all_goals (first | (simp [F11, F16, F12, F17, F22, F23, F24, F20, F25, undef, flg]; done) | (simp [*, F11, F16, F12, F17, F22, F23, F24, F20, F25, undef, flg]; done) | (simp_all [F11, F16, F12, F17, F22, F23, F24, F20, F25, undef, flg]; done) | (simp [F11, F16, F12, F17, F22, F23, F24, F20, F25, undef, flg] <;> (repeat' split) <;> simp_all; done) | (simp [F11, F16, F12, F17, F22, F23, F24, F20, F25, undef, flg] <;> (repeat' split) <;> simp_all [Bool.and_assoc] <;> grind [List.length_eq_zero_iff, sendCells_co, recvCells_co, pieceCells_co, connCells_co, segCells_co, clockCells_co]))
    · obtain ⟨hlen, hdat⟩ := fits_len hf
      refine specAt_of_tri Try.func7 rfl (Nat.le_of_ble_eq_true rfl) ?_
      all_goals (repeat' (first
      | (refine tri_condF (b_true (by simp; with_reducible exact IsB.mk)) ?_)
      | (refine tri_skipT ?_)
      | (refine tri_block ?_)
      | (refine tri_step (id := 0) (C := ⟨[3], [17], [(13, (14, 0, 0)), (14, (15, 0, 0)), (15, (16, 0, 0)), (16, (17, 0, 0)), (18, (19, 0, 0)), (108, (35, 0, 0)), (118, (35, 0, 0)), (162, (35, 0, 0))]⟩) [1, 2, 3] [] g7 nodraw ?_; refine ⟨_, by (simp [*, F11, F16, F12, F17, F22, F23, F24, F20, F25, undef, flg]; exact Is.mk), ?_⟩)
      | (refine tri_step (id := 1) (C := ⟨[3], [17], [(13, (14, 0, 0)), (14, (15, 0, 0)), (15, (16, 0, 0)), (16, (17, 0, 0)), (18, (19, 0, 0)), (108, (35, 0, 0)), (118, (35, 0, 0)), (162, (35, 0, 0))]⟩) [1, 2, 3, 31] [] g7 nodraw ?_; refine ⟨_, by (simp [*, F11, F16, F12, F17, F22, F23, F24, F20, F25, undef, flg]; exact Is.mk), ?_⟩)
      | (refine tri_step (id := 3) (C := ⟨[3], [17], [(13, (14, 0, 0)), (14, (15, 0, 0)), (15, (16, 0, 0)), (16, (17, 0, 0)), (18, (19, 0, 0)), (108, (35, 0, 0)), (118, (35, 0, 0)), (162, (35, 0, 0))]⟩) [1, 2, 7] [(35, 0, 0)] g7 nodraw ?_; refine ⟨_, by (simp [*, F11, F16, F12, F17, F22, F23, F24, F20, F25, undef, flg]; exact Is.mk), ?_⟩)
      | (refine tri_step (id := 4) (C := ⟨[3], [17], [(13, (14, 0, 0)), (14, (15, 0, 0)), (15, (16, 0, 0)), (16, (17, 0, 0)), (18, (19, 0, 0)), (108, (35, 0, 0)), (118, (35, 0, 0)), (162, (35, 0, 0))]⟩) [2, 7, 35, 36, 37] [(35, 0, 0)] g7 nodraw ?_; refine ⟨_, by (simp [*, F11, F16, F12, F17, F22, F23, F24, F20, F25, undef, flg]; exact Is.mk), ?_⟩)
      | (refine tri_seq ?_)
      ))
      refine tri_loop (fun n s => ∃ i d r t, At l d r i ∧ n = r.length ∧ TalkOk (1 + 3 * i) t ∧ s = mkSt [(2, .sl 6 (encS farCells far) none), (7, .ptr (35,0,0) 0), (35, .sl 5 (encS stpCells l) none), (36, .v (.int .i64 l.length)), (37, .v (.int .i64 i))] [((35,0,0), talkCells t)]) l.length _ (Le.refl _) ⟨0, [], l, begins first.a first.b, .start _, rfl, (begins_ok first.a first.b).2, rfl⟩ ?_
      rintro n s ⟨i, d, r, t, hl, hn, hok, rfl⟩
      cases r with
      | cons x r =>
        have hlt := hl.lt
        have hget := hl.get
        have hw := hl.wi2 hp1
        have hi : i ≤ 79 := by simp at hlt; omega
        obtain ⟨hp, hok2⟩ := step_okT (by omega) hok (hdat x hl.mem)
        have hl2 := hl.next
        clear hl hok hdat hp3
        all_goals (repeat' (first
      | (refine tri_condT (b_true (by simp; with_reducible exact IsB.mk)) ?_)
      | (refine tri_skipT ?_)
      | (refine th_n ?_)
      | (refine in_n ?_)
      | (refine tri_block ?_)
      | (refine tri_step (id := 5) (C := ⟨[3], [17], [(13, (14, 0, 0)), (14, (15, 0, 0)), (15, (16, 0, 0)), (16, (17, 0, 0)), (18, (19, 0, 0)), (108, (35, 0, 0)), (118, (35, 0, 0)), (162, (35, 0, 0))]⟩) [2, 7, 35, 36, 37, 38] [(35, 0, 0)] g7 nodraw ?_; refine ⟨_, by (simp [*, F11, F16, F12, F17, F22, F23, F24, F20, F25, undef, flg]; exact Is.mk), ?_⟩)
      | (refine tri_step (id := 6) (C := ⟨[3], [17], [(13, (14, 0, 0)), (14, (15, 0, 0)), (15, (16, 0, 0)), (16, (17, 0, 0)), (18, (19, 0, 0)), (108, (35, 0, 0)), (118, (35, 0, 0)), (162, (35, 0, 0))]⟩) [2, 7, 9, 35, 36, 37] [(10, 0, 0), (35, 0, 0)] g7 nodraw ?_; refine ⟨_, by (simp [*, F11, F16, F12, F17, F22, F23, F24, F20, F25, undef, flg]; exact Is.mk), ?_⟩)
      | (refine tri_last (id := 7) (C := ⟨[3], [17], [(13, (14, 0, 0)), (14, (15, 0, 0)), (15, (16, 0, 0)), (16, (17, 0, 0)), (18, (19, 0, 0)), (108, (35, 0, 0)), (118, (35, 0, 0)), (162, (35, 0, 0))]⟩) [2, 7, 35, 36, 37] [(35, 0, 0)] g7 nodraw ?_; refine ⟨_, by (simp [*, F11, F16, F12, F17, F22, F23, F24, F20, F25, undef, flg]; exact Is.mk), ?_⟩)
      | (refine tri_last (id := 8) (C := ⟨[3], [17], [(13, (14, 0, 0)), (14, (15, 0, 0)), (15, (16, 0, 0)), (16, (17, 0, 0)), (18, (19, 0, 0)), (108, (35, 0, 0)), (118, (35, 0, 0)), (162, (35, 0, 0))]⟩) [2, 7, 35, 36, 37] [(35, 0, 0)] g7 nodraw ?_; refine ⟨_, by (simp [*, F11, F16, F12, F17, F22, F23, F24, F20, F25, undef, flg]; exact Is.mk), ?_⟩)
      | (refine tri_seq ?_)
      ))
        refine ⟨r.length, _, by simp [hn], Le.refl _, i + 1, d ++ [x], r, talkStep t x, hl2, rfl, hok2.le (by omega), rfl⟩
      | nil =>
        have hlt := hl.ge
        have hi : i ≤ 80 := by have := hl.2; have := hl.end; subst this; omega
        have hok2 := hok.le (show 1 + 3 * i ≤ 250 by omega)
        clear hl hok hf hdat hlen hn h40 hi hp1
        all_goals (repeat' (first
      | (refine tri_condF (b_true (by simp; with_reducible exact IsB.mk)) ?_)
      | (refine th_n ?_)
      | (refine in_e ?_)
      | (refine th_e ?_)
      | (refine tri_exit ?_)
      | (refine tri_block ?_)
      | (refine tri_step (id := 5) (C := ⟨[3], [17], [(13, (14, 0, 0)), (14, (15, 0, 0)), (15, (16, 0, 0)), (16, (17, 0, 0)), (18, (19, 0, 0)), (108, (35, 0, 0)), (118, (35, 0, 0)), (162, (35, 0, 0))]⟩) [2, 7, 35, 36, 37, 38] [(35, 0, 0)] g7 nodraw ?_; refine ⟨_, by (simp [*, F11, F16, F12, F17, F22, F23, F24, F20, F25, undef, flg]; exact Is.mk), ?_⟩)
      | (refine tri_step (id := 9) (C := ⟨[3], [17], [(13, (14, 0, 0)), (14, (15, 0, 0)), (15, (16, 0, 0)), (16, (17, 0, 0)), (18, (19, 0, 0)), (108, (35, 0, 0)), (118, (35, 0, 0)), (162, (35, 0, 0))]⟩) [7, 45, 46, 47] [(35, 0, 0)] g7 nodraw ?_; refine ⟨_, by (simp [*, F11, F16, F12, F17, F22, F23, F24, F20, F25, undef, flg]; exact Is.mk), ?_⟩)
      | (refine tri_seq ?_)
      ))
        clear hlt
        refine tri_loop (fun n s => ∃ i d r t, At far d r i ∧ n = r.length ∧ TalkOk 250 t ∧ s = mkSt [(7, .ptr (35,0,0) 0), (45, .sl 6 (encS farCells far) none), (46, .v (.int .i64 far.length)), (47, .v (.int .i64 i))] [((35,0,0), talkCells t)]) far.length _ (Le.refl _) ⟨0, [], far, t, .start _, rfl, hok2, rfl⟩ ?_
        clear hok2
        rintro n s ⟨i, d, r, t, hl, hn, hok, rfl⟩
        cases r with
        | nil =>
          have hlt := hl.ge
          clear hl hok hn hp3
          all_goals (repeat' (first
      | (refine tri_condF (b_true (by simp; with_reducible exact IsB.mk)) ?_)
      | (refine th_n ?_)
      | (refine in_e ?_)
      | (refine th_e ?_)
      | (refine tri_ret ?_)
      | (refine tri_exit ?_)
      | (refine tri_step (id := 10) (C := ⟨[3], [17], [(13, (14, 0, 0)), (14, (15, 0, 0)), (15, (16, 0, 0)), (16, (17, 0, 0)), (18, (19, 0, 0)), (108, (35, 0, 0)), (118, (35, 0, 0)), (162, (35, 0, 0))]⟩) [7, 45, 46, 47, 48] [(35, 0, 0)] g7 nodraw ?_; refine ⟨_, by (simp [*, F11, F16, F12, F17, F22, F23, F24, F20, F25, undef, flg]; exact Is.mk), ?_⟩)
      | (refine tri_step (id := 26) (C := ⟨[3], [17], [(13, (14, 0, 0)), (14, (15, 0, 0)), (15, (16, 0, 0)), (16, (17, 0, 0)), (18, (19, 0, 0)), (108, (35, 0, 0)), (118, (35, 0, 0)), (162, (35, 0, 0))]⟩) [6] [] g7 nodraw ?_; refine ⟨_, by (simp [*, F11, F16, F12, F17, F22, F23, F24, F20, F25, undef, flg]; exact Is.mk), ?_⟩)
      | (refine tri_seq ?_)
      ))
          all_goals (refine post_plainV (P := Try.prog) (fn := Try.f7) (by simp; exact IsV.mk) rfl ?_)
          all_goals (first | (simp [F11, F16, F12, F17, F22, F23, F24, F20, F25, undef, flg]; done) | (simp [*, F11, F16, F12, F17, F22, F23, F24, F20, F25, undef, flg]; done) | (simp_all [F11, F16, F12, F17, F22, F23, F24, F20, F25, undef, flg]; done) | (simp [F11, F16, F12, F17, F22, F23, F24, F20, F25, undef, flg] <;> (repeat' split) <;> simp_all; done) | (simp [F11, F16, F12, F17, F22, F23, F24, F20, F25, undef, flg] <;> (repeat' split) <;> simp_all [Bool.and_assoc] <;> grind [List.length_eq_zero_iff, sendCells_co, recvCells_co, pieceCells_co, connCells_co, segCells_co, clockCells_co]))
        | cons x r =>
          have hlt := hl.lt
          have hget := hl.get
          have hw := hl.wi2 hp2
          have hfar := hp3 x hl.mem
          have hl2 := hl.next
          clear hl hp3 hp2
          by_cases h300 : (300 : Int) < x.data.length
          · all_goals (repeat' (first
      | (refine tri_condT (b_true (by simp; with_reducible exact IsB.mk)) ?_)
      | (refine tri_skipT ?_)
      | (refine th_r ?_)
      | (refine in_r ?_)
      | (refine tri_ret ?_)
      | (refine tri_block ?_)
      | (refine tri_step (id := 10) (C := ⟨[3], [17], [(13, (14, 0, 0)), (14, (15, 0, 0)), (15, (16, 0, 0)), (16, (17, 0, 0)), (18, (19, 0, 0)), (108, (35, 0, 0)), (118, (35, 0, 0)), (162, (35, 0, 0))]⟩) [7, 45, 46, 47, 48] [(35, 0, 0)] g7 nodraw ?_; refine ⟨_, by (simp [*, F11, F16, F12, F17, F22, F23, F24, F20, F25, undef, flg]; exact Is.mk), ?_⟩)
      | (refine tri_step (id := 11) (C := ⟨[3], [17], [(13, (14, 0, 0)), (14, (15, 0, 0)), (15, (16, 0, 0)), (16, (17, 0, 0)), (18, (19, 0, 0)), (108, (35, 0, 0)), (118, (35, 0, 0)), (162, (35, 0, 0))]⟩) [7, 10, 11, 45, 46, 47] [(12, 0, 0), (35, 0, 0)] g7 nodraw ?_; refine ⟨_, by (simp [*, F11, F16, F12, F17, F22, F23, F24, F20, F25, undef, flg]; exact Is.mk), ?_⟩)
      | (refine tri_step (id := 12) (C := ⟨[3], [17], [(13, (14, 0, 0)), (14, (15, 0, 0)), (15, (16, 0, 0)), (16, (17, 0, 0)), (18, (19, 0, 0)), (108, (35, 0, 0)), (118, (35, 0, 0)), (162, (35, 0, 0))]⟩) [7, 10, 11, 45, 46, 47, 55] [(12, 0, 0), (35, 0, 0)] g7 nodraw ?_; refine ⟨_, by (simp [*, F11, F16, F12, F17, F22, F23, F24, F20, F25, undef, flg]; exact Is.mk), ?_⟩)
      | (refine tri_step (id := 13) (C := ⟨[3], [17], [(13, (14, 0, 0)), (14, (15, 0, 0)), (15, (16, 0, 0)), (16, (17, 0, 0)), (18, (19, 0, 0)), (108, (35, 0, 0)), (118, (35, 0, 0)), (162, (35, 0, 0))]⟩) [6] [] g7 nodraw ?_; refine ⟨_, by (simp [*, F11, F16, F12, F17, F22, F23, F24, F20, F25, undef, flg]; exact Is.mk), ?_⟩)
      | (refine tri_seq ?_)
      ))
            all_goals (refine post_plainV (P := Try.prog) (fn := Try.f7) (by simp; exact IsV.mk) rfl ?_)
            all_goals (first | (simp [F11, F16, F12, F17, F22, F23, F24, F20, F25, undef, flg]; done) | (simp [*, F11, F16, F12, F17, F22, F23, F24, F20, F25, undef, flg]; done) | (simp_all [F11, F16, F12, F17, F22, F23, F24, F20, F25, undef, flg]; done) | (simp [F11, F16, F12, F17, F22, F23, F24, F20, F25, undef, flg] <;> (repeat' split) <;> simp_all; done) | (simp [F11, F16, F12, F17, F22, F23, F24, F20, F25, undef, flg] <;> (repeat' split) <;> simp_all [Bool.and_assoc] <;> grind [List.length_eq_zero_iff, sendCells_co, recvCells_co, pieceCells_co, connCells_co, segCells_co, clockCells_co]))
          · have hi0 := hok.i0
            all_goals (repeat' (first
      | (refine tri_condT (b_true (by simp; with_reducible exact IsB.mk)) ?_)
      | (refine tri_condF (b_true (by simp; with_reducible exact IsB.mk)) ?_)
      | (refine tri_skipT ?_)
      | (refine tri_block ?_)
      | (refine tri_step (id := 10) (C := ⟨[3], [17], [(13, (14, 0, 0)), (14, (15, 0, 0)), (15, (16, 0, 0)), (16, (17, 0, 0)), (18, (19, 0, 0)), (108, (35, 0, 0)), (118, (35, 0, 0)), (162, (35, 0, 0))]⟩) [7, 45, 46, 47, 48] [(35, 0, 0)] g7 nodraw ?_; refine ⟨_, by (simp [*, F11, F16, F12, F17, F22, F23, F24, F20, F25, undef, flg]; exact Is.mk), ?_⟩)
      | (refine tri_step (id := 11) (C := ⟨[3], [17], [(13, (14, 0, 0)), (14, (15, 0, 0)), (15, (16, 0, 0)), (16, (17, 0, 0)), (18, (19, 0, 0)), (108, (35, 0, 0)), (118, (35, 0, 0)), (162, (35, 0, 0))]⟩) [7, 10, 11, 45, 46, 47] [(12, 0, 0), (35, 0, 0)] g7 nodraw ?_; refine ⟨_, by (simp [*, F11, F16, F12, F17, F22, F23, F24, F20, F25, undef, flg]; exact Is.mk), ?_⟩)
      | (refine tri_step (id := 12) (C := ⟨[3], [17], [(13, (14, 0, 0)), (14, (15, 0, 0)), (15, (16, 0, 0)), (16, (17, 0, 0)), (18, (19, 0, 0)), (108, (35, 0, 0)), (118, (35, 0, 0)), (162, (35, 0, 0))]⟩) [7, 10, 11, 45, 46, 47, 55] [(12, 0, 0), (35, 0, 0)] g7 nodraw ?_; refine ⟨_, by (simp [*, F11, F16, F12, F17, F22, F23, F24, F20, F25, undef, flg]; exact Is.mk), ?_⟩)
      | (refine tri_step (id := 14) (C := ⟨[3], [17], [(13, (14, 0, 0)), (14, (15, 0, 0)), (15, (16, 0, 0)), (16, (17, 0, 0)), (18, (19, 0, 0)), (108, (35, 0, 0)), (118, (35, 0, 0)), (162, (35, 0, 0))]⟩) [7, 11, 12, 45, 46, 47] [(12, 0, 0), (35, 0, 0)] g7 nodraw ?_; refine ⟨_, by (simp [*, F11, F16, F12, F17, F22, F23, F24, F20, F25, undef, flg]; exact Is.mk), ?_⟩)
      | (refine tri_seq ?_)
      ))
            rcases tmod_two i with hpar | hpar
            · have hC := hok.c0
              have hso := farSeg_ok t.c0 hfar h300
              have hh := hearPre_of (farSeg t.c0 x) hso.d0 hok.c0
              rw [hpar]
              all_goals (repeat' (first
      | (refine tri_condF (b_true (by simp; with_reducible exact IsB.mk)) ?_)
      | (refine tri_skipT ?_)
      | (refine tri_last (id := 15) (C := ⟨[3], [17], [(13, (14, 0, 0)), (14, (15, 0, 0)), (15, (16, 0, 0)), (16, (17, 0, 0)), (18, (19, 0, 0)), (108, (35, 0, 0)), (118, (35, 0, 0)), (162, (35, 0, 0))]⟩) [7, 11, 12, 45, 46, 47, 64] [(12, 0, 0), (35, 0, 0)] g7 nodraw ?_; refine ⟨_, by (simp [*, F11, F16, F12, F17, F22, F23, F24, F20, F25, undef, flg]; exact Is.mk), ?_⟩)
      | (refine tri_step (id := 17) (C := ⟨[3], [17], [(13, (14, 0, 0)), (14, (15, 0, 0)), (15, (16, 0, 0)), (16, (17, 0, 0)), (18, (19, 0, 0)), (108, (35, 0, 0)), (118, (35, 0, 0)), (162, (35, 0, 0))]⟩) [7, 11, 12, 13, 45, 46, 47] [(12, 0, 0), (14, 0, 0), (35, 0, 0)] g7 nodraw ?_; refine ⟨_, by (simp [*, F11, F16, F12, F17, F22, F23, F24, F20, F25, undef, flg]; exact Is.mk), ?_⟩)
      | (refine tri_step (id := 18) (C := ⟨[3], [17], [(13, (14, 0, 0)), (14, (15, 0, 0)), (15, (16, 0, 0)), (16, (17, 0, 0)), (18, (19, 0, 0)), (108, (35, 0, 0)), (118, (35, 0, 0)), (162, (35, 0, 0))]⟩) [7, 12, 13, 14, 45, 46, 47] [(14, 0, 0), (15, 0, 0), (35, 0, 0)] g7 nodraw ?_; refine ⟨_, by (simp [*, F11, F16, F12, F17, F22, F23, F24, F20, F25, undef, flg]; exact Is.mk), ?_⟩)
      | (refine tri_seq ?_)
      ))
              obtain ⟨S, hS⟩ : ∃ S : Seg, S = farSeg t.c0 x := ⟨_, rfl⟩
              refine tri_weak (le_eq (Le.refl _) (show _ = mkSt [(7, .ptr (35,0,0) 0), (12, .v (.int .i64 0)), (13, .ptr (14,0,0) 0), (14, .ptr (15,0,0) 0), (45, .sl 6 (encS farCells far) none), (46, .v (.int .i64 far.length)), (47, .v (.int .i64 i))] [((14,0,0), connCells t.c0), ((15,0,0), segCells S), ((35,0,0), talkCells t)] by rw [hS]; rfl)) ?_
              rw [← hS] at hso hh
              clear hS
              have hcs : t.c0.sm := hC.sm
              have hhear := hear_ok hso hok.t0 (now_le (by omega) hok) hC
              have hsm2 : (hear t.c0 S t.now).conn.sm := hhear.c.sm
              have hsm3 : (hear t.c0 S t.now).conn.recv.sm := hsm2.r
              have hrt : connRight (hear t.c0 S t.now).conn = true := connRight_of hhear.c
              have h3 := out_300 hhear.out (by omega)
              all_goals (repeat' (first
      | (refine tri_condF (b_true (by simp; with_reducible exact IsB.mk)) ?_)
      | (refine tri_skipT ?_)
      | (refine th_n ?_)
      | (refine in_n ?_)
      | (refine tri_last (id := 19) (C := ⟨[3], [17], [(13, (14, 0, 0)), (14, (15, 0, 0)), (15, (16, 0, 0)), (16, (17, 0, 0)), (18, (19, 0, 0)), (108, (35, 0, 0)), (118, (35, 0, 0)), (162, (35, 0, 0))]⟩) [7, 12, 13, 14, 15, 45, 46, 47] [(14, 0, 0), (15, 0, 0), (16, 0, 0), (35, 0, 0)] g7 nodraw ?_; refine ⟨_, by (simp [*, F11, F16, F12, F17, F22, F23, F24, F20, F25, undef, flg]; exact Is.mk), ?_⟩)
      | (refine tri_step (id := 20) (C := ⟨[3], [17], [(13, (14, 0, 0)), (14, (15, 0, 0)), (15, (16, 0, 0)), (16, (17, 0, 0)), (18, (19, 0, 0)), (108, (35, 0, 0)), (118, (35, 0, 0)), (162, (35, 0, 0))]⟩) [7, 12, 13, 14, 15, 16, 17, 45, 46, 47] [(14, 0, 0), (15, 0, 0), (16, 0, 0), (17, 0, 0), (35, 0, 0)] g7 (fun _ => ⟨q_mixed, by kernel_rfl⟩) ?_; refine ⟨_, by (simp [*, F11, F16, F12, F17, F22, F23, F24, F20, F25, undef, flg]; exact Is.mk), ?_⟩)
      | (refine tri_step (id := 21) (C := ⟨[3], [17], [(13, (14, 0, 0)), (14, (15, 0, 0)), (15, (16, 0, 0)), (16, (17, 0, 0)), (18, (19, 0, 0)), (108, (35, 0, 0)), (118, (35, 0, 0)), (162, (35, 0, 0))]⟩) [7, 12, 13, 15, 16, 17, 18, 19, 45, 46, 47] [(14, 0, 0), (16, 0, 0), (17, 0, 0), (19, 0, 0), (35, 0, 0)] g7 (fun _ => ⟨q_mixed, by kernel_rfl⟩) ?_; refine ⟨_, by (simp [*, F11, F16, F12, F17, F22, F23, F24, F20, F25, undef, flg]; exact Is.mk), ?_⟩)
      | (refine tri_step (id := 22) (C := ⟨[3], [17], [(13, (14, 0, 0)), (14, (15, 0, 0)), (15, (16, 0, 0)), (16, (17, 0, 0)), (18, (19, 0, 0)), (108, (35, 0, 0)), (118, (35, 0, 0)), (162, (35, 0, 0))]⟩) [7, 12, 16, 45, 46, 47, 156] [(17, 0, 0), (35, 0, 0)] g7 (fun _ => ⟨q_mixed, by kernel_rfl⟩) ?_; refine ⟨_, by (simp [*, F11, F16, F12, F17, F22, F23, F24, F20, F25, undef, flg]; exact Is.mk), ?_⟩)
      | (refine tri_last (id := 24) (C := ⟨[3], [17], [(13, (14, 0, 0)), (14, (15, 0, 0)), (15, (16, 0, 0)), (16, (17, 0, 0)), (18, (19, 0, 0)), (108, (35, 0, 0)), (118, (35, 0, 0)), (162, (35, 0, 0))]⟩) [7, 45, 46, 47] [(35, 0, 0)] g7 (fun _ => ⟨q_mixed, by kernel_rfl⟩) ?_; refine ⟨_, by (simp [*, F11, F16, F12, F17, F22, F23, F24, F20, F25, undef, flg]; exact Is.mk), ?_⟩)
      | (refine tri_last (id := 25) (C := ⟨[3], [17], [(13, (14, 0, 0)), (14, (15, 0, 0)), (15, (16, 0, 0)), (16, (17, 0, 0)), (18, (19, 0, 0)), (108, (35, 0, 0)), (118, (35, 0, 0)), (162, (35, 0, 0))]⟩) [7, 45, 46, 47] [(35, 0, 0)] g7 nodraw ?_; refine ⟨_, by (simp [*, F11, F16, F12, F17, F22, F23, F24, F20, F25, undef, flg]; exact Is.mk), ?_⟩)
      | (refine tri_seq ?_)
      ))
              have hfin := hok.put0 hhear.c
              simp only [hi0] at hfin
              refine ⟨r.length, _, by simp [hn], Le.refl _, i + 1, d ++ [x], r, { t with c0 := (hear t.c0 S t.now).conn, is0 := true }, hl2, rfl, hfin, rfl⟩
            · rw [hpar]
              cases hi1 : t.is1 with
              | true =>
                have hC := hok.c1 hi1
                have hso := farSeg_ok t.c1 hfar h300
                have hh := hearPre_of (farSeg t.c1 x) hso.d0 (hok.c1 hi1)
                all_goals (repeat' (first
      | (refine tri_condF (b_true (by simp; with_reducible exact IsB.mk)) ?_)
      | (refine tri_skipT ?_)
      | (refine tri_last (id := 15) (C := ⟨[3], [17], [(13, (14, 0, 0)), (14, (15, 0, 0)), (15, (16, 0, 0)), (16, (17, 0, 0)), (18, (19, 0, 0)), (108, (35, 0, 0)), (118, (35, 0, 0)), (162, (35, 0, 0))]⟩) [7, 11, 12, 45, 46, 47, 64] [(12, 0, 0), (35, 0, 0)] g7 nodraw ?_; refine ⟨_, by (simp [*, F11, F16, F12, F17, F22, F23, F24, F20, F25, undef, flg]; exact Is.mk), ?_⟩)
      | (refine tri_step (id := 17) (C := ⟨[3], [17], [(13, (14, 0, 0)), (14, (15, 0, 0)), (15, (16, 0, 0)), (16, (17, 0, 0)), (18, (19, 0, 0)), (108, (35, 0, 0)), (118, (35, 0, 0)), (162, (35, 0, 0))]⟩) [7, 11, 12, 13, 45, 46, 47] [(12, 0, 0), (14, 0, 0), (35, 0, 0)] g7 nodraw ?_; refine ⟨_, by (simp [*, F11, F16, F12, F17, F22, F23, F24, F20, F25, undef, flg]; exact Is.mk), ?_⟩)
      | (refine tri_step (id := 18) (C := ⟨[3], [17], [(13, (14, 0, 0)), (14, (15, 0, 0)), (15, (16, 0, 0)), (16, (17, 0, 0)), (18, (19, 0, 0)), (108, (35, 0, 0)), (118, (35, 0, 0)), (162, (35, 0, 0))]⟩) [7, 12, 13, 14, 45, 46, 47] [(14, 0, 0), (15, 0, 0), (35, 0, 0)] g7 nodraw ?_; refine ⟨_, by (simp [*, F11, F16, F12, F17, F22, F23, F24, F20, F25, undef, flg]; exact Is.mk), ?_⟩)
      | (refine tri_seq ?_)
      ))
                obtain ⟨S, hS⟩ : ∃ S : Seg, S = farSeg t.c1 x := ⟨_, rfl⟩
                refine tri_weak (le_eq (Le.refl _) (show _ = mkSt [(7, .ptr (35,0,0) 0), (12, .v (.int .i64 1)), (13, .ptr (14,0,0) 0), (14, .ptr (15,0,0) 0), (45, .sl 6 (encS farCells far) none), (46, .v (.int .i64 far.length)), (47, .v (.int .i64 i))] [((14,0,0), connCells t.c1), ((15,0,0), segCells S), ((35,0,0), talkCells t)] by rw [hS]; rfl)) ?_
                rw [← hS] at hso hh
                clear hS
                have hcs : t.c1.sm := hC.sm
                have hhear := hear_ok hso hok.t0 (now_le (by omega) hok) hC
                have hsm2 : (hear t.c1 S t.now).conn.sm := hhear.c.sm
                have hsm3 : (hear t.c1 S t.now).conn.recv.sm := hsm2.r
                have hrt : connRight (hear t.c1 S t.now).conn = true := connRight_of hhear.c
                have h3 := out_300 hhear.out (by omega)
                all_goals (repeat' (first
      | (refine tri_condF (b_true (by simp; with_reducible exact IsB.mk)) ?_)
      | (refine tri_skipT ?_)
      | (refine th_n ?_)
      | (refine in_n ?_)
      | (refine tri_last (id := 19) (C := ⟨[3], [17], [(13, (14, 0, 0)), (14, (15, 0, 0)), (15, (16, 0, 0)), (16, (17, 0, 0)), (18, (19, 0, 0)), (108, (35, 0, 0)), (118, (35, 0, 0)), (162, (35, 0, 0))]⟩) [7, 12, 13, 14, 15, 45, 46, 47] [(14, 0, 0), (15, 0, 0), (16, 0, 0), (35, 0, 0)] g7 nodraw ?_; refine ⟨_, by (simp [*, F11, F16, F12, F17, F22, F23, F24, F20, F25, undef, flg]; exact Is.mk), ?_⟩)
      | (refine tri_step (id := 20) (C := ⟨[3], [17], [(13, (14, 0, 0)), (14, (15, 0, 0)), (15, (16, 0, 0)), (16, (17, 0, 0)), (18, (19, 0, 0)), (108, (35, 0, 0)), (118, (35, 0, 0)), (162, (35, 0, 0))]⟩) [7, 12, 13, 14, 15, 16, 17, 45, 46, 47] [(14, 0, 0), (15, 0, 0), (16, 0, 0), (17, 0, 0), (35, 0, 0)] g7 (fun _ => ⟨q_mixed, by kernel_rfl⟩) ?_; refine ⟨_, by (simp [*, F11, F16, F12, F17, F22, F23, F24, F20, F25, undef, flg]; exact Is.mk), ?_⟩)
      | (refine tri_step (id := 21) (C := ⟨[3], [17], [(13, (14, 0, 0)), (14, (15, 0, 0)), (15, (16, 0, 0)), (16, (17, 0, 0)), (18, (19, 0, 0)), (108, (35, 0, 0)), (118, (35, 0, 0)), (162, (35, 0, 0))]⟩) [7, 12, 13, 15, 16, 17, 18, 19, 45, 46, 47] [(14, 0, 0), (16, 0, 0), (17, 0, 0), (19, 0, 0), (35, 0, 0)] g7 (fun _ => ⟨q_mixed, by kernel_rfl⟩) ?_; refine ⟨_, by (simp [*, F11, F16, F12, F17, F22, F23, F24, F20, F25, undef, flg]; exact Is.mk), ?_⟩)
      | (refine tri_step (id := 22) (C := ⟨[3], [17], [(13, (14, 0, 0)), (14, (15, 0, 0)), (15, (16, 0, 0)), (16, (17, 0, 0)), (18, (19, 0, 0)), (108, (35, 0, 0)), (118, (35, 0, 0)), (162, (35, 0, 0))]⟩) [7, 12, 16, 45, 46, 47, 156] [(17, 0, 0), (35, 0, 0)] g7 (fun _ => ⟨q_mixed, by kernel_rfl⟩) ?_; refine ⟨_, by (simp [*, F11, F16, F12, F17, F22, F23, F24, F20, F25, undef, flg]; exact Is.mk), ?_⟩)
      | (refine tri_last (id := 24) (C := ⟨[3], [17], [(13, (14, 0, 0)), (14, (15, 0, 0)), (15, (16, 0, 0)), (16, (17, 0, 0)), (18, (19, 0, 0)), (108, (35, 0, 0)), (118, (35, 0, 0)), (162, (35, 0, 0))]⟩) [7, 45, 46, 47] [(35, 0, 0)] g7 (fun _ => ⟨q_mixed, by kernel_rfl⟩) ?_; refine ⟨_, by (simp [*, F11, F16, F12, F17, F22, F23, F24, F20, F25, undef, flg]; exact Is.mk), ?_⟩)
      | (refine tri_last (id := 25) (C := ⟨[3], [17], [(13, (14, 0, 0)), (14, (15, 0, 0)), (15, (16, 0, 0)), (16, (17, 0, 0)), (18, (19, 0, 0)), (108, (35, 0, 0)), (118, (35, 0, 0)), (162, (35, 0, 0))]⟩) [7, 45, 46, 47] [(35, 0, 0)] g7 nodraw ?_; refine ⟨_, by (simp [*, F11, F16, F12, F17, F22, F23, F24, F20, F25, undef, flg]; exact Is.mk), ?_⟩)
      | (refine tri_seq ?_)
      ))
                have hfin := hok.put1 hi1 hhear.c
                simp only [hi0, hi1] at hfin
                refine ⟨r.length, _, by simp [hn], Le.refl _, i + 1, d ++ [x], r, { t with c1 := (hear t.c1 S t.now).conn, is0 := true, is1 := true }, hl2, rfl, hfin, rfl⟩
              | false =>
                have hC := hok.c0
                have hso := farSeg_ok t.c0 hfar h300
                have hh := hearPre_of (farSeg t.c0 x) hso.d0 hok.c0
                all_goals (repeat' (first
      | (refine tri_condT (b_true (by simp; with_reducible exact IsB.mk)) ?_)
      | (refine th_n ?_)
      | (refine tri_last (id := 15) (C := ⟨[3], [17], [(13, (14, 0, 0)), (14, (15, 0, 0)), (15, (16, 0, 0)), (16, (17, 0, 0)), (18, (19, 0, 0)), (108, (35, 0, 0)), (118, (35, 0, 0)), (162, (35, 0, 0))]⟩) [7, 11, 12, 45, 46, 47, 64] [(12, 0, 0), (35, 0, 0)] g7 nodraw ?_; refine ⟨_, by (simp [*, F11, F16, F12, F17, F22, F23, F24, F20, F25, undef, flg]; exact Is.mk), ?_⟩)
      | (refine tri_last (id := 16) (C := ⟨[3], [17], [(13, (14, 0, 0)), (14, (15, 0, 0)), (15, (16, 0, 0)), (16, (17, 0, 0)), (18, (19, 0, 0)), (108, (35, 0, 0)), (118, (35, 0, 0)), (162, (35, 0, 0))]⟩) [7, 11, 12, 45, 46, 47] [(12, 0, 0), (35, 0, 0)] g7 nodraw ?_; refine ⟨_, by (simp [*, F11, F16, F12, F17, F22, F23, F24, F20, F25, undef, flg]; exact Is.mk), ?_⟩)
      | (refine tri_step (id := 17) (C := ⟨[3], [17], [(13, (14, 0, 0)), (14, (15, 0, 0)), (15, (16, 0, 0)), (16, (17, 0, 0)), (18, (19, 0, 0)), (108, (35, 0, 0)), (118, (35, 0, 0)), (162, (35, 0, 0))]⟩) [7, 11, 12, 13, 45, 46, 47] [(12, 0, 0), (14, 0, 0), (35, 0, 0)] g7 nodraw ?_; refine ⟨_, by (simp [*, F11, F16, F12, F17, F22, F23, F24, F20, F25, undef, flg]; exact Is.mk), ?_⟩)
      | (refine tri_step (id := 18) (C := ⟨[3], [17], [(13, (14, 0, 0)), (14, (15, 0, 0)), (15, (16, 0, 0)), (16, (17, 0, 0)), (18, (19, 0, 0)), (108, (35, 0, 0)), (118, (35, 0, 0)), (162, (35, 0, 0))]⟩) [7, 12, 13, 14, 45, 46, 47] [(14, 0, 0), (15, 0, 0), (35, 0, 0)] g7 nodraw ?_; refine ⟨_, by (simp [*, F11, F16, F12, F17, F22, F23, F24, F20, F25, undef, flg]; exact Is.mk), ?_⟩)
      | (refine tri_seq ?_)
      ))
                obtain ⟨S, hS⟩ : ∃ S : Seg, S = farSeg t.c0 x := ⟨_, rfl⟩
                refine tri_weak (le_eq (Le.refl _) (show _ = mkSt [(7, .ptr (35,0,0) 0), (12, .v (.int .i64 0)), (13, .ptr (14,0,0) 0), (14, .ptr (15,0,0) 0), (45, .sl 6 (encS farCells far) none), (46, .v (.int .i64 far.length)), (47, .v (.int .i64 i))] [((14,0,0), connCells t.c0), ((15,0,0), segCells S), ((35,0,0), talkCells t)] by rw [hS]; rfl)) ?_
                rw [← hS] at hso hh
                clear hS
                have hcs : t.c0.sm := hC.sm
                have hhear := hear_ok hso hok.t0 (now_le (by omega) hok) hC
                have hsm2 : (hear t.c0 S t.now).conn.sm := hhear.c.sm
                have hsm3 : (hear t.c0 S t.now).conn.recv.sm := hsm2.r
                have hrt : connRight (hear t.c0 S t.now).conn = true := connRight_of hhear.c
                have h3 := out_300 hhear.out (by omega)
                all_goals (repeat' (first
      | (refine tri_condF (b_true (by simp; with_reducible exact IsB.mk)) ?_)
      | (refine tri_skipT ?_)
      | (refine th_n ?_)
      | (refine in_n ?_)
      | (refine tri_last (id := 19) (C := ⟨[3], [17], [(13, (14, 0, 0)), (14, (15, 0, 0)), (15, (16, 0, 0)), (16, (17, 0, 0)), (18, (19, 0, 0)), (108, (35, 0, 0)), (118, (35, 0, 0)), (162, (35, 0, 0))]⟩) [7, 12, 13, 14, 15, 45, 46, 47] [(14, 0, 0), (15, 0, 0), (16, 0, 0), (35, 0, 0)] g7 nodraw ?_; refine ⟨_, by (simp [*, F11, F16, F12, F17, F22, F23, F24, F20, F25, undef, flg]; exact Is.mk), ?_⟩)
      | (refine tri_step (id := 20) (C := ⟨[3], [17], [(13, (14, 0, 0)), (14, (15, 0, 0)), (15, (16, 0, 0)), (16, (17, 0, 0)), (18, (19, 0, 0)), (108, (35, 0, 0)), (118, (35, 0, 0)), (162, (35, 0, 0))]⟩) [7, 12, 13, 14, 15, 16, 17, 45, 46, 47] [(14, 0, 0), (15, 0, 0), (16, 0, 0), (17, 0, 0), (35, 0, 0)] g7 (fun _ => ⟨q_mixed, by kernel_rfl⟩) ?_; refine ⟨_, by (simp [*, F11, F16, F12, F17, F22, F23, F24, F20, F25, undef, flg]; exact Is.mk), ?_⟩)
      | (refine tri_step (id := 21) (C := ⟨[3], [17], [(13, (14, 0, 0)), (14, (15, 0, 0)), (15, (16, 0, 0)), (16, (17, 0, 0)), (18, (19, 0, 0)), (108, (35, 0, 0)), (118, (35, 0, 0)), (162, (35, 0, 0))]⟩) [7, 12, 13, 15, 16, 17, 18, 19, 45, 46, 47] [(14, 0, 0), (16, 0, 0), (17, 0, 0), (19, 0, 0), (35, 0, 0)] g7 (fun _ => ⟨q_mixed, by kernel_rfl⟩) ?_; refine ⟨_, by (simp [*, F11, F16, F12, F17, F22, F23, F24, F20, F25, undef, flg]; exact Is.mk), ?_⟩)
      | (refine tri_step (id := 22) (C := ⟨[3], [17], [(13, (14, 0, 0)), (14, (15, 0, 0)), (15, (16, 0, 0)), (16, (17, 0, 0)), (18, (19, 0, 0)), (108, (35, 0, 0)), (118, (35, 0, 0)), (162, (35, 0, 0))]⟩) [7, 12, 16, 45, 46, 47, 156] [(17, 0, 0), (35, 0, 0)] g7 (fun _ => ⟨q_mixed, by kernel_rfl⟩) ?_; refine ⟨_, by (simp [*, F11, F16, F12, F17, F22, F23, F24, F20, F25, undef, flg]; exact Is.mk), ?_⟩)
      | (refine tri_last (id := 24) (C := ⟨[3], [17], [(13, (14, 0, 0)), (14, (15, 0, 0)), (15, (16, 0, 0)), (16, (17, 0, 0)), (18, (19, 0, 0)), (108, (35, 0, 0)), (118, (35, 0, 0)), (162, (35, 0, 0))]⟩) [7, 45, 46, 47] [(35, 0, 0)] g7 (fun _ => ⟨q_mixed, by kernel_rfl⟩) ?_; refine ⟨_, by (simp [*, F11, F16, F12, F17, F22, F23, F24, F20, F25, undef, flg]; exact Is.mk), ?_⟩)
      | (refine tri_last (id := 25) (C := ⟨[3], [17], [(13, (14, 0, 0)), (14, (15, 0, 0)), (15, (16, 0, 0)), (16, (17, 0, 0)), (18, (19, 0, 0)), (108, (35, 0, 0)), (118, (35, 0, 0)), (162, (35, 0, 0))]⟩) [7, 45, 46, 47] [(35, 0, 0)] g7 nodraw ?_; refine ⟨_, by (simp [*, F11, F16, F12, F17, F22, F23, F24, F20, F25, undef, flg]; exact Is.mk), ?_⟩)
      | (refine tri_seq ?_)
      ))
                have hfin := hok.put0 hhear.c
                simp only [hi0, hi1] at hfin
                refine ⟨r.length, _, by simp [hn], Le.refl _, i + 1, d ++ [x], r, { t with c0 := (hear t.c0 S t.now).conn, is0 := true, is1 := false }, hl2, rfl, hfin, rfl⟩
  · refine specAt_of_tri Try.func7 rfl (Nat.le_of_ble_eq_true rfl) ?_
    all_goals (repeat' (first
      | (refine tri_condT (b_true (by simp; with_reducible exact IsB.mk)) ?_)
      | (refine th_r ?_)
      | (refine tri_ret ?_)
      | (refine tri_step (id := 0) (C := ⟨[3], [17], [(13, (14, 0, 0)), (14, (15, 0, 0)), (15, (16, 0, 0)), (16, (17, 0, 0)), (18, (19, 0, 0)), (108, (35, 0, 0)), (118, (35, 0, 0)), (162, (35, 0, 0))]⟩) [1, 2, 3] [] g7 nodraw ?_; refine ⟨_, by (simp [*, F11, F16, F12, F17, F22, F23, F24, F20, F25, undef, flg]; exact Is.mk), ?_⟩)
      | (refine tri_step (id := 1) (C := ⟨[3], [17], [(13, (14, 0, 0)), (14, (15, 0, 0)), (15, (16, 0, 0)), (16, (17, 0, 0)), (18, (19, 0, 0)), (108, (35, 0, 0)), (118, (35, 0, 0)), (162, (35, 0, 0))]⟩) [1, 2, 3, 31] [] g7 nodraw ?_; refine ⟨_, by (simp [*, F11, F16, F12, F17, F22, F23, F24, F20, F25, undef, flg]; exact Is.mk), ?_⟩)
      | (refine tri_step (id := 2) (C := ⟨[3], [17], [(13, (14, 0, 0)), (14, (15, 0, 0)), (15, (16, 0, 0)), (16, (17, 0, 0)), (18, (19, 0, 0)), (108, (35, 0, 0)), (118, (35, 0, 0)), (162, (35, 0, 0))]⟩) [6] [] g7 nodraw ?_; refine ⟨_, by (simp [*, F11, F16, F12, F17, F22, F23, F24, F20, F25, undef, flg]; exact Is.mk), ?_⟩)
      | (refine tri_seq ?_)
      ))
    all_goals (refine post_plainV (P := Try.prog) (fn := Try.f7) (by simp; exact IsV.mk) rfl ?_)
    all_goals (first | (simp [F11, F16, F12, F17, F22, F23, F24, F20, F25, undef, flg]; done) | (simp [*, F11, F16, F12, F17, F22, F23, F24, F20, F25, undef, flg]; done) | (simp_all [F11, F16, F12, F17, F22, F23, F24, F20, F25, undef, flg]; done) | (simp [F11, F16, F12, F17, F22, F23, F24, F20, F25, undef, flg] <;> (repeat' split) <;> simp_all; done) | (simp [F11, F16, F12, F17, F22, F23, F24, F20, F25, undef, flg] <;> (repeat' split) <;> simp_all [Bool.and_assoc] <;> grind [List.length_eq_zero_iff, sendCells_co, recvCells_co, pieceCells_co, connCells_co, segCells_co, clockCells_co]))
open Classical in
noncomputable def F7 : Fn1
  | [x0, x1, x2] => (whole pTwo x0).bind fun first => (decS 5 pStp stpCells x1).bind fun l => (decS 6 pFar farCells x2).bind fun far => if l.length ≤ 9223372036854775807 ∧ far.length ≤ 9223372036854775807 ∧ ∀ x ∈ far, FarOk x then some ((.v (.bool true)), none) else none
  | _ => none
theorem spec7 : Spec1 Try.prog 7 F7 := spec_of fun ys r o h => by
  unfold F7 at h
  split at h
  case h_2 => cases h
  obtain ⟨first, k0, h1⟩ := bind_some h
  obtain ⟨l, k1, h2⟩ := bind_some h1
  obtain ⟨far, k2, h3⟩ := bind_some h2
  obtain ⟨hpre, hz⟩ := ite_some h3
  cases hz
  exact ⟨_, at7 first l far hpre, rfl, le_plain ⟨whole_co pTwo_snd k0, ⟨decS_coA k1, ⟨decS_coA k2, trivial⟩⟩⟩ (by simp only [List.all_cons, List.all_nil, Bool.not_false, Bool.and_self, notRefB (whole_co pTwo_snd k0) rfl (by simp), notRefB (decS_coA k1) rfl (by simp), notRefB (decS_coA k2) rfl (by simp)]) rfl⟩
theorem en7 : Enters Try.prog 7 := enters_of Try.func7 (by kernel_rfl) (by kernel_rfl)

end Go.Proofs.Ytkjodjaamjnejaa

