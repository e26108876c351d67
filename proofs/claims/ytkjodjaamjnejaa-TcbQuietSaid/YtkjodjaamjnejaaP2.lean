import Derived.Test.YtkjodjaamjnejaaP1
set_option linter.all false
-- Printed by genwalk.py.
namespace Go.Proofs.Ytkjodjaamjnejaa
open Go Go.RowKit Caw
set_option linter.unusedSimpArgs false
set_option linter.unusedVariables false
set_option maxRecDepth 100000

-- caravel/sendq.Next
theorem g80 : GOk1 Try.prog (ctxOf [(40, F40), (69, F69), (54, F54)]) := gok_cons spec40 en40 (gok_cons spec69 en69 (gok_cons spec54 en54 (gok_nil)))
set_option maxHeartbeats 400000 in
theorem at80 (q : Caw.Send) (w : Int) (m : Int) (hpre : q.sm) : SpecAt Try.prog 80 [.agg (sendCells q), .v (.int .i64 w), .v (.int .i64 m)] (.tup [.agg (sendCells (sendNext q w m).1), .agg (pieceCells (sendNext q w m).2.1), .v (.bool (sendNext q w m).2.2.1), .v (.bool (sendNext q w m).2.2.2)]) none := by
  have h1 : Sm q.data := by unfold Sm; have := hpre.2.2; omega
  obtain ⟨h2, h3, h4, h5⟩ := next_facts q w m hpre
  all_goals refine specAt_of_tri Try.func80 rfl (Nat.le_of_ble_eq_true rfl) ?_
  all_goals (repeat' (first
    | (refine tri_skipT ?_)
    | (refine th_r ?_)
    | (refine tri_ret ?_)
    | (refine tri_step (id := 0) (C := ⟨[3], [], [(6, (7, 0, 0)), (7, (8, 0, 0)), (10, (11, 0, 0)), (13, (14, 0, 0)), (55, (4, 0, 0)), (57, (4, 0, 0)), (60, (4, 0, 0)), (62, (4, 0, 0)), (64, (4, 0, 0))]⟩) [1, 2, 3, 6, 7] [(7, 0, 0), (8, 0, 0)] g80 nodraw ?_; refine ⟨_, by (simp [*, F40, F69, F54, nextN_fold, flg]; exact Is.mk), ?_⟩)
    | (refine tri_step (id := 1) (C := ⟨[3], [], [(6, (7, 0, 0)), (7, (8, 0, 0)), (10, (11, 0, 0)), (13, (14, 0, 0)), (55, (4, 0, 0)), (57, (4, 0, 0)), (60, (4, 0, 0)), (62, (4, 0, 0)), (64, (4, 0, 0))]⟩) [1, 2, 3, 6, 7, 10] [(7, 0, 0), (8, 0, 0), (11, 0, 0)] g80 nodraw ?_; refine ⟨_, by (simp [*, F40, F69, F54, nextN_fold, flg]; exact Is.mk), ?_⟩)
    | (refine tri_step (id := 2) (C := ⟨[3], [], [(6, (7, 0, 0)), (7, (8, 0, 0)), (10, (11, 0, 0)), (13, (14, 0, 0)), (55, (4, 0, 0)), (57, (4, 0, 0)), (60, (4, 0, 0)), (62, (4, 0, 0)), (64, (4, 0, 0))]⟩) [3, 6, 7, 10, 11] [(7, 0, 0), (8, 0, 0), (11, 0, 0)] g80 nodraw ?_; refine ⟨_, by (simp [*, F40, F69, F54, nextN_fold, flg]; exact Is.mk), ?_⟩)
    | (refine tri_stepG (id := 3) (C := ⟨[3], [], [(6, (7, 0, 0)), (7, (8, 0, 0)), (10, (11, 0, 0)), (13, (14, 0, 0)), (55, (4, 0, 0)), (57, (4, 0, 0)), (60, (4, 0, 0)), (62, (4, 0, 0)), (64, (4, 0, 0))]⟩) [3, 6, 7, 10, 11, 12] [(7, 0, 0), (8, 0, 0), (11, 0, 0)] g80 nodraw ?_; refine ⟨_, (run_split 0 3 32 (by simp [*, F40, F69, F54, nextN_fold, flg]; exact Is.mk) (by simp; exact IsB.mk) (run_split 3 5 37 (by simp [*, F40, F69, F54, nextN_fold, flg]; exact Is.mk) (by simp; exact IsB.mk) (by simp [*, F40, F69, F54, nextN_fold, flg]; exact IsK.mk) (by simp [*, F40, F69, F54, nextN_fold, flg]; exact IsK.mk) (by simp; exact IsK.mk)) (run_split 3 5 37 (by simp [*, F40, F69, F54, nextN_fold, flg]; exact Is.mk) (by simp; exact IsB.mk) (by simp [*, F40, F69, F54, nextN_fold, flg]; exact IsK.mk) (by simp [*, F40, F69, F54, nextN_fold, flg]; exact IsK.mk) (by simp; exact IsK.mk)) (by simp; exact IsK.mk)), ?_⟩)
    | (refine tri_stepG (id := 4) (C := ⟨[3], [], [(6, (7, 0, 0)), (7, (8, 0, 0)), (10, (11, 0, 0)), (13, (14, 0, 0)), (55, (4, 0, 0)), (57, (4, 0, 0)), (60, (4, 0, 0)), (62, (4, 0, 0)), (64, (4, 0, 0))]⟩) [3, 6, 7, 10, 11, 12, 52] [(7, 0, 0), (8, 0, 0), (11, 0, 0)] g80 nodraw ?_; refine ⟨_, (run_split 0 3 49 (by simp [*, F40, F69, F54, nextN_fold, flg]; exact Is.mk) (by simp; exact IsB.mk) (by simp [*, F40, F69, F54, nextN_fold, flg]; exact IsK.mk) (by simp [*, F40, F69, F54, nextN_fold, flg]; exact IsK.mk) (by simp; exact IsK.mk)), ?_⟩)
    | (refine tri_step (id := 5) (C := ⟨[3], [], [(6, (7, 0, 0)), (7, (8, 0, 0)), (10, (11, 0, 0)), (13, (14, 0, 0)), (55, (4, 0, 0)), (57, (4, 0, 0)), (60, (4, 0, 0)), (62, (4, 0, 0)), (64, (4, 0, 0))]⟩) [6, 7, 8, 9] [(7, 0, 0), (8, 0, 0)] g80 nodraw ?_; refine ⟨_, by (simp [*, F40, F69, F54, nextN_fold, flg]; exact Is.mk), ?_⟩)
    | (refine tri_step (id := 6) (C := ⟨[3], [], [(6, (7, 0, 0)), (7, (8, 0, 0)), (10, (11, 0, 0)), (13, (14, 0, 0)), (55, (4, 0, 0)), (57, (4, 0, 0)), (60, (4, 0, 0)), (62, (4, 0, 0)), (64, (4, 0, 0))]⟩) [3, 6, 7, 10, 11, 12, 13] [(7, 0, 0), (8, 0, 0), (11, 0, 0), (14, 0, 0)] g80 (fun _ => ⟨q_mixed, by kernel_rfl⟩) ?_; refine ⟨_, by (simp [*, F40, F69, F54, nextN_fold, flg]; exact Is.mk), ?_⟩)
    | (refine tri_step (id := 7) (C := ⟨[3], [], [(6, (7, 0, 0)), (7, (8, 0, 0)), (10, (11, 0, 0)), (13, (14, 0, 0)), (55, (4, 0, 0)), (57, (4, 0, 0)), (60, (4, 0, 0)), (62, (4, 0, 0)), (64, (4, 0, 0))]⟩) [3, 6, 7, 10, 12, 13] [(7, 0, 0), (8, 0, 0), (11, 0, 0), (14, 0, 0)] g80 nodraw ?_; refine ⟨_, by (simp [*, F40, F69, F54, nextN_fold, flg]; exact Is.mk), ?_⟩)
    | (refine tri_stepG (id := 8) (C := ⟨[3], [], [(6, (7, 0, 0)), (7, (8, 0, 0)), (10, (11, 0, 0)), (13, (14, 0, 0)), (55, (4, 0, 0)), (57, (4, 0, 0)), (60, (4, 0, 0)), (62, (4, 0, 0)), (64, (4, 0, 0))]⟩) [6, 7, 10, 12, 13] [(7, 0, 0), (8, 0, 0), (11, 0, 0), (14, 0, 0)] g80 nodraw ?_; refine ⟨_, (run_split 0 3 78 (by simp [*, F40, F69, F54, nextN_fold, flg]; exact Is.mk) (by simp; exact IsB.mk) (by simp [*, F40, F69, F54, nextN_fold, flg]; exact IsK.mk) (by simp [*, F40, F69, F54, nextN_fold, flg]; exact IsK.mk) (by simp; exact IsK.mk)), ?_⟩)
    | (refine tri_step (id := 9) (C := ⟨[3], [], [(6, (7, 0, 0)), (7, (8, 0, 0)), (10, (11, 0, 0)), (13, (14, 0, 0)), (55, (4, 0, 0)), (57, (4, 0, 0)), (60, (4, 0, 0)), (62, (4, 0, 0)), (64, (4, 0, 0))]⟩) [6, 7, 8, 9] [(7, 0, 0), (8, 0, 0)] g80 (fun _ => ⟨q_mixed, by kernel_rfl⟩) ?_; refine ⟨_, by (simp [*, F40, F69, F54, nextN_fold, flg]; exact Is.mk), ?_⟩)
    | (refine tri_cond (c := .tmp 52) (b_true (by simp; exact IsB.mk)) (fun hc => ?_) (fun hc => ?_))
    | (refine tri_seq ?_)
    ))
  all_goals (refine post_plainV (P := Try.prog) (fn := Try.f80) (by simp; exact IsV.mk) rfl ?_)
  all_goals (first | (simp [F40, F69, F54, nextN_fold, flg, sendNext, nextF, nextOk, pieceCells]; done) | (simp [*, F40, F69, F54, nextN_fold, flg, sendNext, nextF, nextOk, pieceCells]; done) | (simp_all [F40, F69, F54, nextN_fold, flg, sendNext, nextF, nextOk, pieceCells]; done) | (simp [F40, F69, F54, nextN_fold, flg, sendNext, nextF, nextOk, pieceCells] <;> (repeat' split) <;> simp_all; done) | (simp [F40, F69, F54, nextN_fold, flg, sendNext, nextF, nextOk, pieceCells] <;> (repeat' split) <;> simp_all [Bool.and_assoc] <;> grind [List.length_eq_zero_iff, sendCells_co, recvCells_co, pieceCells_co, connCells_co, segCells_co, clockCells_co]))
open Classical in
noncomputable def F80 : Fn1
  | [x0, x1, x2] => (whole pSend x0).bind fun q => (dI .i64 x1).bind fun w => (dI .i64 x2).bind fun m => if q.sm then some ((.tup [.agg (sendCells (sendNext q w m).1), .agg (pieceCells (sendNext q w m).2.1), .v (.bool (sendNext q w m).2.2.1), .v (.bool (sendNext q w m).2.2.2)]), none) else none
  | _ => none
theorem spec80 : Spec1 Try.prog 80 F80 := spec_of fun ys r o h => by
  unfold F80 at h
  split at h
  case h_2 => cases h
  obtain ⟨q, k0, h1⟩ := bind_some h
  obtain ⟨w, k1, h2⟩ := bind_some h1
  obtain ⟨m, k2, h3⟩ := bind_some h2
  obtain ⟨hpre, hz⟩ := ite_some h3
  cases hz
  exact ⟨_, at80 q w m hpre, rfl, le_plain ⟨whole_co pSend_snd k0, ⟨dI_co k1, ⟨dI_co k2, trivial⟩⟩⟩ (by simp only [List.all_cons, List.all_nil, Bool.not_false, Bool.and_self, notRefB (whole_co pSend_snd k0) rfl (by simp), notRefB (dI_co k1) rfl (by simp), notRefB (dI_co k2) rfl (by simp)]) rfl⟩
theorem en80 : Enters Try.prog 80 := enters_of Try.func80 (by kernel_rfl) (by kernel_rfl)

-- caravel/sendq.Again
theorem g79 : GOk1 Try.prog (ctxOf [(69, F69)]) := gok_cons spec69 en69 (gok_nil)
set_option maxHeartbeats 400000 in
theorem at79 (q : Caw.Send) (m : Int) (hpre : q.sm) : SpecAt Try.prog 79 [.agg (sendCells q), .v (.int .i64 m)] (.tup [.agg (pieceCells (sendAgain q m).1), .v (.bool (sendAgain q m).2.1), .v (.bool (sendAgain q m).2.2)]) none := by
  have h1 : Sm q.data := by unfold Sm; have := hpre.2.2; omega
  obtain ⟨h2, h3, h4⟩ := again_facts q m hpre
  all_goals refine specAt_of_tri Try.func79 rfl (Nat.le_of_ble_eq_true rfl) ?_
  all_goals (repeat' (first
    | (refine tri_skipT ?_)
    | (refine th_r ?_)
    | (refine tri_ret ?_)
    | (refine tri_step (id := 0) (C := ⟨[2], [], [(4, (5, 0, 0)), (35, (3, 0, 0)), (37, (3, 0, 0))]⟩) [1, 2, 4] [(5, 0, 0)] g79 nodraw ?_; refine ⟨_, by (simp [*, F69, againN_fold, flg]; exact Is.mk), ?_⟩)
    | (refine tri_step (id := 1) (C := ⟨[2], [], [(4, (5, 0, 0)), (35, (3, 0, 0)), (37, (3, 0, 0))]⟩) [2, 4, 7] [(5, 0, 0)] g79 nodraw ?_; refine ⟨_, by (simp [*, F69, againN_fold, flg]; exact Is.mk), ?_⟩)
    | (refine tri_stepG (id := 2) (C := ⟨[2], [], [(4, (5, 0, 0)), (35, (3, 0, 0)), (37, (3, 0, 0))]⟩) [2, 4, 7, 8] [(5, 0, 0)] g79 nodraw ?_; refine ⟨_, (run_split 0 3 16 (by simp [*, F69, againN_fold, flg]; exact Is.mk) (by simp; exact IsB.mk) (run_split 3 5 21 (by simp [*, F69, againN_fold, flg]; exact Is.mk) (by simp; exact IsB.mk) (by simp [*, F69, againN_fold, flg]; exact IsK.mk) (by simp [*, F69, againN_fold, flg]; exact IsK.mk) (by simp; exact IsK.mk)) (run_split 3 5 21 (by simp [*, F69, againN_fold, flg]; exact Is.mk) (by simp; exact IsB.mk) (by simp [*, F69, againN_fold, flg]; exact IsK.mk) (by simp [*, F69, againN_fold, flg]; exact IsK.mk) (by simp; exact IsK.mk)) (by simp; exact IsK.mk)), ?_⟩)
    | (refine tri_stepG (id := 3) (C := ⟨[2], [], [(4, (5, 0, 0)), (35, (3, 0, 0)), (37, (3, 0, 0))]⟩) [2, 4, 7, 8, 33] [(5, 0, 0)] g79 nodraw ?_; refine ⟨_, (run_split 0 3 30 (by simp [*, F69, againN_fold, flg]; exact Is.mk) (by simp; exact IsB.mk) (by simp [*, F69, againN_fold, flg]; exact IsK.mk) (by simp [*, F69, againN_fold, flg]; exact IsK.mk) (by simp; exact IsK.mk)), ?_⟩)
    | (refine tri_step (id := 4) (C := ⟨[2], [], [(4, (5, 0, 0)), (35, (3, 0, 0)), (37, (3, 0, 0))]⟩) [4, 5, 6] [(5, 0, 0)] g79 nodraw ?_; refine ⟨_, by (simp [*, F69, againN_fold, flg]; exact Is.mk), ?_⟩)
    | (refine tri_step (id := 5) (C := ⟨[2], [], [(4, (5, 0, 0)), (35, (3, 0, 0)), (37, (3, 0, 0))]⟩) [4, 5, 6] [(5, 0, 0)] g79 (fun _ => ⟨q_mixed, by kernel_rfl⟩) ?_; refine ⟨_, by (simp [*, F69, againN_fold, flg]; exact Is.mk), ?_⟩)
    | (refine tri_cond (c := .tmp 33) (b_true (by simp; exact IsB.mk)) (fun hc => ?_) (fun hc => ?_))
    | (refine tri_seq ?_)
    ))
  all_goals (refine post_plainV (P := Try.prog) (fn := Try.f79) (by simp; exact IsV.mk) rfl ?_)
  all_goals (first | (simp [F69, againN_fold, flg, sendAgain, againF, pieceCells]; done) | (simp [*, F69, againN_fold, flg, sendAgain, againF, pieceCells]; done) | (simp_all [F69, againN_fold, flg, sendAgain, againF, pieceCells]; done) | (simp [F69, againN_fold, flg, sendAgain, againF, pieceCells] <;> (repeat' split) <;> simp_all; done) | (simp [F69, againN_fold, flg, sendAgain, againF, pieceCells] <;> (repeat' split) <;> simp_all [Bool.and_assoc] <;> grind [List.length_eq_zero_iff, sendCells_co, recvCells_co, pieceCells_co, connCells_co, segCells_co, clockCells_co]))
open Classical in
noncomputable def F79 : Fn1
  | [x0, x1] => (whole pSend x0).bind fun q => (dI .i64 x1).bind fun m => if q.sm then some ((.tup [.agg (pieceCells (sendAgain q m).1), .v (.bool (sendAgain q m).2.1), .v (.bool (sendAgain q m).2.2)]), none) else none
  | _ => none
theorem spec79 : Spec1 Try.prog 79 F79 := spec_of fun ys r o h => by
  unfold F79 at h
  split at h
  case h_2 => cases h
  obtain ⟨q, k0, h1⟩ := bind_some h
  obtain ⟨m, k1, h2⟩ := bind_some h1
  obtain ⟨hpre, hz⟩ := ite_some h2
  cases hz
  exact ⟨_, at79 q m hpre, rfl, le_plain ⟨whole_co pSend_snd k0, ⟨dI_co k1, trivial⟩⟩ (by simp only [List.all_cons, List.all_nil, Bool.not_false, Bool.and_self, notRefB (whole_co pSend_snd k0) rfl (by simp), notRefB (dI_co k1) rfl (by simp)]) rfl⟩
theorem en79 : Enters Try.prog 79 := enters_of Try.func79 (by kernel_rfl) (by kernel_rfl)

-- caravel/sendq.Ack
theorem g73 : GOk1 Try.prog (ctxOf [(40, F40), (56, F56), (77, F77)]) := gok_cons spec40 en40 (gok_cons spec56 en56 (gok_cons spec77 en77 (gok_nil)))
set_option maxHeartbeats 400000 in
theorem at73 (q : Caw.Send) (a : Int) (hpre : q.sm) : SpecAt Try.prog 73 [.agg (sendCells q), .v (.int .u32 a)] (.tup [.agg (sendCells (sendAck q a).1), .v (.int .i64 (sendAck q a).2.1), .v (.int .i64 (sendAck q a).2.2)]) none := by
  have h1 : Sm q.data := by unfold Sm; have := hpre.2.2; omega
  rcases ack_facts q a hpre with h2 | ⟨h2, h3, h4⟩
  all_goals refine specAt_of_tri Try.func73 rfl (Nat.le_of_ble_eq_true rfl) ?_
  all_goals (repeat' (first
    | (refine tri_condT (b_true (by simp; with_reducible exact IsB.mk)) ?_)
    | (refine tri_condF (b_true (by simp; with_reducible exact IsB.mk)) ?_)
    | (refine tri_skip ?_)
    | (refine th_n ?_)
    | (refine in_n ?_)
    | (refine th_r ?_)
    | (refine in_r ?_)
    | (refine tri_ret ?_)
    | (refine tri_block ?_)
    | (refine tri_step (id := 0) (C := ⟨[2], [], []⟩) [1, 2, 4] [(5, 0, 0)] g73 nodraw ?_; refine ⟨_, by (simp [*, F40, F56, F77, flg]; exact Is.mk), ?_⟩)
    | (refine tri_step (id := 1) (C := ⟨[2], [], []⟩) [1, 2, 4, 7] [(5, 0, 0), (8, 0, 0)] g73 nodraw ?_; refine ⟨_, by (simp [*, F40, F56, F77, flg]; exact Is.mk), ?_⟩)
    | (refine tri_step (id := 2) (C := ⟨[2], [], []⟩) [1, 2, 4, 7, 8] [(5, 0, 0), (8, 0, 0)] g73 nodraw ?_; refine ⟨_, by (simp [*, F40, F56, F77, flg]; exact Is.mk), ?_⟩)
    | (refine tri_step (id := 3) (C := ⟨[2], [], []⟩) [1, 2, 4, 7, 8, 16] [(5, 0, 0), (8, 0, 0)] g73 nodraw ?_; refine ⟨_, by (simp [*, F40, F56, F77, flg]; exact Is.mk), ?_⟩)
    | (refine tri_step (id := 4) (C := ⟨[2], [], []⟩) [4, 5, 6] [(5, 0, 0)] g73 nodraw ?_; refine ⟨_, by (simp [*, F40, F56, F77, flg]; exact Is.mk), ?_⟩)
    | (refine tri_step (id := 5) (C := ⟨[2], [], []⟩) [1, 2, 4, 7, 8, 20] [(5, 0, 0), (8, 0, 0)] g73 nodraw ?_; refine ⟨_, by (simp [*, F40, F56, F77, flg]; exact Is.mk), ?_⟩)
    | (refine tri_step (id := 6) (C := ⟨[2], [], []⟩) [4, 5, 6] [(5, 0, 0)] g73 nodraw ?_; refine ⟨_, by (simp [*, F40, F56, F77, flg]; exact Is.mk), ?_⟩)
    | (refine tri_step (id := 7) (C := ⟨[2], [], []⟩) [1, 2, 4, 7, 8, 9] [(5, 0, 0), (8, 0, 0)] g73 nodraw ?_; refine ⟨_, by (simp [*, F40, F56, F77, flg]; exact Is.mk), ?_⟩)
    | (refine tri_step (id := 8) (C := ⟨[2], [], []⟩) [1, 2, 4, 7, 8, 9] [(5, 0, 0), (8, 0, 0)] g73 nodraw ?_; refine ⟨_, by (simp [*, F40, F56, F77, flg]; exact Is.mk), ?_⟩)
    | (refine tri_step (id := 9) (C := ⟨[2], [], []⟩) [1, 2, 4, 7, 8, 9] [(5, 0, 0), (8, 0, 0)] g73 nodraw ?_; refine ⟨_, by (simp [*, F40, F56, F77, flg]; exact Is.mk), ?_⟩)
    | (refine tri_step (id := 10) (C := ⟨[2], [], []⟩) [2, 4, 7, 8, 9] [(5, 0, 0), (8, 0, 0)] g73 nodraw ?_; refine ⟨_, by (simp [*, F40, F56, F77, flg]; exact Is.mk), ?_⟩)
    | (refine tri_stepG (id := 11) (C := ⟨[2], [], []⟩) [4, 7, 8] [(5, 0, 0), (8, 0, 0)] g73 nodraw ?_; refine ⟨_, (run_split 0 3 44 (by simp [*, F40, F56, F77, flg]; exact Is.mk) (by simp; exact IsB.mk) (by simp [*, F40, F56, F77, flg]; exact IsK.mk) (by simp [*, F40, F56, F77, flg]; exact IsK.mk) (by simp; exact IsK.mk)), ?_⟩)
    | (refine tri_step (id := 12) (C := ⟨[2], [], []⟩) [4, 5, 6] [(5, 0, 0)] g73 nodraw ?_; refine ⟨_, by (simp [*, F40, F56, F77, flg]; exact Is.mk), ?_⟩)
    | (refine tri_cond (c := .tmp 20) (b_true (by simp; exact IsB.mk)) (fun hc => ?_) (fun hc => ?_))
    | (refine tri_seq ?_)
    ))
  all_goals (refine post_plainV (P := Try.prog) (fn := Try.f73) (by simp; exact IsV.mk) rfl ?_)
  all_goals (first | (simp [F40, F56, F77, flg, sendAck]; done) | (simp [*, F40, F56, F77, flg, sendAck]; done) | (simp_all [F40, F56, F77, flg, sendAck]; done) | (simp [F40, F56, F77, flg, sendAck] <;> (repeat' split) <;> simp_all; done) | (simp [F40, F56, F77, flg, sendAck] <;> (repeat' split) <;> simp_all [Bool.and_assoc] <;> grind [List.length_eq_zero_iff, sendCells_co, recvCells_co, pieceCells_co, connCells_co, segCells_co, clockCells_co]))
open Classical in
noncomputable def F73 : Fn1
  | [x0, x1] => (whole pSend x0).bind fun q => (dI .u32 x1).bind fun a => if q.sm then some ((.tup [.agg (sendCells (sendAck q a).1), .v (.int .i64 (sendAck q a).2.1), .v (.int .i64 (sendAck q a).2.2)]), none) else none
  | _ => none
theorem spec73 : Spec1 Try.prog 73 F73 := spec_of fun ys r o h => by
  unfold F73 at h
  split at h
  case h_2 => cases h
  obtain ⟨q, k0, h1⟩ := bind_some h
  obtain ⟨a, k1, h2⟩ := bind_some h1
  obtain ⟨hpre, hz⟩ := ite_some h2
  cases hz
  exact ⟨_, at73 q a hpre, rfl, le_plain ⟨whole_co pSend_snd k0, ⟨dI_co k1, trivial⟩⟩ (by simp only [List.all_cons, List.all_nil, Bool.not_false, Bool.and_self, notRefB (whole_co pSend_snd k0) rfl (by simp), notRefB (dI_co k1) rfl (by simp)]) rfl⟩
theorem en73 : Enters Try.prog 73 := enters_of Try.func73 (by kernel_rfl) (by kernel_rfl)

-- caravel/sendq.Right
set_option maxHeartbeats 4000000 in
theorem at51 (q : Caw.Send) : SpecAt Try.prog 51 [.agg (sendCells q)] (.v (.bool (sendRight q))) none := by
  all_goals refine specAt_of_tri Try.func51 rfl (Nat.le_of_ble_eq_true rfl) ?_
  all_goals (repeat' (first
    | (refine tri_ret ?_)
    | (refine tri_step (id := 0) (C := ⟨[1], [], []⟩) [1] [] gok_nil nodraw ?_; refine ⟨_, by (simp [sendRight, flg]; exact Is.mk), ?_⟩)
    | (refine tri_stepG (id := 1) (C := ⟨[1], [], []⟩) [2] [] gok_nil nodraw ?_; refine ⟨_, (run_split 0 5 7 (by simp [sendRight, flg]; exact Is.mk) (by simp; exact IsB.mk) (run_split 5 5 12 (by simp [sendRight, flg]; exact Is.mk) (by simp; exact IsB.mk) (run_split 10 8 20 (by simp [sendRight, flg]; exact Is.mk) (by simp; exact IsB.mk) (run_split 18 4 24 (by simp [sendRight, flg]; exact Is.mk) (by simp; exact IsB.mk) (run_split 22 13 37 (by simp [sendRight, flg]; exact Is.mk) (by simp; exact IsB.mk) (run_split 35 4 41 (by simp [sendRight, flg]; exact Is.mk) (by simp; exact IsB.mk) (by simp [sendRight, flg]; exact IsK.mk) (run_split 39 3 44 (by simp [sendRight, flg]; exact Is.mk) (by simp; exact IsB.mk) (by simp [sendRight, flg]; exact IsK.mk) (by simp [sendRight, flg]; exact IsK.mk) (by simp; exact IsK.mk)) (by simp; exact IsK.mk)) (by simp [sendRight, flg]; exact IsK.mk) (by simp; exact IsK.mk)) (run_split 22 3 27 (by simp [sendRight, flg]; exact Is.mk) (by simp; exact IsB.mk) (run_split 25 10 37 (by simp [sendRight, flg]; exact Is.mk) (by simp; exact IsB.mk) (run_split 35 4 41 (by simp [sendRight, flg]; exact Is.mk) (by simp; exact IsB.mk) (by simp [sendRight, flg]; exact IsK.mk) (run_split 39 3 44 (by simp [sendRight, flg]; exact Is.mk) (by simp; exact IsB.mk) (by simp [sendRight, flg]; exact IsK.mk) (by simp [sendRight, flg]; exact IsK.mk) (by simp; exact IsK.mk)) (by simp; exact IsK.mk)) (by simp [sendRight, flg]; exact IsK.mk) (by simp; exact IsK.mk)) (run_split 25 10 37 (by simp [sendRight, flg]; exact Is.mk) (by simp; exact IsB.mk) (run_split 35 4 41 (by simp [sendRight, flg]; exact Is.mk) (by simp; exact IsB.mk) (by simp [sendRight, flg]; exact IsK.mk) (run_split 39 3 44 (by simp [sendRight, flg]; exact Is.mk) (by simp; exact IsB.mk) (by simp [sendRight, flg]; exact IsK.mk) (by simp [sendRight, flg]; exact IsK.mk) (by simp; exact IsK.mk)) (by simp; exact IsK.mk)) (by simp [sendRight, flg]; exact IsK.mk) (by simp; exact IsK.mk)) (by simp; exact IsK.mk)) (by simp; exact IsK.mk)) (run_split 18 17 37 (by simp [sendRight, flg]; exact Is.mk) (by simp; exact IsB.mk) (run_split 35 4 41 (by simp [sendRight, flg]; exact Is.mk) (by simp; exact IsB.mk) (by simp [sendRight, flg]; exact IsK.mk) (run_split 39 3 44 (by simp [sendRight, flg]; exact Is.mk) (by simp; exact IsB.mk) (by simp [sendRight, flg]; exact IsK.mk) (by simp [sendRight, flg]; exact IsK.mk) (by simp; exact IsK.mk)) (by simp; exact IsK.mk)) (by simp [sendRight, flg]; exact IsK.mk) (by simp; exact IsK.mk)) (by simp; exact IsK.mk)) (run_split 10 8 20 (by simp [sendRight, flg]; exact Is.mk) (by simp; exact IsB.mk) (run_split 18 4 24 (by simp [sendRight, flg]; exact Is.mk) (by simp; exact IsB.mk) (run_split 22 13 37 (by simp [sendRight, flg]; exact Is.mk) (by simp; exact IsB.mk) (run_split 35 4 41 (by simp [sendRight, flg]; exact Is.mk) (by simp; exact IsB.mk) (by simp [sendRight, flg]; exact IsK.mk) (run_split 39 3 44 (by simp [sendRight, flg]; exact Is.mk) (by simp; exact IsB.mk) (by simp [sendRight, flg]; exact IsK.mk) (by simp [sendRight, flg]; exact IsK.mk) (by simp; exact IsK.mk)) (by simp; exact IsK.mk)) (by simp [sendRight, flg]; exact IsK.mk) (by simp; exact IsK.mk)) (run_split 22 3 27 (by simp [sendRight, flg]; exact Is.mk) (by simp; exact IsB.mk) (run_split 25 10 37 (by simp [sendRight, flg]; exact Is.mk) (by simp; exact IsB.mk) (run_split 35 4 41 (by simp [sendRight, flg]; exact Is.mk) (by simp; exact IsB.mk) (by simp [sendRight, flg]; exact IsK.mk) (run_split 39 3 44 (by simp [sendRight, flg]; exact Is.mk) (by simp; exact IsB.mk) (by simp [sendRight, flg]; exact IsK.mk) (by simp [sendRight, flg]; exact IsK.mk) (by simp; exact IsK.mk)) (by simp; exact IsK.mk)) (by simp [sendRight, flg]; exact IsK.mk) (by simp; exact IsK.mk)) (run_split 25 10 37 (by simp [sendRight, flg]; exact Is.mk) (by simp; exact IsB.mk) (run_split 35 4 41 (by simp [sendRight, flg]; exact Is.mk) (by simp; exact IsB.mk) (by simp [sendRight, flg]; exact IsK.mk) (run_split 39 3 44 (by simp [sendRight, flg]; exact Is.mk) (by simp; exact IsB.mk) (by simp [sendRight, flg]; exact IsK.mk) (by simp [sendRight, flg]; exact IsK.mk) (by simp; exact IsK.mk)) (by simp; exact IsK.mk)) (by simp [sendRight, flg]; exact IsK.mk) (by simp; exact IsK.mk)) (by simp; exact IsK.mk)) (by simp; exact IsK.mk)) (run_split 18 17 37 (by simp [sendRight, flg]; exact Is.mk) (by simp; exact IsB.mk) (run_split 35 4 41 (by simp [sendRight, flg]; exact Is.mk) (by simp; exact IsB.mk) (by simp [sendRight, flg]; exact IsK.mk) (run_split 39 3 44 (by simp [sendRight, flg]; exact Is.mk) (by simp; exact IsB.mk) (by simp [sendRight, flg]; exact IsK.mk) (by simp [sendRight, flg]; exact IsK.mk) (by simp; exact IsK.mk)) (by simp; exact IsK.mk)) (by simp [sendRight, flg]; exact IsK.mk) (by simp; exact IsK.mk)) (by simp; exact IsK.mk)) (by simp; exact IsK.mk)) (run_split 5 5 12 (by simp [sendRight, flg]; exact Is.mk) (by simp; exact IsB.mk) (run_split 10 8 20 (by simp [sendRight, flg]; exact Is.mk) (by simp; exact IsB.mk) (run_split 18 4 24 (by simp [sendRight, flg]; exact Is.mk) (by simp; exact IsB.mk) (run_split 22 13 37 (by simp [sendRight, flg]; exact Is.mk) (by simp; exact IsB.mk) (run_split 35 4 41 (by simp [sendRight, flg]; exact Is.mk) (by simp; exact IsB.mk) (by simp [sendRight, flg]; exact IsK.mk) (run_split 39 3 44 (by simp [sendRight, flg]; exact Is.mk) (by simp; exact IsB.mk) (by simp [sendRight, flg]; exact IsK.mk) (by simp [sendRight, flg]; exact IsK.mk) (by simp; exact IsK.mk)) (by simp; exact IsK.mk)) (by simp [sendRight, flg]; exact IsK.mk) (by simp; exact IsK.mk)) (run_split 22 3 27 (by simp [sendRight, flg]; exact Is.mk) (by simp; exact IsB.mk) (run_split 25 10 37 (by simp [sendRight, flg]; exact Is.mk) (by simp; exact IsB.mk) (run_split 35 4 41 (by simp [sendRight, flg]; exact Is.mk) (by simp; exact IsB.mk) (by simp [sendRight, flg]; exact IsK.mk) (run_split 39 3 44 (by simp [sendRight, flg]; exact Is.mk) (by simp; exact IsB.mk) (by simp [sendRight, flg]; exact IsK.mk) (by simp [sendRight, flg]; exact IsK.mk) (by simp; exact IsK.mk)) (by simp; exact IsK.mk)) (by simp [sendRight, flg]; exact IsK.mk) (by simp; exact IsK.mk)) (run_split 25 10 37 (by simp [sendRight, flg]; exact Is.mk) (by simp; exact IsB.mk) (run_split 35 4 41 (by simp [sendRight, flg]; exact Is.mk) (by simp; exact IsB.mk) (by simp [sendRight, flg]; exact IsK.mk) (run_split 39 3 44 (by simp [sendRight, flg]; exact Is.mk) (by simp; exact IsB.mk) (by simp [sendRight, flg]; exact IsK.mk) (by simp [sendRight, flg]; exact IsK.mk) (by simp; exact IsK.mk)) (by simp; exact IsK.mk)) (by simp [sendRight, flg]; exact IsK.mk) (by simp; exact IsK.mk)) (by simp; exact IsK.mk)) (by simp; exact IsK.mk)) (run_split 18 17 37 (by simp [sendRight, flg]; exact Is.mk) (by simp; exact IsB.mk) (run_split 35 4 41 (by simp [sendRight, flg]; exact Is.mk) (by simp; exact IsB.mk) (by simp [sendRight, flg]; exact IsK.mk) (run_split 39 3 44 (by simp [sendRight, flg]; exact Is.mk) (by simp; exact IsB.mk) (by simp [sendRight, flg]; exact IsK.mk) (by simp [sendRight, flg]; exact IsK.mk) (by simp; exact IsK.mk)) (by simp; exact IsK.mk)) (by simp [sendRight, flg]; exact IsK.mk) (by simp; exact IsK.mk)) (by simp; exact IsK.mk)) (run_split 10 8 20 (by simp [sendRight, flg]; exact Is.mk) (by simp; exact IsB.mk) (run_split 18 4 24 (by simp [sendRight, flg]; exact Is.mk) (by simp; exact IsB.mk) (run_split 22 13 37 (by simp [sendRight, flg]; exact Is.mk) (by simp; exact IsB.mk) (run_split 35 4 41 (by simp [sendRight, flg]; exact Is.mk) (by simp; exact IsB.mk) (by simp [sendRight, flg]; exact IsK.mk) (run_split 39 3 44 (by simp [sendRight, flg]; exact Is.mk) (by simp; exact IsB.mk) (by simp [sendRight, flg]; exact IsK.mk) (by simp [sendRight, flg]; exact IsK.mk) (by simp; exact IsK.mk)) (by simp; exact IsK.mk)) (by simp [sendRight, flg]; exact IsK.mk) (by simp; exact IsK.mk)) (run_split 22 3 27 (by simp [sendRight, flg]; exact Is.mk) (by simp; exact IsB.mk) (run_split 25 10 37 (by simp [sendRight, flg]; exact Is.mk) (by simp; exact IsB.mk) (run_split 35 4 41 (by simp [sendRight, flg]; exact Is.mk) (by simp; exact IsB.mk) (by simp [sendRight, flg]; exact IsK.mk) (run_split 39 3 44 (by simp [sendRight, flg]; exact Is.mk) (by simp; exact IsB.mk) (by simp [sendRight, flg]; exact IsK.mk) (by simp [sendRight, flg]; exact IsK.mk) (by simp; exact IsK.mk)) (by simp; exact IsK.mk)) (by simp [sendRight, flg]; exact IsK.mk) (by simp; exact IsK.mk)) (run_split 25 10 37 (by simp [sendRight, flg]; exact Is.mk) (by simp; exact IsB.mk) (run_split 35 4 41 (by simp [sendRight, flg]; exact Is.mk) (by simp; exact IsB.mk) (by simp [sendRight, flg]; exact IsK.mk) (run_split 39 3 44 (by simp [sendRight, flg]; exact Is.mk) (by simp; exact IsB.mk) (by simp [sendRight, flg]; exact IsK.mk) (by simp [sendRight, flg]; exact IsK.mk) (by simp; exact IsK.mk)) (by simp; exact IsK.mk)) (by simp [sendRight, flg]; exact IsK.mk) (by simp; exact IsK.mk)) (by simp; exact IsK.mk)) (by simp; exact IsK.mk)) (run_split 18 17 37 (by simp [sendRight, flg]; exact Is.mk) (by simp; exact IsB.mk) (run_split 35 4 41 (by simp [sendRight, flg]; exact Is.mk) (by simp; exact IsB.mk) (by simp [sendRight, flg]; exact IsK.mk) (run_split 39 3 44 (by simp [sendRight, flg]; exact Is.mk) (by simp; exact IsB.mk) (by simp [sendRight, flg]; exact IsK.mk) (by simp [sendRight, flg]; exact IsK.mk) (by simp; exact IsK.mk)) (by simp; exact IsK.mk)) (by simp [sendRight, flg]; exact IsK.mk) (by simp; exact IsK.mk)) (by simp; exact IsK.mk)) (by simp; exact IsK.mk)) (by simp; exact IsK.mk)), ?_⟩)
    ))
  all_goals (refine post_plainV (P := Try.prog) (fn := Try.f51) (by simp; exact IsV.mk) rfl ?_)
  all_goals (first | (simp [sendRight, flg]; done) | (simp [*, sendRight, flg]; done) | (simp_all [sendRight, flg]; done) | (simp [sendRight, flg] <;> (repeat' split) <;> simp_all; done) | (simp [sendRight, flg] <;> (repeat' split) <;> simp_all [Bool.and_assoc] <;> grind [List.length_eq_zero_iff, sendCells_co, recvCells_co, pieceCells_co, connCells_co, segCells_co, clockCells_co]))
noncomputable def F51 : Fn1
  | [x0] => (whole pSend x0).bind fun q => some ((.v (.bool (sendRight q))), none)
  | _ => none
theorem spec51 : Spec1 Try.prog 51 F51 := spec_of fun ys r o h => by
  unfold F51 at h
  split at h
  case h_2 => cases h
  obtain ⟨q, k0, h1⟩ := bind_some h
  cases h1
  exact ⟨_, at51 q, rfl, le_plain ⟨whole_co pSend_snd k0, trivial⟩ (by simp only [List.all_cons, List.all_nil, Bool.not_false, Bool.and_self, notRefB (whole_co pSend_snd k0) rfl (by simp)]) rfl⟩
theorem en51 : Enters Try.prog 51 := enters_of Try.func51 (by kernel_rfl) (by kernel_rfl)

end Go.Proofs.Ytkjodjaamjnejaa

