import Derived.Test.YtkjodjaamjnejaaP4
import Derived.Test.YtkjodjaamjnejaaK7
import Derived.Test.YtkjodjaamjnejaaP5
import Derived.Test.YtkjodjaamjnejaaP7
import Derived.Test.YtkjodjaamjnejaaP3
set_option linter.all false
-- Printed by genwalk.py.
namespace Go.Proofs.Ytkjodjaamjnejaa
open Go Go.RowKit Caw
set_option linter.unusedSimpArgs false
set_option linter.unusedVariables false
set_option maxRecDepth 100000

-- caravel/tcb.Clone
theorem g22 : GOk1 Try.prog (ctxOf [(40, F40), (41, F41)]) := gok_cons spec40 en40 (gok_cons spec41 en41 (gok_nil))
set_option maxHeartbeats 400000 in
theorem at22 (c : Caw.Conn) (hpre : c.sm) : SpecAt Try.prog 22 [.agg (connCells c)] (.agg (connCells c)) none := by
  have h1 := hpre.s.l
  have h2 := hpre.r
  all_goals refine specAt_of_tri Try.func22 rfl (Nat.le_of_ble_eq_true rfl) ?_
  all_goals (repeat' (first
    | (refine tri_ret ?_)
    | (refine tri_step (id := 0) (C := ⟨[], [], [(3, (2, 0, 0)), (6, (2, 0, 0)), (9, (2, 0, 0)), (10, (2, 0, 0))]⟩) [1, 2] [(2, 0, 0), (3, 0, 0)] g22 nodraw ?_; refine ⟨_, by (simp [*, F40, F41, flg]; exact Is.mk), ?_⟩)
    | (refine tri_step (id := 1) (C := ⟨[], [], [(3, (2, 0, 0)), (6, (2, 0, 0)), (9, (2, 0, 0)), (10, (2, 0, 0))]⟩) [1, 2] [(2, 0, 0), (3, 0, 0)] g22 (fun _ => ⟨q_mixed, by kernel_rfl⟩) ?_; refine ⟨_, by (simp [*, F40, F41, flg]; exact Is.mk), ?_⟩)
    | (refine tri_step (id := 2) (C := ⟨[], [], [(3, (2, 0, 0)), (6, (2, 0, 0)), (9, (2, 0, 0)), (10, (2, 0, 0))]⟩) [2] [(3, 0, 0)] g22 nodraw ?_; refine ⟨_, by (simp [*, F40, F41, flg]; exact Is.mk), ?_⟩)
    ))
  all_goals (refine post_plainV (P := Try.prog) (fn := Try.f22) (by simp; exact IsV.mk) rfl ?_)
  all_goals (first | (simp [F40, F41, flg]; done) | (simp [*, F40, F41, flg]; done) | (simp_all [F40, F41, flg]; done) | (simp [F40, F41, flg] <;> (repeat' split) <;> simp_all; done) | (simp [F40, F41, flg] <;> (repeat' split) <;> simp_all [Bool.and_assoc] <;> grind [List.length_eq_zero_iff, sendCells_co, recvCells_co, pieceCells_co, connCells_co, segCells_co, clockCells_co]))
open Classical in
noncomputable def F22 : Fn1
  | [x0] => (whole pConn x0).bind fun c => if c.sm then some ((.agg (connCells c)), none) else none
  | _ => none
theorem spec22 : Spec1 Try.prog 22 F22 := spec_of fun ys r o h => by
  unfold F22 at h
  split at h
  case h_2 => cases h
  obtain ⟨c, k0, h1⟩ := bind_some h
  obtain ⟨hpre, hz⟩ := ite_some h1
  cases hz
  exact ⟨_, at22 c hpre, rfl, le_plain ⟨whole_co pConn_snd k0, trivial⟩ (by simp only [List.all_cons, List.all_nil, Bool.not_false, Bool.and_self, notRefB (whole_co pConn_snd k0) rfl (by simp)]) rfl⟩
theorem en22 : Enters Try.prog 22 := enters_of Try.func22 (by kernel_rfl) (by kernel_rfl)

end Go.Proofs.Ytkjodjaamjnejaa

-- Printed by genwalk.py.
namespace Go.Proofs.Ytkjodjaamjnejaa
open Go Go.RowKit Caw
set_option linter.unusedSimpArgs false
set_option linter.unusedVariables false
set_option maxRecDepth 100000

-- (*caravel/tcb.end).takes
theorem g50 : GOk1 Try.prog (ctxOf [(54, F54), (27, F27), (70, F70), (73, F73), (47, F47), (74, F74), (56, F56), (59, F59), (75, F75), (76, F76), (62, F62), (48, F48)]) := gok_cons spec54 en54 (gok_cons spec27 en27 (gok_cons spec70 en70 (gok_cons spec73 en73 (gok_cons spec47 en47 (gok_cons spec74 en74 (gok_cons spec56 en56 (gok_cons spec59 en59 (gok_cons spec75 en75 (gok_cons spec76 en76 (gok_cons spec62 en62 (gok_cons spec48 en48 (gok_nil))))))))))))
set_option maxHeartbeats 4000000 in
theorem at50 (e : Caw.Ep) (s : Caw.Seg) (hpre : takesPre e s) : SpecAt Try.prog 50 [.ref (epCells e flg), .agg (segCells s)] (.tup []) (some (epCells (takes e s) flg)) := by
  obtain ⟨hp1, hp2, hp3, hp4, hp5, hp6, hp7⟩ := takes_facts hpre
  have hf := rm_fit hp1
  clear hpre
  by_cases hR : e.conn.phase = 2 ∧ s.ack ≠ seqAdd e.conn.first 1
  have ht : takes e s = { e with out := e.out ++ [refuse s] } := by unfold takes; rw [if_pos hR]
  have hph : (e.conn.phase == 2) = true := by simp [hR.1]
  have hak : (s.ack != seqAdd e.conn.first 1) = true := by simp [hR.2]
  clear hR
  rotate_left
  have ht : takes e s = takesB (tk0 e s) s := by unfold takes; rw [if_neg hR]
  rotate_left
  all_goals refine specAt_of_tri Try.func50 rfl (Nat.le_of_ble_eq_true rfl) ?_
  all_goals (repeat' (first
    | (refine tri_condT (b_true (by simp; with_reducible exact IsB.mk)) ?_)
    | (refine tri_skipT ?_)
    | (refine tri_skip ?_)
    | (refine th_n ?_)
    | (refine th_r ?_)
    | (refine tri_ret ?_)
    | (refine tri_step (id := 0) (C := ⟨[3], [70, 47, 74, 59, 76, 62], [(3, (4, 0, 0)), (4, (5, 0, 0)), (14, (4, 0, 0)), (19, (0, 1, 0)), (26, (0, 1, 0)), (33, (0, 1, 0)), (41, (0, 1, 0)), (43, (4, 0, 0)), (103, (0, 1, 0)), (105, (4, 0, 0)), (107, (4, 0, 0)), (109, (4, 0, 0)), (116, (0, 1, 0))]⟩) [0, 3] [(0, 1, 0)] g50 nodraw ?_; refine ⟨_, by (simp [*, F54, F27, F70, F73, F47, F74, F56, F59, F75, F76, F62, F48, hasF_fold, tkR_fold, tk0_fold, tk1_fold, tkM_fold, tk2_fold, tk3_fold, tk4_fold, tk5_fold, tk6_fold, tk5_window, tk7_fold, tk8_fold, tk9_fold, flg]; exact Is.mk), ?_⟩)
    | (refine tri_step (id := 1) (C := ⟨[3], [70, 47, 74, 59, 76, 62], [(3, (4, 0, 0)), (4, (5, 0, 0)), (14, (4, 0, 0)), (19, (0, 1, 0)), (26, (0, 1, 0)), (33, (0, 1, 0)), (41, (0, 1, 0)), (43, (4, 0, 0)), (103, (0, 1, 0)), (105, (4, 0, 0)), (107, (4, 0, 0)), (109, (4, 0, 0)), (116, (0, 1, 0))]⟩) [0, 3, 13] [(0, 1, 0)] g50 nodraw ?_; refine ⟨_, by (simp [*, F54, F27, F70, F73, F47, F74, F56, F59, F75, F76, F62, F48, hasF_fold, tkR_fold, tk0_fold, tk1_fold, tkM_fold, tk2_fold, tk3_fold, tk4_fold, tk5_fold, tk6_fold, tk5_window, tk7_fold, tk8_fold, tk9_fold, flg]; exact Is.mk), ?_⟩)
    | (refine tri_step (id := 2) (C := ⟨[3], [70, 47, 74, 59, 76, 62], [(3, (4, 0, 0)), (4, (5, 0, 0)), (14, (4, 0, 0)), (19, (0, 1, 0)), (26, (0, 1, 0)), (33, (0, 1, 0)), (41, (0, 1, 0)), (43, (4, 0, 0)), (103, (0, 1, 0)), (105, (4, 0, 0)), (107, (4, 0, 0)), (109, (4, 0, 0)), (116, (0, 1, 0))]⟩) [0, 3, 22] [(0, 1, 0)] g50 (fun _ => ⟨q_mixed, by kernel_rfl⟩) ?_; refine ⟨_, by (simp [*, F54, F27, F70, F73, F47, F74, F56, F59, F75, F76, F62, F48, hasF_fold, tkR_fold, tk0_fold, tk1_fold, tkM_fold, tk2_fold, tk3_fold, tk4_fold, tk5_fold, tk6_fold, tk5_window, tk7_fold, tk8_fold, tk9_fold, flg]; exact Is.mk), ?_⟩)
    | (refine tri_step (id := 3) (C := ⟨[3], [70, 47, 74, 59, 76, 62], [(3, (4, 0, 0)), (4, (5, 0, 0)), (14, (4, 0, 0)), (19, (0, 1, 0)), (26, (0, 1, 0)), (33, (0, 1, 0)), (41, (0, 1, 0)), (43, (4, 0, 0)), (103, (0, 1, 0)), (105, (4, 0, 0)), (107, (4, 0, 0)), (109, (4, 0, 0)), (116, (0, 1, 0))]⟩) [] [(0, 1, 0)] g50 (fun _ => ⟨q_mixed, by kernel_rfl⟩) ?_; refine ⟨_, by (simp [*, F54, F27, F70, F73, F47, F74, F56, F59, F75, F76, F62, F48, hasF_fold, tkR_fold, tk0_fold, tk1_fold, tkM_fold, tk2_fold, tk3_fold, tk4_fold, tk5_fold, tk6_fold, tk5_window, tk7_fold, tk8_fold, tk9_fold, flg]; exact Is.mk), ?_⟩)
    | (refine tri_last (id := 4) (C := ⟨[3], [70, 47, 74, 59, 76, 62], [(3, (4, 0, 0)), (4, (5, 0, 0)), (14, (4, 0, 0)), (19, (0, 1, 0)), (26, (0, 1, 0)), (33, (0, 1, 0)), (41, (0, 1, 0)), (43, (4, 0, 0)), (103, (0, 1, 0)), (105, (4, 0, 0)), (107, (4, 0, 0)), (109, (4, 0, 0)), (116, (0, 1, 0))]⟩) [0, 3] [(0, 1, 0)] g50 nodraw ?_; refine ⟨_, by (simp [*, F54, F27, F70, F73, F47, F74, F56, F59, F75, F76, F62, F48, hasF_fold, tkR_fold, tk0_fold, tk1_fold, tkM_fold, tk2_fold, tk3_fold, tk4_fold, tk5_fold, tk6_fold, tk5_window, tk7_fold, tk8_fold, tk9_fold, flg]; exact Is.mk), ?_⟩)
    | (refine tri_step (id := 5) (C := ⟨[3], [70, 47, 74, 59, 76, 62], [(3, (4, 0, 0)), (4, (5, 0, 0)), (14, (4, 0, 0)), (19, (0, 1, 0)), (26, (0, 1, 0)), (33, (0, 1, 0)), (41, (0, 1, 0)), (43, (4, 0, 0)), (103, (0, 1, 0)), (105, (4, 0, 0)), (107, (4, 0, 0)), (109, (4, 0, 0)), (116, (0, 1, 0))]⟩) [0, 3, 4, 5, 6] [(0, 1, 0), (5, 0, 0)] g50 (fun _ => ⟨q_mixed, by kernel_rfl⟩) ?_; refine ⟨_, by (simp [*, F54, F27, F70, F73, F47, F74, F56, F59, F75, F76, F62, F48, hasF_fold, tkR_fold, tk0_fold, tk1_fold, tkM_fold, tk2_fold, tk3_fold, tk4_fold, tk5_fold, tk6_fold, tk5_window, tk7_fold, tk8_fold, tk9_fold, flg]; exact Is.mk), ?_⟩)
    | (refine tri_step (id := 6) (C := ⟨[3], [70, 47, 74, 59, 76, 62], [(3, (4, 0, 0)), (4, (5, 0, 0)), (14, (4, 0, 0)), (19, (0, 1, 0)), (26, (0, 1, 0)), (33, (0, 1, 0)), (41, (0, 1, 0)), (43, (4, 0, 0)), (103, (0, 1, 0)), (105, (4, 0, 0)), (107, (4, 0, 0)), (109, (4, 0, 0)), (116, (0, 1, 0))]⟩) [0, 3, 4, 5, 50] [(0, 1, 0), (5, 0, 0)] g50 nodraw ?_; refine ⟨_, by (simp [*, F54, F27, F70, F73, F47, F74, F56, F59, F75, F76, F62, F48, hasF_fold, tkR_fold, tk0_fold, tk1_fold, tkM_fold, tk2_fold, tk3_fold, tk4_fold, tk5_fold, tk6_fold, tk5_window, tk7_fold, tk8_fold, tk9_fold, flg]; exact Is.mk), ?_⟩)
    | (refine tri_step (id := 7) (C := ⟨[3], [70, 47, 74, 59, 76, 62], [(3, (4, 0, 0)), (4, (5, 0, 0)), (14, (4, 0, 0)), (19, (0, 1, 0)), (26, (0, 1, 0)), (33, (0, 1, 0)), (41, (0, 1, 0)), (43, (4, 0, 0)), (103, (0, 1, 0)), (105, (4, 0, 0)), (107, (4, 0, 0)), (109, (4, 0, 0)), (116, (0, 1, 0))]⟩) [] [(0, 1, 0)] g50 nodraw ?_; refine ⟨_, by (simp [*, F54, F27, F70, F73, F47, F74, F56, F59, F75, F76, F62, F48, hasF_fold, tkR_fold, tk0_fold, tk1_fold, tkM_fold, tk2_fold, tk3_fold, tk4_fold, tk5_fold, tk6_fold, tk5_window, tk7_fold, tk8_fold, tk9_fold, flg]; exact Is.mk), ?_⟩)
    | (refine tri_step (id := 8) (C := ⟨[3], [70, 47, 74, 59, 76, 62], [(3, (4, 0, 0)), (4, (5, 0, 0)), (14, (4, 0, 0)), (19, (0, 1, 0)), (26, (0, 1, 0)), (33, (0, 1, 0)), (41, (0, 1, 0)), (43, (4, 0, 0)), (103, (0, 1, 0)), (105, (4, 0, 0)), (107, (4, 0, 0)), (109, (4, 0, 0)), (116, (0, 1, 0))]⟩) [0, 3, 4, 5] [(0, 1, 0), (5, 0, 0)] g50 nodraw ?_; refine ⟨_, by (simp [*, F54, F27, F70, F73, F47, F74, F56, F59, F75, F76, F62, F48, hasF_fold, tkR_fold, tk0_fold, tk1_fold, tkM_fold, tk2_fold, tk3_fold, tk4_fold, tk5_fold, tk6_fold, tk5_window, tk7_fold, tk8_fold, tk9_fold, flg]; exact Is.mk), ?_⟩)
    | (refine tri_step (id := 9) (C := ⟨[3], [70, 47, 74, 59, 76, 62], [(3, (4, 0, 0)), (4, (5, 0, 0)), (14, (4, 0, 0)), (19, (0, 1, 0)), (26, (0, 1, 0)), (33, (0, 1, 0)), (41, (0, 1, 0)), (43, (4, 0, 0)), (103, (0, 1, 0)), (105, (4, 0, 0)), (107, (4, 0, 0)), (109, (4, 0, 0)), (116, (0, 1, 0))]⟩) [0, 3, 4, 59] [(0, 1, 0), (5, 0, 0)] g50 nodraw ?_; refine ⟨_, by (simp [*, F54, F27, F70, F73, F47, F74, F56, F59, F75, F76, F62, F48, hasF_fold, tkR_fold, tk0_fold, tk1_fold, tkM_fold, tk2_fold, tk3_fold, tk4_fold, tk5_fold, tk6_fold, tk5_window, tk7_fold, tk8_fold, tk9_fold, flg]; exact Is.mk), ?_⟩)
    | (refine tri_step (id := 10) (C := ⟨[3], [70, 47, 74, 59, 76, 62], [(3, (4, 0, 0)), (4, (5, 0, 0)), (14, (4, 0, 0)), (19, (0, 1, 0)), (26, (0, 1, 0)), (33, (0, 1, 0)), (41, (0, 1, 0)), (43, (4, 0, 0)), (103, (0, 1, 0)), (105, (4, 0, 0)), (107, (4, 0, 0)), (109, (4, 0, 0)), (116, (0, 1, 0))]⟩) [0, 3, 4] [(0, 1, 0), (5, 0, 0)] g50 nodraw ?_; refine ⟨_, by (simp [*, F54, F27, F70, F73, F47, F74, F56, F59, F75, F76, F62, F48, hasF_fold, tkR_fold, tk0_fold, tk1_fold, tkM_fold, tk2_fold, tk3_fold, tk4_fold, tk5_fold, tk6_fold, tk5_window, tk7_fold, tk8_fold, tk9_fold, flg]; exact Is.mk), ?_⟩)
    | (refine tri_step (id := 11) (C := ⟨[3], [70, 47, 74, 59, 76, 62], [(3, (4, 0, 0)), (4, (5, 0, 0)), (14, (4, 0, 0)), (19, (0, 1, 0)), (26, (0, 1, 0)), (33, (0, 1, 0)), (41, (0, 1, 0)), (43, (4, 0, 0)), (103, (0, 1, 0)), (105, (4, 0, 0)), (107, (4, 0, 0)), (109, (4, 0, 0)), (116, (0, 1, 0))]⟩) [0, 3, 4] [(0, 1, 0), (5, 0, 0)] g50 nodraw ?_; refine ⟨_, by (simp [*, F54, F27, F70, F73, F47, F74, F56, F59, F75, F76, F62, F48, hasF_fold, tkR_fold, tk0_fold, tk1_fold, tkM_fold, tk2_fold, tk3_fold, tk4_fold, tk5_fold, tk6_fold, tk5_window, tk7_fold, tk8_fold, tk9_fold, flg]; exact Is.mk), ?_⟩)
    | (refine tri_step (id := 12) (C := ⟨[3], [70, 47, 74, 59, 76, 62], [(3, (4, 0, 0)), (4, (5, 0, 0)), (14, (4, 0, 0)), (19, (0, 1, 0)), (26, (0, 1, 0)), (33, (0, 1, 0)), (41, (0, 1, 0)), (43, (4, 0, 0)), (103, (0, 1, 0)), (105, (4, 0, 0)), (107, (4, 0, 0)), (109, (4, 0, 0)), (116, (0, 1, 0))]⟩) [0, 3, 4, 74] [(0, 1, 0), (5, 0, 0)] g50 nodraw ?_; refine ⟨_, by (simp [*, F54, F27, F70, F73, F47, F74, F56, F59, F75, F76, F62, F48, hasF_fold, tkR_fold, tk0_fold, tk1_fold, tkM_fold, tk2_fold, tk3_fold, tk4_fold, tk5_fold, tk6_fold, tk5_window, tk7_fold, tk8_fold, tk9_fold, flg]; exact Is.mk), ?_⟩)
    | (refine tri_last (id := 13) (C := ⟨[3], [70, 47, 74, 59, 76, 62], [(3, (4, 0, 0)), (4, (5, 0, 0)), (14, (4, 0, 0)), (19, (0, 1, 0)), (26, (0, 1, 0)), (33, (0, 1, 0)), (41, (0, 1, 0)), (43, (4, 0, 0)), (103, (0, 1, 0)), (105, (4, 0, 0)), (107, (4, 0, 0)), (109, (4, 0, 0)), (116, (0, 1, 0))]⟩) [0, 3, 4] [(0, 1, 0), (5, 0, 0)] g50 nodraw ?_; refine ⟨_, by (simp [*, F54, F27, F70, F73, F47, F74, F56, F59, F75, F76, F62, F48, hasF_fold, tkR_fold, tk0_fold, tk1_fold, tkM_fold, tk2_fold, tk3_fold, tk4_fold, tk5_fold, tk6_fold, tk5_window, tk7_fold, tk8_fold, tk9_fold, flg]; exact Is.mk), ?_⟩)
    | (refine tri_step (id := 14) (C := ⟨[3], [70, 47, 74, 59, 76, 62], [(3, (4, 0, 0)), (4, (5, 0, 0)), (14, (4, 0, 0)), (19, (0, 1, 0)), (26, (0, 1, 0)), (33, (0, 1, 0)), (41, (0, 1, 0)), (43, (4, 0, 0)), (103, (0, 1, 0)), (105, (4, 0, 0)), (107, (4, 0, 0)), (109, (4, 0, 0)), (116, (0, 1, 0))]⟩) [0, 3, 81] [(0, 1, 0)] g50 nodraw ?_; refine ⟨_, by (simp [*, F54, F27, F70, F73, F47, F74, F56, F59, F75, F76, F62, F48, hasF_fold, tkR_fold, tk0_fold, tk1_fold, tkM_fold, tk2_fold, tk3_fold, tk4_fold, tk5_fold, tk6_fold, tk5_window, tk7_fold, tk8_fold, tk9_fold, flg]; exact Is.mk), ?_⟩)
    | (refine tri_step (id := 15) (C := ⟨[3], [70, 47, 74, 59, 76, 62], [(3, (4, 0, 0)), (4, (5, 0, 0)), (14, (4, 0, 0)), (19, (0, 1, 0)), (26, (0, 1, 0)), (33, (0, 1, 0)), (41, (0, 1, 0)), (43, (4, 0, 0)), (103, (0, 1, 0)), (105, (4, 0, 0)), (107, (4, 0, 0)), (109, (4, 0, 0)), (116, (0, 1, 0))]⟩) [0, 3] [(0, 1, 0)] g50 nodraw ?_; refine ⟨_, by (simp [*, F54, F27, F70, F73, F47, F74, F56, F59, F75, F76, F62, F48, hasF_fold, tkR_fold, tk0_fold, tk1_fold, tkM_fold, tk2_fold, tk3_fold, tk4_fold, tk5_fold, tk6_fold, tk5_window, tk7_fold, tk8_fold, tk9_fold, flg]; exact Is.mk), ?_⟩)
    | (refine tri_step (id := 16) (C := ⟨[3], [70, 47, 74, 59, 76, 62], [(3, (4, 0, 0)), (4, (5, 0, 0)), (14, (4, 0, 0)), (19, (0, 1, 0)), (26, (0, 1, 0)), (33, (0, 1, 0)), (41, (0, 1, 0)), (43, (4, 0, 0)), (103, (0, 1, 0)), (105, (4, 0, 0)), (107, (4, 0, 0)), (109, (4, 0, 0)), (116, (0, 1, 0))]⟩) [0, 3, 94] [(0, 1, 0)] g50 nodraw ?_; refine ⟨_, by (simp [*, F54, F27, F70, F73, F47, F74, F56, F59, F75, F76, F62, F48, hasF_fold, tkR_fold, tk0_fold, tk1_fold, tkM_fold, tk2_fold, tk3_fold, tk4_fold, tk5_fold, tk6_fold, tk5_window, tk7_fold, tk8_fold, tk9_fold, flg]; exact Is.mk), ?_⟩)
    | (refine tri_last (id := 17) (C := ⟨[3], [70, 47, 74, 59, 76, 62], [(3, (4, 0, 0)), (4, (5, 0, 0)), (14, (4, 0, 0)), (19, (0, 1, 0)), (26, (0, 1, 0)), (33, (0, 1, 0)), (41, (0, 1, 0)), (43, (4, 0, 0)), (103, (0, 1, 0)), (105, (4, 0, 0)), (107, (4, 0, 0)), (109, (4, 0, 0)), (116, (0, 1, 0))]⟩) [0, 3] [(0, 1, 0)] g50 nodraw ?_; refine ⟨_, by (simp [*, F54, F27, F70, F73, F47, F74, F56, F59, F75, F76, F62, F48, hasF_fold, tkR_fold, tk0_fold, tk1_fold, tkM_fold, tk2_fold, tk3_fold, tk4_fold, tk5_fold, tk6_fold, tk5_window, tk7_fold, tk8_fold, tk9_fold, flg]; exact Is.mk), ?_⟩)
    | (refine tri_step (id := 18) (C := ⟨[3], [70, 47, 74, 59, 76, 62], [(3, (4, 0, 0)), (4, (5, 0, 0)), (14, (4, 0, 0)), (19, (0, 1, 0)), (26, (0, 1, 0)), (33, (0, 1, 0)), (41, (0, 1, 0)), (43, (4, 0, 0)), (103, (0, 1, 0)), (105, (4, 0, 0)), (107, (4, 0, 0)), (109, (4, 0, 0)), (116, (0, 1, 0))]⟩) [0, 3] [(0, 1, 0)] g50 (fun _ => ⟨q_mixed, by kernel_rfl⟩) ?_; refine ⟨_, by (simp [*, F54, F27, F70, F73, F47, F74, F56, F59, F75, F76, F62, F48, hasF_fold, tkR_fold, tk0_fold, tk1_fold, tkM_fold, tk2_fold, tk3_fold, tk4_fold, tk5_fold, tk6_fold, tk5_window, tk7_fold, tk8_fold, tk9_fold, flg]; exact Is.mk), ?_⟩)
    | (refine tri_step (id := 19) (C := ⟨[3], [70, 47, 74, 59, 76, 62], [(3, (4, 0, 0)), (4, (5, 0, 0)), (14, (4, 0, 0)), (19, (0, 1, 0)), (26, (0, 1, 0)), (33, (0, 1, 0)), (41, (0, 1, 0)), (43, (4, 0, 0)), (103, (0, 1, 0)), (105, (4, 0, 0)), (107, (4, 0, 0)), (109, (4, 0, 0)), (116, (0, 1, 0))]⟩) [0, 3] [(0, 1, 0)] g50 nodraw ?_; refine ⟨_, by (simp [*, F54, F27, F70, F73, F47, F74, F56, F59, F75, F76, F62, F48, hasF_fold, tkR_fold, tk0_fold, tk1_fold, tkM_fold, tk2_fold, tk3_fold, tk4_fold, tk5_fold, tk6_fold, tk5_window, tk7_fold, tk8_fold, tk9_fold, flg]; exact Is.mk), ?_⟩)
    | (refine tri_step (id := 20) (C := ⟨[3], [70, 47, 74, 59, 76, 62], [(3, (4, 0, 0)), (4, (5, 0, 0)), (14, (4, 0, 0)), (19, (0, 1, 0)), (26, (0, 1, 0)), (33, (0, 1, 0)), (41, (0, 1, 0)), (43, (4, 0, 0)), (103, (0, 1, 0)), (105, (4, 0, 0)), (107, (4, 0, 0)), (109, (4, 0, 0)), (116, (0, 1, 0))]⟩) [0, 3, 7] [(0, 1, 0)] g50 nodraw ?_; refine ⟨_, by (simp [*, F54, F27, F70, F73, F47, F74, F56, F59, F75, F76, F62, F48, hasF_fold, tkR_fold, tk0_fold, tk1_fold, tkM_fold, tk2_fold, tk3_fold, tk4_fold, tk5_fold, tk6_fold, tk5_window, tk7_fold, tk8_fold, tk9_fold, flg]; exact Is.mk), ?_⟩)
    | (refine tri_step (id := 21) (C := ⟨[3], [70, 47, 74, 59, 76, 62], [(3, (4, 0, 0)), (4, (5, 0, 0)), (14, (4, 0, 0)), (19, (0, 1, 0)), (26, (0, 1, 0)), (33, (0, 1, 0)), (41, (0, 1, 0)), (43, (4, 0, 0)), (103, (0, 1, 0)), (105, (4, 0, 0)), (107, (4, 0, 0)), (109, (4, 0, 0)), (116, (0, 1, 0))]⟩) [0, 3, 7] [(0, 1, 0)] g50 nodraw ?_; refine ⟨_, by (simp [*, F54, F27, F70, F73, F47, F74, F56, F59, F75, F76, F62, F48, hasF_fold, tkR_fold, tk0_fold, tk1_fold, tkM_fold, tk2_fold, tk3_fold, tk4_fold, tk5_fold, tk6_fold, tk5_window, tk7_fold, tk8_fold, tk9_fold, flg]; exact Is.mk), ?_⟩)
    | (refine tri_stepG (id := 22) (C := ⟨[3], [70, 47, 74, 59, 76, 62], [(3, (4, 0, 0)), (4, (5, 0, 0)), (14, (4, 0, 0)), (19, (0, 1, 0)), (26, (0, 1, 0)), (33, (0, 1, 0)), (41, (0, 1, 0)), (43, (4, 0, 0)), (103, (0, 1, 0)), (105, (4, 0, 0)), (107, (4, 0, 0)), (109, (4, 0, 0)), (116, (0, 1, 0))]⟩) [0, 137] [(0, 1, 0)] g50 nodraw ?_; refine ⟨_, (run_split 0 8 133 (by simp [*, F54, F27, F70, F73, F47, F74, F56, F59, F75, F76, F62, F48, hasF_fold, tkR_fold, tk0_fold, tk1_fold, tkM_fold, tk2_fold, tk3_fold, tk4_fold, tk5_fold, tk6_fold, tk5_window, tk7_fold, tk8_fold, tk9_fold, flg]; exact Is.mk) (by simp; exact IsB.mk) (by simp [*, F54, F27, F70, F73, F47, F74, F56, F59, F75, F76, F62, F48, hasF_fold, tkR_fold, tk0_fold, tk1_fold, tkM_fold, tk2_fold, tk3_fold, tk4_fold, tk5_fold, tk6_fold, tk5_window, tk7_fold, tk8_fold, tk9_fold, flg]; exact IsK.mk) (by simp [*, F54, F27, F70, F73, F47, F74, F56, F59, F75, F76, F62, F48, hasF_fold, tkR_fold, tk0_fold, tk1_fold, tkM_fold, tk2_fold, tk3_fold, tk4_fold, tk5_fold, tk6_fold, tk5_window, tk7_fold, tk8_fold, tk9_fold, flg]; exact IsK.mk) (by simp; exact IsK.mk)), ?_⟩)
    | (refine tri_last (id := 23) (C := ⟨[3], [70, 47, 74, 59, 76, 62], [(3, (4, 0, 0)), (4, (5, 0, 0)), (14, (4, 0, 0)), (19, (0, 1, 0)), (26, (0, 1, 0)), (33, (0, 1, 0)), (41, (0, 1, 0)), (43, (4, 0, 0)), (103, (0, 1, 0)), (105, (4, 0, 0)), (107, (4, 0, 0)), (109, (4, 0, 0)), (116, (0, 1, 0))]⟩) [] [(0, 1, 0)] g50 nodraw ?_; refine ⟨_, by (simp [*, F54, F27, F70, F73, F47, F74, F56, F59, F75, F76, F62, F48, hasF_fold, tkR_fold, tk0_fold, tk1_fold, tkM_fold, tk2_fold, tk3_fold, tk4_fold, tk5_fold, tk6_fold, tk5_window, tk7_fold, tk8_fold, tk9_fold, flg]; exact Is.mk), ?_⟩)
    | (apply tri_iteTo (c := .tmp 13) [0, 3] [(0, 1, 0)] (by simp; exact IsB.mk))
    | (refine tri_cond (c := .tmp 22) (b_true (by simp; exact IsB.mk)) (fun hc => ?_) (fun hc => ?_))
    | (refine tri_cond (c := .tmp 50) (b_true (by simp; exact IsB.mk)) (fun hc => ?_) (fun hc => ?_))
    | (apply tri_iteTo (c := .tmp 59) [0, 3, 4] [(0, 1, 0), (5, 0, 0)] (by simp; exact IsB.mk))
    | (apply tri_iteTo (c := .tmp 74) [0, 3, 4] [(0, 1, 0), (5, 0, 0)] (by simp; exact IsB.mk))
    | (apply tri_iteTo (c := .tmp 81) [0, 3] [(0, 1, 0)] (by simp; exact IsB.mk))
    | (apply tri_iteTo (c := .tmp 94) [0, 3] [(0, 1, 0)] (by simp; exact IsB.mk))
    | (apply tri_iteTo (c := .tmp 137) [] [(0, 1, 0)] (by simp; exact IsB.mk))
    | (refine to_mk (by simp; exact IsK.mk))
    | (refine fun (hi : (_ : Bool) = _) => ?_)
    | ((simp; exact IsK.mk))
    | (refine tri_seq ?_)
    ))
  all_goals (refine post_obj [((0, 1, 38), _)] ⟨rfl, trivial⟩ _ rfl rfl (by simp) rfl (epCells_coE _ _ _ _ _ _ _ _ ⟨rfl, rfl⟩ ?_))
  all_goals (first | rfl | (simp [takesB, takesC]; done) | (simp [*, takesB, takesC]; done) | (simp_all [takesB, takesC]; done) | (simp [takesB, takesC] <;> (repeat' split) <;> simp_all; done) | (simp [takesB, takesC] <;> (repeat' split) <;> simp_all <;> grind) | (simp at hc; simp [*, takesB, takesC]; done) | (simp at hc; rw [ht]; simp only [takesB, takesC, hc, if_true, Int.ofNat_inj]; done) | trace_state)
open Classical in
noncomputable def F50 : Fn1
  | [x0, x1] => ((dR x0).bind (wholeC pEp)).bind fun e => (whole pSeg x1).bind fun s => if takesPre e s then some ((.tup []), (some (epCells (takes e s) flg))) else none
  | _ => none
theorem spec50 : Spec1 Try.prog 50 F50 := spec_of fun ys r o h => by
  unfold F50 at h
  split at h
  case h_2 => cases h
  obtain ⟨e, k0, h1⟩ := bind_some h
  obtain ⟨cs0, kk0, j0⟩ := bind_some k0
  have e0 := dR_eq kk0
  subst e0
  obtain ⟨s, k1, h2⟩ := bind_some h1
  obtain ⟨hpre, hz⟩ := ite_some h2
  cases hz
  exact ⟨_, at50 e s hpre, rfl, le_ref (fun s s2 hG => wholeC_coR pEp_snd j0 s s2 hG) ⟨whole_co pSeg_snd k1, trivial⟩⟩
theorem en50 : Enters Try.prog 50 := enters_of Try.func50 (by kernel_rfl) (by kernel_rfl)

end Go.Proofs.Ytkjodjaamjnejaa

-- Printed by genwalk.py.
namespace Go.Proofs.Ytkjodjaamjnejaa
open Go Go.RowKit Caw
set_option linter.unusedSimpArgs false
set_option linter.unusedVariables false
set_option maxRecDepth 100000

-- caravel/tcb.at
theorem g42 : GOk1 Try.prog (ctxOf [(22, F22)]) := gok_cons spec22 en22 (gok_nil)
set_option maxHeartbeats 400000 in
theorem at42 (c : Caw.Conn) (now : Int) (hpre : c.sm) : SpecAt Try.prog 42 [.agg (connCells c), .v (.int .u64 now)] (.ref (epCells ⟨c, now, []⟩ flg)) none := by
  all_goals refine specAt_of_tri Try.func42 rfl (Nat.le_of_ble_eq_true rfl) ?_
  all_goals (repeat' (first
    | (refine tri_ret ?_)
    | (refine tri_step (id := 0) (C := ⟨[2], [], []⟩) [1, 2] [] g42 nodraw ?_; refine ⟨_, by (simp [*, F22, flg]; exact Is.mk), ?_⟩)
    | (refine tri_step (id := 1) (C := ⟨[2], [], []⟩) [4] [(10, 0, 0)] g42 nodraw ?_; refine ⟨_, by (simp [*, F22, flg]; exact Is.mk), ?_⟩)
    ))
  all_goals (refine post_new [] trivial (10,0,0) (by simp) rfl (by simp [epCells, connCells, clockCells, sendCells, recvCells, addrCells, flg]; done))
open Classical in
noncomputable def F42 : Fn1
  | [x0, x1] => (whole pConn x0).bind fun c => (dI .u64 x1).bind fun now => if c.sm then some ((.ref (epCells ⟨c, now, []⟩ flg)), none) else none
  | _ => none
theorem spec42 : Spec1 Try.prog 42 F42 := spec_of fun ys r o h => by
  unfold F42 at h
  split at h
  case h_2 => cases h
  obtain ⟨c, k0, h1⟩ := bind_some h
  obtain ⟨now, k1, h2⟩ := bind_some h1
  obtain ⟨hpre, hz⟩ := ite_some h2
  cases hz
  exact ⟨_, at42 c now hpre, rfl, le_plain ⟨whole_co pConn_snd k0, ⟨dI_co k1, trivial⟩⟩ (by simp only [List.all_cons, List.all_nil, Bool.not_false, Bool.and_self, notRefB (whole_co pConn_snd k0) rfl (by simp), notRefB (dI_co k1) rfl (by simp)]) rfl⟩
theorem en42 : Enters Try.prog 42 := enters_of Try.func42 (by kernel_rfl) (by kernel_rfl)

-- caravel/tcb.begin
theorem g66 : GOk1 Try.prog (ctxOf [(81, F81), (42, F42), (54, F54), (82, F82), (59, F59)]) := gok_cons spec81 en81 (gok_cons spec42 en42 (gok_cons spec54 en54 (gok_cons spec82 en82 (gok_cons spec59 en59 (gok_nil)))))
set_option maxHeartbeats 400000 in
theorem at66 (ph : Int) (self : Caw.Addr) (peer : Caw.Addr) (first : Int) (now : Int) : SpecAt Try.prog 66 [.v (.int .i64 ph), .agg (addrCells self), .agg (addrCells peer), .v (.int .u32 first), .v (.int .u64 now)] (.ref (epCells (epBegin ph self peer first now) flg)) none := by
  all_goals refine specAt_of_tri Try.func66 rfl (Nat.le_of_ble_eq_true rfl) ?_
  all_goals (repeat' (first
    | (refine tri_ret ?_)
    | (refine tri_step (id := 0) (C := ⟨[6, 7], [59], [(6, (7, 0, 0)), (7, (8, 0, 0))]⟩) [0, 3, 4, 6, 7] [] g66 nodraw ?_; refine ⟨_, by (simp [*, F81, F42, F54, F82, F59, Conn.sm, Send.sm, Recv.sm, pConn, pAddr, pSend, pRecv, pClock, addrCells, clockCells, flg]; exact Is.mk), ?_⟩)
    | (refine tri_step (id := 1) (C := ⟨[6, 7], [59], [(6, (7, 0, 0)), (7, (8, 0, 0))]⟩) [3, 4, 11] [(20, 0, 0)] g66 (fun _ => ⟨q_mixed, by kernel_rfl⟩) ?_; refine ⟨_, by (simp [*, F81, F42, F54, F82, F59, Conn.sm, Send.sm, Recv.sm, pConn, pAddr, pSend, pRecv, pClock, addrCells, clockCells, flg]; exact Is.mk), ?_⟩)
    | (refine tri_step (id := 2) (C := ⟨[6, 7], [59], [(6, (7, 0, 0)), (7, (8, 0, 0))]⟩) [3, 4, 11] [(20, 0, 0)] g66 nodraw ?_; refine ⟨_, by (simp [*, F81, F42, F54, F82, F59, Conn.sm, Send.sm, Recv.sm, pConn, pAddr, pSend, pRecv, pClock, addrCells, clockCells, flg]; exact Is.mk), ?_⟩)
    | (refine tri_step (id := 3) (C := ⟨[6, 7], [59], [(6, (7, 0, 0)), (7, (8, 0, 0))]⟩) [11] [(20, 0, 0)] g66 nodraw ?_; refine ⟨_, by (simp [*, F81, F42, F54, F82, F59, Conn.sm, Send.sm, Recv.sm, pConn, pAddr, pSend, pRecv, pClock, addrCells, clockCells, flg]; exact Is.mk), ?_⟩)
    | (refine tri_step (id := 4) (C := ⟨[6, 7], [59], [(6, (7, 0, 0)), (7, (8, 0, 0))]⟩) [11] [(20, 0, 0)] g66 nodraw ?_; refine ⟨_, by (simp [*, F81, F42, F54, F82, F59, Conn.sm, Send.sm, Recv.sm, pConn, pAddr, pSend, pRecv, pClock, addrCells, clockCells, flg]; exact Is.mk), ?_⟩)
    | (refine tri_step (id := 5) (C := ⟨[6, 7], [59], [(6, (7, 0, 0)), (7, (8, 0, 0))]⟩) [10] [(20, 0, 0)] g66 nodraw ?_; refine ⟨_, by (simp [*, F81, F42, F54, F82, F59, Conn.sm, Send.sm, Recv.sm, pConn, pAddr, pSend, pRecv, pClock, addrCells, clockCells, flg]; exact Is.mk), ?_⟩)
    ))
  all_goals (refine post_new [((0,0,38), _)] ⟨rfl, trivial⟩ (20,0,0) (by simp) rfl (epCells_coE _ _ _ _ _ _ _ _ ⟨rfl, rfl⟩ ?_))
  all_goals (first | rfl | (simp [epBegin, epArm]; done) | (simp [*, epBegin, epArm]; done) | trace_state)
noncomputable def F66 : Fn1
  | [x0, x1, x2, x3, x4] => (dI .i64 x0).bind fun ph => (whole pAddr x1).bind fun self => (whole pAddr x2).bind fun peer => (dI .u32 x3).bind fun first => (dI .u64 x4).bind fun now => some ((.ref (epCells (epBegin ph self peer first now) flg)), none)
  | _ => none
theorem spec66 : Spec1 Try.prog 66 F66 := spec_of fun ys r o h => by
  unfold F66 at h
  split at h
  case h_2 => cases h
  obtain ⟨ph, k0, h1⟩ := bind_some h
  obtain ⟨self, k1, h2⟩ := bind_some h1
  obtain ⟨peer, k2, h3⟩ := bind_some h2
  obtain ⟨first, k3, h4⟩ := bind_some h3
  obtain ⟨now, k4, h5⟩ := bind_some h4
  cases h5
  exact ⟨_, at66 ph self peer first now, rfl, le_plain ⟨dI_co k0, ⟨whole_co pAddr_snd k1, ⟨whole_co pAddr_snd k2, ⟨dI_co k3, ⟨dI_co k4, trivial⟩⟩⟩⟩⟩ (by simp only [List.all_cons, List.all_nil, Bool.not_false, Bool.and_self, notRefB (dI_co k0) rfl (by simp), notRefB (whole_co pAddr_snd k1) rfl (by simp), notRefB (whole_co pAddr_snd k2) rfl (by simp), notRefB (dI_co k3) rfl (by simp), notRefB (dI_co k4) rfl (by simp)]) rfl⟩
theorem en66 : Enters Try.prog 66 := enters_of Try.func66 (by kernel_rfl) (by kernel_rfl)

end Go.Proofs.Ytkjodjaamjnejaa

-- Printed by genwalk.py.
namespace Go.Proofs.Ytkjodjaamjnejaa
open Go Go.RowKit Caw
set_option linter.unusedSimpArgs false
set_option linter.unusedVariables false
set_option maxRecDepth 100000

-- (*caravel/tcb.end).late
theorem g49 : GOk1 Try.prog (ctxOf [(45, F45), (71, F71), (50, F50), (48, F48), (47, F47)]) := gok_cons spec45 en45 (gok_cons spec71 en71 (gok_cons spec50 en50 (gok_cons spec48 en48 (gok_cons spec47 en47 (gok_nil)))))
set_option maxHeartbeats 2000000 in
theorem at49 (e : Caw.Ep) (s : Caw.Seg) (hpre : takesPre e (bare s)) : SpecAt Try.prog 49 [.ref (epCells e flg), .agg (segCells s)] (.tup []) (some (epCells (late e s) flg)) := by
  have hp := late_facts hpre
  all_goals refine specAt_of_tri Try.func49 rfl (Nat.le_of_ble_eq_true rfl) ?_
  all_goals (repeat' (first
    | (refine tri_skip ?_)
    | (refine th_n ?_)
    | (refine tri_step (id := 0) (C := ⟨[3], [50, 47], [(8, (0, 1, 0)), (13, (4, 0, 0)), (19, (4, 0, 0)), (25, (0, 1, 0)), (30, (4, 0, 0)), (33, (5, 0, 0)), (34, (5, 0, 0))]⟩) [0, 3] [(0, 1, 0)] g49 nodraw ?_; refine ⟨_, by (simp [*, F45, F71, F50, F48, F47, hasF_fold, segCells, pSeg, bare_fold, lateB_fold, flg]; exact Is.mk), ?_⟩)
    | (refine tri_stepG (id := 1) (C := ⟨[3], [50, 47], [(8, (0, 1, 0)), (13, (4, 0, 0)), (19, (4, 0, 0)), (25, (0, 1, 0)), (30, (4, 0, 0)), (33, (5, 0, 0)), (34, (5, 0, 0))]⟩) [0, 3, 28] [(0, 1, 0)] g49 (fun _ => ⟨q_mixed, by kernel_rfl⟩) ?_; refine ⟨_, (run_split 0 8 12 (by simp [*, F45, F71, F50, F48, F47, hasF_fold, segCells, pSeg, bare_fold, lateB_fold, flg]; exact Is.mk) (by simp; exact IsB.mk) (run_split 8 6 18 (by simp [*, F45, F71, F50, F48, F47, hasF_fold, segCells, pSeg, bare_fold, lateB_fold, flg]; exact Is.mk) (by simp; exact IsB.mk) (by simp [*, F45, F71, F50, F48, F47, hasF_fold, segCells, pSeg, bare_fold, lateB_fold, flg]; exact IsK.mk) (by simp [*, F45, F71, F50, F48, F47, hasF_fold, segCells, pSeg, bare_fold, lateB_fold, flg]; exact IsK.mk) (by simp; exact IsK.mk)) (run_split 8 6 18 (by simp [*, F45, F71, F50, F48, F47, hasF_fold, segCells, pSeg, bare_fold, lateB_fold, flg]; exact Is.mk) (by simp; exact IsB.mk) (by simp [*, F45, F71, F50, F48, F47, hasF_fold, segCells, pSeg, bare_fold, lateB_fold, flg]; exact IsK.mk) (by simp [*, F45, F71, F50, F48, F47, hasF_fold, segCells, pSeg, bare_fold, lateB_fold, flg]; exact IsK.mk) (by simp; exact IsK.mk)) (by simp; exact IsK.mk)), ?_⟩)
    | (refine tri_step (id := 2) (C := ⟨[3], [50, 47], [(8, (0, 1, 0)), (13, (4, 0, 0)), (19, (4, 0, 0)), (25, (0, 1, 0)), (30, (4, 0, 0)), (33, (5, 0, 0)), (34, (5, 0, 0))]⟩) [0, 3, 4] [(0, 1, 0), (5, 0, 0)] g49 nodraw ?_; refine ⟨_, by (simp [*, F45, F71, F50, F48, F47, hasF_fold, segCells, pSeg, bare_fold, lateB_fold, flg]; exact Is.mk), ?_⟩)
    | (refine tri_step (id := 3) (C := ⟨[3], [50, 47], [(8, (0, 1, 0)), (13, (4, 0, 0)), (19, (4, 0, 0)), (25, (0, 1, 0)), (30, (4, 0, 0)), (33, (5, 0, 0)), (34, (5, 0, 0))]⟩) [0, 3, 4] [(0, 1, 0), (5, 0, 0)] g49 (fun _ => ⟨q_mixed, by kernel_rfl⟩) ?_; refine ⟨_, by (simp [*, F45, F71, F50, F48, F47, hasF_fold, segCells, pSeg, bare_fold, lateB_fold, flg]; exact Is.mk), ?_⟩)
    | (refine tri_last (id := 4) (C := ⟨[3], [50, 47], [(8, (0, 1, 0)), (13, (4, 0, 0)), (19, (4, 0, 0)), (25, (0, 1, 0)), (30, (4, 0, 0)), (33, (5, 0, 0)), (34, (5, 0, 0))]⟩) [0, 3] [(0, 1, 0)] g49 nodraw ?_; refine ⟨_, by (simp [*, F45, F71, F50, F48, F47, hasF_fold, segCells, pSeg, bare_fold, lateB_fold, flg]; exact Is.mk), ?_⟩)
    | (refine tri_stepG (id := 5) (C := ⟨[3], [50, 47], [(8, (0, 1, 0)), (13, (4, 0, 0)), (19, (4, 0, 0)), (25, (0, 1, 0)), (30, (4, 0, 0)), (33, (5, 0, 0)), (34, (5, 0, 0))]⟩) [0, 48] [(0, 1, 0)] g49 nodraw ?_; refine ⟨_, (run_split 0 4 41 (by simp [*, F45, F71, F50, F48, F47, hasF_fold, segCells, pSeg, bare_fold, lateB_fold, flg]; exact Is.mk) (by simp; exact IsB.mk) (by simp [*, F45, F71, F50, F48, F47, hasF_fold, segCells, pSeg, bare_fold, lateB_fold, flg]; exact IsK.mk) (by simp [*, F45, F71, F50, F48, F47, hasF_fold, segCells, pSeg, bare_fold, lateB_fold, flg]; exact IsK.mk) (by simp; exact IsK.mk)), ?_⟩)
    | (refine tri_last (id := 6) (C := ⟨[3], [50, 47], [(8, (0, 1, 0)), (13, (4, 0, 0)), (19, (4, 0, 0)), (25, (0, 1, 0)), (30, (4, 0, 0)), (33, (5, 0, 0)), (34, (5, 0, 0))]⟩) [] [(0, 1, 0)] g49 nodraw ?_; refine ⟨_, by (simp [*, F45, F71, F50, F48, F47, hasF_fold, segCells, pSeg, bare_fold, lateB_fold, flg]; exact Is.mk), ?_⟩)
    | (apply tri_iteTo (c := .tmp 28) [0, 3] [(0, 1, 0)] (by simp; exact IsB.mk))
    | (apply tri_iteTo (c := .tmp 48) [] [(0, 1, 0)] (by simp; exact IsB.mk))
    | (refine to_mk (by simp; exact IsK.mk))
    | (refine imp_ ?_)
    | ((simp; exact IsK.mk))
    | (refine tri_seq ?_)
    ))
  all_goals (refine post_obj [((0, 1, 38), _)] ⟨rfl, trivial⟩ _ rfl rfl (by simp) rfl (epCells_coE _ _ _ _ _ _ _ _ ⟨rfl, rfl⟩ ?_))
  all_goals (first | rfl | (simp [late]; done) | (simp [*, late]; done) | (simp_all [late]; done) | (simp [late] <;> (repeat' split) <;> simp_all; done) | (simp [late] <;> (repeat' split) <;> simp_all <;> grind) | (simp at hc; simp [*, late]; done) | trace_state)
open Classical in
noncomputable def F49 : Fn1
  | [x0, x1] => ((dR x0).bind (wholeC pEp)).bind fun e => (whole pSeg x1).bind fun s => if takesPre e (bare s) then some ((.tup []), (some (epCells (late e s) flg))) else none
  | _ => none
theorem spec49 : Spec1 Try.prog 49 F49 := spec_of fun ys r o h => by
  unfold F49 at h
  split at h
  case h_2 => cases h
  obtain ⟨e, k0, h1⟩ := bind_some h
  obtain ⟨cs0, kk0, j0⟩ := bind_some k0
  have e0 := dR_eq kk0
  subst e0
  obtain ⟨s, k1, h2⟩ := bind_some h1
  obtain ⟨hpre, hz⟩ := ite_some h2
  cases hz
  exact ⟨_, at49 e s hpre, rfl, le_ref (fun s s2 hG => wholeC_coR pEp_snd j0 s s2 hG) ⟨whole_co pSeg_snd k1, trivial⟩⟩
theorem en49 : Enters Try.prog 49 := enters_of Try.func49 (by kernel_rfl) (by kernel_rfl)

-- (*caravel/tcb.end).dialling
theorem g43 : GOk1 Try.prog (ctxOf [(54, F54), (57, F57), (27, F27), (68, F68), (70, F70), (47, F47), (62, F62), (67, F67)]) := gok_cons spec54 en54 (gok_cons spec57 en57 (gok_cons spec27 en27 (gok_cons spec68 en68 (gok_cons spec70 en70 (gok_cons spec47 en47 (gok_cons spec62 en62 (gok_cons spec67 en67 (gok_nil))))))))
set_option maxHeartbeats 2000000 in
theorem at43 (e : Caw.Ep) (s : Caw.Seg) (hpre : dialPre e) : SpecAt Try.prog 43 [.ref (epCells e flg), .agg (segCells s)] (.tup []) (some (epCells (epDialling e s) flg)) := by
  obtain ⟨hp1, hp2, hp3, hp4, hp5⟩ := dial_facts s hpre
  have hf := rm_fit hp1
  all_goals refine specAt_of_tri Try.func43 rfl (Nat.le_of_ble_eq_true rfl) ?_
  all_goals (repeat' (first
    | (refine tri_skip ?_)
    | (refine in_n ?_)
    | (refine tri_block ?_)
    | (refine tri_step (id := 0) (C := ⟨[3], [57, 68, 70, 47, 62, 67], [(3, (4, 0, 0)), (5, (4, 0, 0)), (10, (4, 0, 0)), (15, (0, 1, 0)), (40, (0, 1, 0)), (47, (0, 1, 0))]⟩) [0, 3] [(0, 1, 0)] g43 nodraw ?_; refine ⟨_, by (simp [*, F54, F57, F27, F68, F70, F47, F62, F67, hasF_fold, isMine_fold, flg]; exact Is.mk), ?_⟩)
    | (refine tri_stepG (id := 1) (C := ⟨[3], [57, 68, 70, 47, 62, 67], [(3, (4, 0, 0)), (5, (4, 0, 0)), (10, (4, 0, 0)), (15, (0, 1, 0)), (40, (0, 1, 0)), (47, (0, 1, 0))]⟩) [0, 3, 4] [(0, 1, 0)] g43 (fun _ => ⟨q_mixed, by kernel_rfl⟩) ?_; refine ⟨_, (run_split 0 5 9 (by simp [*, F54, F57, F27, F68, F70, F47, F62, F67, hasF_fold, isMine_fold, flg]; exact Is.mk) (by simp; exact IsB.mk) (by simp [*, F54, F57, F27, F68, F70, F47, F62, F67, hasF_fold, isMine_fold, flg]; exact IsK.mk) (by simp [*, F54, F57, F27, F68, F70, F47, F62, F67, hasF_fold, isMine_fold, flg]; exact IsK.mk) (by simp; exact IsK.mk)), ?_⟩)
    | (refine tri_step (id := 2) (C := ⟨[3], [57, 68, 70, 47, 62, 67], [(3, (4, 0, 0)), (5, (4, 0, 0)), (10, (4, 0, 0)), (15, (0, 1, 0)), (40, (0, 1, 0)), (47, (0, 1, 0))]⟩) [0, 3, 4, 20] [(0, 1, 0)] g43 nodraw ?_; refine ⟨_, by (simp [*, F54, F57, F27, F68, F70, F47, F62, F67, hasF_fold, isMine_fold, flg]; exact Is.mk), ?_⟩)
    | (refine tri_step (id := 3) (C := ⟨[3], [57, 68, 70, 47, 62, 67], [(3, (4, 0, 0)), (5, (4, 0, 0)), (10, (4, 0, 0)), (15, (0, 1, 0)), (40, (0, 1, 0)), (47, (0, 1, 0))]⟩) [0, 25] [(0, 1, 0)] g43 nodraw ?_; refine ⟨_, by (simp [*, F54, F57, F27, F68, F70, F47, F62, F67, hasF_fold, isMine_fold, flg]; exact Is.mk), ?_⟩)
    | (refine tri_last (id := 4) (C := ⟨[3], [57, 68, 70, 47, 62, 67], [(3, (4, 0, 0)), (5, (4, 0, 0)), (10, (4, 0, 0)), (15, (0, 1, 0)), (40, (0, 1, 0)), (47, (0, 1, 0))]⟩) [] [(0, 1, 0)] g43 nodraw ?_; refine ⟨_, by (simp [*, F54, F57, F27, F68, F70, F47, F62, F67, hasF_fold, isMine_fold, flg]; exact Is.mk), ?_⟩)
    | (refine tri_stepG (id := 5) (C := ⟨[3], [57, 68, 70, 47, 62, 67], [(3, (4, 0, 0)), (5, (4, 0, 0)), (10, (4, 0, 0)), (15, (0, 1, 0)), (40, (0, 1, 0)), (47, (0, 1, 0))]⟩) [0, 3, 4, 28] [(0, 1, 0)] g43 nodraw ?_; refine ⟨_, (run_split 0 5 33 (by simp [*, F54, F57, F27, F68, F70, F47, F62, F67, hasF_fold, isMine_fold, flg]; exact Is.mk) (by simp; exact IsB.mk) (by simp [*, F54, F57, F27, F68, F70, F47, F62, F67, hasF_fold, isMine_fold, flg]; exact IsK.mk) (by simp [*, F54, F57, F27, F68, F70, F47, F62, F67, hasF_fold, isMine_fold, flg]; exact IsK.mk) (by simp; exact IsK.mk)), ?_⟩)
    | (refine tri_last (id := 6) (C := ⟨[3], [57, 68, 70, 47, 62, 67], [(3, (4, 0, 0)), (5, (4, 0, 0)), (10, (4, 0, 0)), (15, (0, 1, 0)), (40, (0, 1, 0)), (47, (0, 1, 0))]⟩) [] [(0, 1, 0)] g43 (fun _ => ⟨q_mixed, by kernel_rfl⟩) ?_; refine ⟨_, by (simp [*, F54, F57, F27, F68, F70, F47, F62, F67, hasF_fold, isMine_fold, flg]; exact Is.mk), ?_⟩)
    | (refine tri_stepG (id := 7) (C := ⟨[3], [57, 68, 70, 47, 62, 67], [(3, (4, 0, 0)), (5, (4, 0, 0)), (10, (4, 0, 0)), (15, (0, 1, 0)), (40, (0, 1, 0)), (47, (0, 1, 0))]⟩) [0, 3, 48] [(0, 1, 0)] g43 nodraw ?_; refine ⟨_, (run_split 0 5 53 (by simp [*, F54, F57, F27, F68, F70, F47, F62, F67, hasF_fold, isMine_fold, flg]; exact Is.mk) (by simp; exact IsB.mk) (by simp [*, F54, F57, F27, F68, F70, F47, F62, F67, hasF_fold, isMine_fold, flg]; exact IsK.mk) (by simp [*, F54, F57, F27, F68, F70, F47, F62, F67, hasF_fold, isMine_fold, flg]; exact IsK.mk) (by simp; exact IsK.mk)), ?_⟩)
    | (refine tri_step (id := 8) (C := ⟨[3], [57, 68, 70, 47, 62, 67], [(3, (4, 0, 0)), (5, (4, 0, 0)), (10, (4, 0, 0)), (15, (0, 1, 0)), (40, (0, 1, 0)), (47, (0, 1, 0))]⟩) [0, 3] [(0, 1, 0)] g43 nodraw ?_; refine ⟨_, by (simp [*, F54, F57, F27, F68, F70, F47, F62, F67, hasF_fold, isMine_fold, flg]; exact Is.mk), ?_⟩)
    | (refine tri_step (id := 9) (C := ⟨[3], [57, 68, 70, 47, 62, 67], [(3, (4, 0, 0)), (5, (4, 0, 0)), (10, (4, 0, 0)), (15, (0, 1, 0)), (40, (0, 1, 0)), (47, (0, 1, 0))]⟩) [0] [(0, 1, 0)] g43 nodraw ?_; refine ⟨_, by (simp [*, F54, F57, F27, F68, F70, F47, F62, F67, hasF_fold, isMine_fold, flg]; exact Is.mk), ?_⟩)
    | (refine tri_step (id := 10) (C := ⟨[3], [57, 68, 70, 47, 62, 67], [(3, (4, 0, 0)), (5, (4, 0, 0)), (10, (4, 0, 0)), (15, (0, 1, 0)), (40, (0, 1, 0)), (47, (0, 1, 0))]⟩) [0] [(0, 1, 0)] g43 nodraw ?_; refine ⟨_, by (simp [*, F54, F57, F27, F68, F70, F47, F62, F67, hasF_fold, isMine_fold, flg]; exact Is.mk), ?_⟩)
    | (refine tri_last (id := 11) (C := ⟨[3], [57, 68, 70, 47, 62, 67], [(3, (4, 0, 0)), (5, (4, 0, 0)), (10, (4, 0, 0)), (15, (0, 1, 0)), (40, (0, 1, 0)), (47, (0, 1, 0))]⟩) [] [(0, 1, 0)] g43 nodraw ?_; refine ⟨_, by (simp [*, F54, F57, F27, F68, F70, F47, F62, F67, hasF_fold, isMine_fold, flg]; exact Is.mk), ?_⟩)
    | (refine tri_step (id := 12) (C := ⟨[3], [57, 68, 70, 47, 62, 67], [(3, (4, 0, 0)), (5, (4, 0, 0)), (10, (4, 0, 0)), (15, (0, 1, 0)), (40, (0, 1, 0)), (47, (0, 1, 0))]⟩) [0, 3, 66] [(0, 1, 0)] g43 nodraw ?_; refine ⟨_, by (simp [*, F54, F57, F27, F68, F70, F47, F62, F67, hasF_fold, isMine_fold, flg]; exact Is.mk), ?_⟩)
    | (refine tri_step (id := 13) (C := ⟨[3], [57, 68, 70, 47, 62, 67], [(3, (4, 0, 0)), (5, (4, 0, 0)), (10, (4, 0, 0)), (15, (0, 1, 0)), (40, (0, 1, 0)), (47, (0, 1, 0))]⟩) [0, 3] [(0, 1, 0)] g43 nodraw ?_; refine ⟨_, by (simp [*, F54, F57, F27, F68, F70, F47, F62, F67, hasF_fold, isMine_fold, flg]; exact Is.mk), ?_⟩)
    | (refine tri_step (id := 14) (C := ⟨[3], [57, 68, 70, 47, 62, 67], [(3, (4, 0, 0)), (5, (4, 0, 0)), (10, (4, 0, 0)), (15, (0, 1, 0)), (40, (0, 1, 0)), (47, (0, 1, 0))]⟩) [0] [(0, 1, 0)] g43 nodraw ?_; refine ⟨_, by (simp [*, F54, F57, F27, F68, F70, F47, F62, F67, hasF_fold, isMine_fold, flg]; exact Is.mk), ?_⟩)
    | (refine tri_last (id := 15) (C := ⟨[3], [57, 68, 70, 47, 62, 67], [(3, (4, 0, 0)), (5, (4, 0, 0)), (10, (4, 0, 0)), (15, (0, 1, 0)), (40, (0, 1, 0)), (47, (0, 1, 0))]⟩) [] [(0, 1, 0)] g43 nodraw ?_; refine ⟨_, by (simp [*, F54, F57, F27, F68, F70, F47, F62, F67, hasF_fold, isMine_fold, flg]; exact Is.mk), ?_⟩)
    | (apply tri_iteTo (c := .tmp 20) [] [(0, 1, 0)] (by simp; exact IsB.mk))
    | (apply tri_iteTo (c := .tmp 25) [] [(0, 1, 0)] (by simp; exact IsB.mk))
    | (apply tri_iteTo (c := .tmp 28) [] [(0, 1, 0)] (by simp; exact IsB.mk))
    | (apply tri_iteTo (c := .tmp 48) [] [(0, 1, 0)] (by simp; exact IsB.mk))
    | (apply tri_iteTo (c := .tmp 66) [] [(0, 1, 0)] (by simp; exact IsB.mk))
    | (refine to_mk (by simp; exact IsK.mk))
    | (refine imp_ ?_)
    | ((simp; exact IsK.mk))
    ))
  all_goals (refine post_obj [((0, 1, 38), _)] ⟨rfl, trivial⟩ _ rfl rfl (by simp) rfl (epCells_coE _ _ _ _ _ _ _ _ ⟨rfl, rfl⟩ ?_))
  all_goals (first | rfl | (simp [epDialling]; done) | (simp [*, epDialling]; done) | (simp_all [epDialling]; done) | (simp [epDialling] <;> (repeat' split) <;> simp_all; done) | (simp [epDialling] <;> (repeat' split) <;> simp_all <;> grind) | (simp at hc; simp [*, epDialling]; done) | exact dial_eq e s | trace_state)
open Classical in
noncomputable def F43 : Fn1
  | [x0, x1] => ((dR x0).bind (wholeC pEp)).bind fun e => (whole pSeg x1).bind fun s => if dialPre e then some ((.tup []), (some (epCells (epDialling e s) flg))) else none
  | _ => none
theorem spec43 : Spec1 Try.prog 43 F43 := spec_of fun ys r o h => by
  unfold F43 at h
  split at h
  case h_2 => cases h
  obtain ⟨e, k0, h1⟩ := bind_some h
  obtain ⟨cs0, kk0, j0⟩ := bind_some k0
  have e0 := dR_eq kk0
  subst e0
  obtain ⟨s, k1, h2⟩ := bind_some h1
  obtain ⟨hpre, hz⟩ := ite_some h2
  cases hz
  exact ⟨_, at43 e s hpre, rfl, le_ref (fun s s2 hG => wholeC_coR pEp_snd j0 s s2 hG) ⟨whole_co pSeg_snd k1, trivial⟩⟩
theorem en43 : Enters Try.prog 43 := enters_of Try.func43 (by kernel_rfl) (by kernel_rfl)

end Go.Proofs.Ytkjodjaamjnejaa

-- Printed by genwalk.py.
namespace Go.Proofs.Ytkjodjaamjnejaa
open Go Go.RowKit Caw
set_option linter.unusedSimpArgs false
set_option linter.unusedVariables false
set_option maxRecDepth 100000

-- caravel/tcb.Dial
theorem g35 : GOk1 Try.prog (ctxOf [(66, F66), (67, F67)]) := gok_cons spec66 en66 (gok_cons spec67 en67 (gok_nil))
set_option maxHeartbeats 400000 in
theorem at35 (self : Caw.Addr) (peer : Caw.Addr) (first : Int) (now : Int) : SpecAt Try.prog 35 [.agg (addrCells self), .agg (addrCells peer), .v (.int .u32 first), .v (.int .u64 now)] (.tup [.agg (connCells (epDial self peer first now).conn), .sl 8 (encS segCells (epDial self peer first now).out) none]) none := by
  have h1 : Rm 1 (epBegin 1 self peer first now).out := by unfold Rm; exact Nat.le_of_ble_eq_true rfl
  all_goals refine specAt_of_tri Try.func35 rfl (Nat.le_of_ble_eq_true rfl) ?_
  all_goals (repeat' (first
    | (refine tri_ret ?_)
    | (refine tri_step (id := 0) (C := ⟨[4, 5], [67], [(8, (9, 0, 0)), (20, (16, 0, 0)), (24, (16, 0, 0))]⟩) [2, 3, 4, 5, 8] [(9, 0, 0)] g35 nodraw ?_; refine ⟨_, by (simp [*, F66, F67, flg]; exact Is.mk), ?_⟩)
    | (refine tri_step (id := 1) (C := ⟨[4, 5], [67], [(8, (9, 0, 0)), (20, (16, 0, 0)), (24, (16, 0, 0))]⟩) [8, 10] [(9, 0, 0), (16, 0, 0)] g35 nodraw ?_; refine ⟨_, by (simp [*, F66, F67, flg]; exact Is.mk), ?_⟩)
    | (refine tri_step (id := 2) (C := ⟨[4, 5], [67], [(8, (9, 0, 0)), (20, (16, 0, 0)), (24, (16, 0, 0))]⟩) [8, 10] [(9, 0, 0), (16, 0, 0)] g35 nodraw ?_; refine ⟨_, by (simp [*, F66, F67, flg]; exact Is.mk), ?_⟩)
    | (refine tri_step (id := 3) (C := ⟨[4, 5], [67], [(8, (9, 0, 0)), (20, (16, 0, 0)), (24, (16, 0, 0))]⟩) [8, 9] [(9, 0, 0)] g35 (fun _ => ⟨q_mixed, by kernel_rfl⟩) ?_; refine ⟨_, by (simp [*, F66, F67, flg]; exact Is.mk), ?_⟩)
    ))
  all_goals (refine post_plainV (P := Try.prog) (fn := Try.f35) (by simp; exact IsV.mk) rfl ?_)
  all_goals (first | (simp [epDial]; done) | (simp [*, epDial]; done) | (simp_all [epDial]; done) | (simp [*, epDial] <;> (repeat' split) <;> simp_all; done) | (fail) | (simp [*]; trace_state))
noncomputable def F35 : Fn1
  | [x0, x1, x2, x3] => (whole pAddr x0).bind fun self => (whole pAddr x1).bind fun peer => (dI .u32 x2).bind fun first => (dI .u64 x3).bind fun now => some ((.tup [.agg (connCells (epDial self peer first now).conn), .sl 8 (encS segCells (epDial self peer first now).out) none]), none)
  | _ => none
theorem spec35 : Spec1 Try.prog 35 F35 := spec_of fun ys r o h => by
  unfold F35 at h
  split at h
  case h_2 => cases h
  obtain ⟨self, k0, h1⟩ := bind_some h
  obtain ⟨peer, k1, h2⟩ := bind_some h1
  obtain ⟨first, k2, h3⟩ := bind_some h2
  obtain ⟨now, k3, h4⟩ := bind_some h3
  cases h4
  exact ⟨_, at35 self peer first now, rfl, le_plain ⟨whole_co pAddr_snd k0, ⟨whole_co pAddr_snd k1, ⟨dI_co k2, ⟨dI_co k3, trivial⟩⟩⟩⟩ (by simp only [List.all_cons, List.all_nil, Bool.not_false, Bool.and_self, notRefB (whole_co pAddr_snd k0) rfl (by simp), notRefB (whole_co pAddr_snd k1) rfl (by simp), notRefB (dI_co k2) rfl (by simp), notRefB (dI_co k3) rfl (by simp)]) rfl⟩
theorem en35 : Enters Try.prog 35 := enters_of Try.func35 (by kernel_rfl) (by kernel_rfl)

-- caravel/tcb.Answer
theorem g36 : GOk1 Try.prog (ctxOf [(66, F66), (68, F68), (67, F67)]) := gok_cons spec66 en66 (gok_cons spec68 en68 (gok_cons spec67 en67 (gok_nil)))
set_option maxHeartbeats 400000 in
theorem at36 (self : Caw.Addr) (peer : Caw.Addr) (s : Caw.Seg) (first : Int) (now : Int) : SpecAt Try.prog 36 [.agg (addrCells self), .agg (addrCells peer), .agg (segCells s), .v (.int .u32 first), .v (.int .u64 now)] (.tup [.agg (connCells (epAnswer self peer s first now).conn), .sl 8 (encS segCells (epAnswer self peer s first now).out) none]) none := by
  have h1 : Rm 1 (epMeet (epBegin 2 self peer first now) s).out := by unfold Rm; exact Nat.le_of_ble_eq_true rfl
  all_goals refine specAt_of_tri Try.func36 rfl (Nat.le_of_ble_eq_true rfl) ?_
  all_goals (repeat' (first
    | (refine tri_ret ?_)
    | (refine tri_step (id := 0) (C := ⟨[5, 6, 7], [68, 67], [(10, (11, 0, 0)), (25, (18, 0, 0)), (29, (18, 0, 0))]⟩) [3, 4, 5, 6, 7, 10] [(11, 0, 0)] g36 nodraw ?_; refine ⟨_, by (simp [*, F66, F68, F67, flg]; exact Is.mk), ?_⟩)
    | (refine tri_step (id := 1) (C := ⟨[5, 6, 7], [68, 67], [(10, (11, 0, 0)), (25, (18, 0, 0)), (29, (18, 0, 0))]⟩) [7, 10, 12] [(11, 0, 0), (18, 0, 0)] g36 nodraw ?_; refine ⟨_, by (simp [*, F66, F68, F67, flg]; exact Is.mk), ?_⟩)
    | (refine tri_step (id := 2) (C := ⟨[5, 6, 7], [68, 67], [(10, (11, 0, 0)), (25, (18, 0, 0)), (29, (18, 0, 0))]⟩) [10, 12] [(11, 0, 0), (18, 0, 0)] g36 nodraw ?_; refine ⟨_, by (simp [*, F66, F68, F67, flg]; exact Is.mk), ?_⟩)
    | (refine tri_step (id := 3) (C := ⟨[5, 6, 7], [68, 67], [(10, (11, 0, 0)), (25, (18, 0, 0)), (29, (18, 0, 0))]⟩) [10, 12] [(11, 0, 0), (18, 0, 0)] g36 nodraw ?_; refine ⟨_, by (simp [*, F66, F68, F67, flg]; exact Is.mk), ?_⟩)
    | (refine tri_step (id := 4) (C := ⟨[5, 6, 7], [68, 67], [(10, (11, 0, 0)), (25, (18, 0, 0)), (29, (18, 0, 0))]⟩) [10, 11] [(11, 0, 0)] g36 (fun _ => ⟨q_mixed, by kernel_rfl⟩) ?_; refine ⟨_, by (simp [*, F66, F68, F67, flg]; exact Is.mk), ?_⟩)
    ))
  all_goals (refine post_plainV (P := Try.prog) (fn := Try.f36) (by simp; exact IsV.mk) rfl ?_)
  all_goals (first | (simp [epAnswer]; done) | (simp [*, epAnswer]; done) | (simp_all [epAnswer]; done) | (simp [*, epAnswer] <;> (repeat' split) <;> simp_all; done) | (fail) | (simp [*]; trace_state))
noncomputable def F36 : Fn1
  | [x0, x1, x2, x3, x4] => (whole pAddr x0).bind fun self => (whole pAddr x1).bind fun peer => (whole pSeg x2).bind fun s => (dI .u32 x3).bind fun first => (dI .u64 x4).bind fun now => some ((.tup [.agg (connCells (epAnswer self peer s first now).conn), .sl 8 (encS segCells (epAnswer self peer s first now).out) none]), none)
  | _ => none
theorem spec36 : Spec1 Try.prog 36 F36 := spec_of fun ys r o h => by
  unfold F36 at h
  split at h
  case h_2 => cases h
  obtain ⟨self, k0, h1⟩ := bind_some h
  obtain ⟨peer, k1, h2⟩ := bind_some h1
  obtain ⟨s, k2, h3⟩ := bind_some h2
  obtain ⟨first, k3, h4⟩ := bind_some h3
  obtain ⟨now, k4, h5⟩ := bind_some h4
  cases h5
  exact ⟨_, at36 self peer s first now, rfl, le_plain ⟨whole_co pAddr_snd k0, ⟨whole_co pAddr_snd k1, ⟨whole_co pSeg_snd k2, ⟨dI_co k3, ⟨dI_co k4, trivial⟩⟩⟩⟩⟩ (by simp only [List.all_cons, List.all_nil, Bool.not_false, Bool.and_self, notRefB (whole_co pAddr_snd k0) rfl (by simp), notRefB (whole_co pAddr_snd k1) rfl (by simp), notRefB (whole_co pSeg_snd k2) rfl (by simp), notRefB (dI_co k3) rfl (by simp), notRefB (dI_co k4) rfl (by simp)]) rfl⟩
theorem en36 : Enters Try.prog 36 := enters_of Try.func36 (by kernel_rfl) (by kernel_rfl)

-- caravel/tcb.Hear
theorem g23 : GOk1 Try.prog (ctxOf [(42, F42), (43, F43), (44, F44), (45, F45), (46, F46), (47, F47), (48, F48), (49, F49), (50, F50)]) := gok_cons spec42 en42 (gok_cons spec43 en43 (gok_cons spec44 en44 (gok_cons spec45 en45 (gok_cons spec46 en46 (gok_cons spec47 en47 (gok_cons spec48 en48 (gok_cons spec49 en49 (gok_cons spec50 en50 (gok_nil)))))))))
set_option maxHeartbeats 2000000 in
theorem at23 (c : Caw.Conn) (s : Caw.Seg) (now : Int) (hpre : hearPre c s) : SpecAt Try.prog 23 [.agg (connCells c), .agg (segCells s), .v (.int .u64 now)] (.tup [.agg (connCells (hear c s now).conn), .sl 8 (encS segCells (hear c s now).out) none]) none := by
  obtain ⟨hp1, hp2, hp3⟩ := hear_facts now hpre
  have hp4 := hpre.1
  have hp5 : Rm 1 (Ep.mk c now []).out := by unfold Rm; exact Nat.le_of_ble_eq_true rfl
  all_goals refine specAt_of_tri Try.func23 rfl (Nat.le_of_ble_eq_true rfl) ?_
  all_goals (repeat' (first
    | (refine tri_skip ?_)
    | (refine th_n ?_)
    | (refine in_n ?_)
    | (refine tri_ret ?_)
    | (refine tri_block ?_)
    | (refine tri_step (id := 0) (C := ⟨[3, 4], [43, 46, 47, 49, 50], [(4, (5, 0, 0)), (6, (7, 0, 0)), (28, (5, 0, 0)), (31, (4, 0, 0)), (33, (4, 0, 0)), (47, (5, 0, 0)), (52, (4, 0, 0)), (54, (4, 0, 0)), (72, (12, 0, 0)), (76, (12, 0, 0))]⟩) [2, 3, 4, 6] [(7, 0, 0)] g23 nodraw ?_; refine ⟨_, by (simp [*, F42, F43, F44, F45, F46, F47, F48, F49, F50, hasF_fold, flg]; exact Is.mk), ?_⟩)
    | (refine tri_step (id := 1) (C := ⟨[3, 4], [43, 46, 47, 49, 50], [(4, (5, 0, 0)), (6, (7, 0, 0)), (28, (5, 0, 0)), (31, (4, 0, 0)), (33, (4, 0, 0)), (47, (5, 0, 0)), (52, (4, 0, 0)), (54, (4, 0, 0)), (72, (12, 0, 0)), (76, (12, 0, 0))]⟩) [3, 4, 6, 8] [(7, 0, 0), (12, 0, 0)] g23 nodraw ?_; refine ⟨_, by (simp [*, F42, F43, F44, F45, F46, F47, F48, F49, F50, hasF_fold, flg]; exact Is.mk), ?_⟩)
    | (refine tri_step (id := 2) (C := ⟨[3, 4], [43, 46, 47, 49, 50], [(4, (5, 0, 0)), (6, (7, 0, 0)), (28, (5, 0, 0)), (31, (4, 0, 0)), (33, (4, 0, 0)), (47, (5, 0, 0)), (52, (4, 0, 0)), (54, (4, 0, 0)), (72, (12, 0, 0)), (76, (12, 0, 0))]⟩) [3, 4, 6, 8, 12] [(7, 0, 0), (12, 0, 0)] g23 nodraw ?_; refine ⟨_, by (simp [*, F42, F43, F44, F45, F46, F47, F48, F49, F50, hasF_fold, flg]; exact Is.mk), ?_⟩)
    | (refine tri_step (id := 3) (C := ⟨[3, 4], [43, 46, 47, 49, 50], [(4, (5, 0, 0)), (6, (7, 0, 0)), (28, (5, 0, 0)), (31, (4, 0, 0)), (33, (4, 0, 0)), (47, (5, 0, 0)), (52, (4, 0, 0)), (54, (4, 0, 0)), (72, (12, 0, 0)), (76, (12, 0, 0))]⟩) [3, 4, 6, 8, 16] [(7, 0, 0), (12, 0, 0)] g23 nodraw ?_; refine ⟨_, by (simp [*, F42, F43, F44, F45, F46, F47, F48, F49, F50, hasF_fold, flg]; exact Is.mk), ?_⟩)
    | (refine tri_last (id := 4) (C := ⟨[3, 4], [43, 46, 47, 49, 50], [(4, (5, 0, 0)), (6, (7, 0, 0)), (28, (5, 0, 0)), (31, (4, 0, 0)), (33, (4, 0, 0)), (47, (5, 0, 0)), (52, (4, 0, 0)), (54, (4, 0, 0)), (72, (12, 0, 0)), (76, (12, 0, 0))]⟩) [6, 8] [(7, 0, 0), (12, 0, 0)] g23 nodraw ?_; refine ⟨_, by (simp [*, F42, F43, F44, F45, F46, F47, F48, F49, F50, hasF_fold, flg]; exact Is.mk), ?_⟩)
    | (refine tri_step (id := 5) (C := ⟨[3, 4], [43, 46, 47, 49, 50], [(4, (5, 0, 0)), (6, (7, 0, 0)), (28, (5, 0, 0)), (31, (4, 0, 0)), (33, (4, 0, 0)), (47, (5, 0, 0)), (52, (4, 0, 0)), (54, (4, 0, 0)), (72, (12, 0, 0)), (76, (12, 0, 0))]⟩) [3, 4, 6, 8, 23] [(7, 0, 0), (12, 0, 0)] g23 nodraw ?_; refine ⟨_, by (simp [*, F42, F43, F44, F45, F46, F47, F48, F49, F50, hasF_fold, flg]; exact Is.mk), ?_⟩)
    | (refine tri_step (id := 6) (C := ⟨[3, 4], [43, 46, 47, 49, 50], [(4, (5, 0, 0)), (6, (7, 0, 0)), (28, (5, 0, 0)), (31, (4, 0, 0)), (33, (4, 0, 0)), (47, (5, 0, 0)), (52, (4, 0, 0)), (54, (4, 0, 0)), (72, (12, 0, 0)), (76, (12, 0, 0))]⟩) [6, 8, 36] [(7, 0, 0), (12, 0, 0)] g23 (fun _ => ⟨q_mixed, by kernel_rfl⟩) ?_; refine ⟨_, by (simp [*, F42, F43, F44, F45, F46, F47, F48, F49, F50, hasF_fold, flg]; exact Is.mk), ?_⟩)
    | (refine tri_last (id := 7) (C := ⟨[3, 4], [43, 46, 47, 49, 50], [(4, (5, 0, 0)), (6, (7, 0, 0)), (28, (5, 0, 0)), (31, (4, 0, 0)), (33, (4, 0, 0)), (47, (5, 0, 0)), (52, (4, 0, 0)), (54, (4, 0, 0)), (72, (12, 0, 0)), (76, (12, 0, 0))]⟩) [6, 8] [(7, 0, 0), (12, 0, 0)] g23 nodraw ?_; refine ⟨_, by (simp [*, F42, F43, F44, F45, F46, F47, F48, F49, F50, hasF_fold, flg]; exact Is.mk), ?_⟩)
    | (refine tri_step (id := 8) (C := ⟨[3, 4], [43, 46, 47, 49, 50], [(4, (5, 0, 0)), (6, (7, 0, 0)), (28, (5, 0, 0)), (31, (4, 0, 0)), (33, (4, 0, 0)), (47, (5, 0, 0)), (52, (4, 0, 0)), (54, (4, 0, 0)), (72, (12, 0, 0)), (76, (12, 0, 0))]⟩) [3, 4, 6, 8, 39] [(7, 0, 0), (12, 0, 0)] g23 nodraw ?_; refine ⟨_, by (simp [*, F42, F43, F44, F45, F46, F47, F48, F49, F50, hasF_fold, flg]; exact Is.mk), ?_⟩)
    | (refine tri_last (id := 9) (C := ⟨[3, 4], [43, 46, 47, 49, 50], [(4, (5, 0, 0)), (6, (7, 0, 0)), (28, (5, 0, 0)), (31, (4, 0, 0)), (33, (4, 0, 0)), (47, (5, 0, 0)), (52, (4, 0, 0)), (54, (4, 0, 0)), (72, (12, 0, 0)), (76, (12, 0, 0))]⟩) [6, 8] [(7, 0, 0), (12, 0, 0)] g23 nodraw ?_; refine ⟨_, by (simp [*, F42, F43, F44, F45, F46, F47, F48, F49, F50, hasF_fold, flg]; exact Is.mk), ?_⟩)
    | (refine tri_step (id := 10) (C := ⟨[3, 4], [43, 46, 47, 49, 50], [(4, (5, 0, 0)), (6, (7, 0, 0)), (28, (5, 0, 0)), (31, (4, 0, 0)), (33, (4, 0, 0)), (47, (5, 0, 0)), (52, (4, 0, 0)), (54, (4, 0, 0)), (72, (12, 0, 0)), (76, (12, 0, 0))]⟩) [4, 6, 8, 46] [(7, 0, 0), (12, 0, 0)] g23 (fun _ => ⟨q_mixed, by kernel_rfl⟩) ?_; refine ⟨_, by (simp [*, F42, F43, F44, F45, F46, F47, F48, F49, F50, hasF_fold, flg]; exact Is.mk), ?_⟩)
    | (refine tri_last (id := 11) (C := ⟨[3, 4], [43, 46, 47, 49, 50], [(4, (5, 0, 0)), (6, (7, 0, 0)), (28, (5, 0, 0)), (31, (4, 0, 0)), (33, (4, 0, 0)), (47, (5, 0, 0)), (52, (4, 0, 0)), (54, (4, 0, 0)), (72, (12, 0, 0)), (76, (12, 0, 0))]⟩) [6, 8] [(7, 0, 0), (12, 0, 0)] g23 nodraw ?_; refine ⟨_, by (simp [*, F42, F43, F44, F45, F46, F47, F48, F49, F50, hasF_fold, flg]; exact Is.mk), ?_⟩)
    | (refine tri_step (id := 12) (C := ⟨[3, 4], [43, 46, 47, 49, 50], [(4, (5, 0, 0)), (6, (7, 0, 0)), (28, (5, 0, 0)), (31, (4, 0, 0)), (33, (4, 0, 0)), (47, (5, 0, 0)), (52, (4, 0, 0)), (54, (4, 0, 0)), (72, (12, 0, 0)), (76, (12, 0, 0))]⟩) [4, 6, 8, 62] [(7, 0, 0), (12, 0, 0)] g23 nodraw ?_; refine ⟨_, by (simp [*, F42, F43, F44, F45, F46, F47, F48, F49, F50, hasF_fold, flg]; exact Is.mk), ?_⟩)
    | (refine tri_last (id := 13) (C := ⟨[3, 4], [43, 46, 47, 49, 50], [(4, (5, 0, 0)), (6, (7, 0, 0)), (28, (5, 0, 0)), (31, (4, 0, 0)), (33, (4, 0, 0)), (47, (5, 0, 0)), (52, (4, 0, 0)), (54, (4, 0, 0)), (72, (12, 0, 0)), (76, (12, 0, 0))]⟩) [6, 8] [(7, 0, 0), (12, 0, 0)] g23 nodraw ?_; refine ⟨_, by (simp [*, F42, F43, F44, F45, F46, F47, F48, F49, F50, hasF_fold, flg]; exact Is.mk), ?_⟩)
    | (refine tri_step (id := 14) (C := ⟨[3, 4], [43, 46, 47, 49, 50], [(4, (5, 0, 0)), (6, (7, 0, 0)), (28, (5, 0, 0)), (31, (4, 0, 0)), (33, (4, 0, 0)), (47, (5, 0, 0)), (52, (4, 0, 0)), (54, (4, 0, 0)), (72, (12, 0, 0)), (76, (12, 0, 0))]⟩) [6, 7] [(7, 0, 0)] g23 (fun _ => ⟨q_mixed, by kernel_rfl⟩) ?_; refine ⟨_, by (simp [*, F42, F43, F44, F45, F46, F47, F48, F49, F50, hasF_fold, flg]; exact Is.mk), ?_⟩)
    | (apply tri_iteTo (c := .tmp 12) [6, 8] [(7, 0, 0), (12, 0, 0)] (by simp; exact IsB.mk))
    | (apply tri_iteTo (c := .tmp 16) [6, 8] [(7, 0, 0), (12, 0, 0)] (by simp; exact IsB.mk))
    | (apply tri_iteTo (c := .tmp 23) [6, 8] [(7, 0, 0), (12, 0, 0)] (by simp; exact IsB.mk))
    | (apply tri_iteTo (c := .tmp 36) [6, 8] [(7, 0, 0), (12, 0, 0)] (by simp; exact IsB.mk))
    | (apply tri_iteTo (c := .tmp 39) [6, 8] [(7, 0, 0), (12, 0, 0)] (by simp; exact IsB.mk))
    | (apply tri_iteTo (c := .tmp 46) [6, 8] [(7, 0, 0), (12, 0, 0)] (by simp; exact IsB.mk))
    | (apply tri_iteTo (c := .tmp 62) [6, 8] [(7, 0, 0), (12, 0, 0)] (by simp; exact IsB.mk))
    | (refine to_mk (by simp; exact IsK.mk))
    | (refine imp_ ?_)
    | ((simp; exact IsK.mk))
    | (refine tri_seq ?_)
    ))
  all_goals (refine post_plainV (P := Try.prog) (fn := Try.f23) (by simp; exact IsV.mk) rfl ?_)
  all_goals (first | (simp [hear]; done) | (simp [*, hear]; done) | (simp_all [hear]; done) | (simp [*, hear] <;> (repeat' split) <;> simp_all; done) | (fail) | (simp [*]; trace_state))
open Classical in
noncomputable def F23 : Fn1
  | [x0, x1, x2] => (whole pConn x0).bind fun c => (whole pSeg x1).bind fun s => (dI .u64 x2).bind fun now => if hearPre c s then some ((.tup [.agg (connCells (hear c s now).conn), .sl 8 (encS segCells (hear c s now).out) none]), none) else none
  | _ => none
theorem spec23 : Spec1 Try.prog 23 F23 := spec_of fun ys r o h => by
  unfold F23 at h
  split at h
  case h_2 => cases h
  obtain ⟨c, k0, h1⟩ := bind_some h
  obtain ⟨s, k1, h2⟩ := bind_some h1
  obtain ⟨now, k2, h3⟩ := bind_some h2
  obtain ⟨hpre, hz⟩ := ite_some h3
  cases hz
  exact ⟨_, at23 c s now hpre, rfl, le_plain ⟨whole_co pConn_snd k0, ⟨whole_co pSeg_snd k1, ⟨dI_co k2, trivial⟩⟩⟩ (by simp only [List.all_cons, List.all_nil, Bool.not_false, Bool.and_self, notRefB (whole_co pConn_snd k0) rfl (by simp), notRefB (whole_co pSeg_snd k1) rfl (by simp), notRefB (dI_co k2) rfl (by simp)]) rfl⟩
theorem en23 : Enters Try.prog 23 := enters_of Try.func23 (by kernel_rfl) (by kernel_rfl)

end Go.Proofs.Ytkjodjaamjnejaa

