import Derived.Test.YtkjodjaamjnejaaP3
import Derived.Test.YtkjodjaamjnejaaK7
set_option linter.all false
-- Printed by genwalk.py.
namespace Go.Proofs.Ytkjodjaamjnejaa
open Go Go.RowKit Caw
set_option linter.unusedSimpArgs false
set_option linter.unusedVariables false
set_option maxRecDepth 100000

-- (*caravel/tcb.end).push
theorem g62 : GOk1 Try.prog (ctxOf [(56, F56), (80, F80), (72, F72), (48, F48), (54, F54), (59, F59)]) := gok_cons spec56 en56 (gok_cons spec80 en80 (gok_cons spec72 en72 (gok_cons spec48 en48 (gok_cons spec54 en54 (gok_cons spec59 en59 (gok_nil))))))
set_option maxHeartbeats 2000000 in
theorem at62 (e0 : Caw.Ep) (hpre : e0.conn.send.sm ∧ Rm (pushM e0.conn.send) e0.out) : SpecAt Try.prog 62 [.ref (epCells e0 flg)] (.tup []) (some (epCells (epPush e0) flg)) := by
  obtain ⟨hp1, hp2⟩ := hpre
  refine specAt_of_tri Try.func62 rfl (Nat.le_of_ble_eq_true rfl) ?_
  all_goals (repeat' (first
      | (refine tri_block ?_)
      ))
  refine tri_loop (fun n s => ∃ e, pushLoop n e = epPush e0 ∧ pushM e.conn.send ≤ n ∧ e.conn.send.sm ∧ Rm n e.out ∧ s = mkSt [(0, .ptr (0,1,0) 0)] [((0,1,0), epCells e (some ((0,1,38),0)))]) (pushM e0.conn.send) _ (keep_le (L := [0]) (M := [(0, 1, 0)]) (by simp [flg])) ⟨e0, rfl, Nat.le_refl _, hp1, hp2, rfl⟩ ?_
  rintro n s ⟨e, hx, hn, hs, hr, rfl⟩
  by_cases hp : e.conn.phase = 3
  · by_cases hok : (pushN e).2.2.2 = true
    · obtain ⟨k, rfl, h1, h2, h3, h4, h5⟩ := push_round hn hs hr hp hok
      rw [h1] at hx
      have hp' : (e.conn.phase == 3) = true := by simp [hp]
      clear hn hr h1 hp
      all_goals (repeat' (first
      | (refine tri_condT (b_true (by simp; with_reducible exact IsB.mk)) ?_)
      | (refine tri_condF (b_true (by simp; with_reducible exact IsB.mk)) ?_)
      | (refine tri_skipT ?_)
      | (refine tri_skip ?_)
      | (refine th_n ?_)
      | (refine in_n ?_)
      | (refine tri_block ?_)
      | (refine tri_step (id := 0) (C := ⟨[], [72, 59], [(3, (4, 0, 0)), (4, (5, 0, 0)), (34, (0, 1, 0)), (40, (0, 1, 0)), (76, (5, 0, 0)), (79, (5, 0, 0)), (86, (0, 1, 0)), (90, (0, 1, 0)), (93, (0, 1, 0)), (96, (0, 1, 0))]⟩) [0, 13] [(0, 1, 0)] g62 nodraw ?_; refine ⟨_, by (simp [*, F56, F80, F72, F48, F54, F59, pushW_fold, pushN_fold, pSeg, flags_fold, told_fold, seq_fold, timed_fold, flg]; exact Is.mk), ?_⟩)
      | (refine tri_step (id := 1) (C := ⟨[], [72, 59], [(3, (4, 0, 0)), (4, (5, 0, 0)), (34, (0, 1, 0)), (40, (0, 1, 0)), (76, (5, 0, 0)), (79, (5, 0, 0)), (86, (0, 1, 0)), (90, (0, 1, 0)), (93, (0, 1, 0)), (96, (0, 1, 0))]⟩) [0, 2] [(0, 1, 0)] g62 nodraw ?_; refine ⟨_, by (simp [*, F56, F80, F72, F48, F54, F59, pushW_fold, pushN_fold, pSeg, flags_fold, told_fold, seq_fold, timed_fold, flg]; exact Is.mk), ?_⟩)
      | (refine tri_stepG (id := 2) (C := ⟨[], [72, 59], [(3, (4, 0, 0)), (4, (5, 0, 0)), (34, (0, 1, 0)), (40, (0, 1, 0)), (76, (5, 0, 0)), (79, (5, 0, 0)), (86, (0, 1, 0)), (90, (0, 1, 0)), (93, (0, 1, 0)), (96, (0, 1, 0))]⟩) [0, 2, 29] [(0, 1, 0)] g62 nodraw ?_; refine ⟨_, (run_split 0 3 21 (by simp [*, F56, F80, F72, F48, F54, F59, pushW_fold, pushN_fold, pSeg, flags_fold, told_fold, seq_fold, timed_fold, flg]; exact Is.mk) (by simp; exact IsB.mk) (by simp [*, F56, F80, F72, F48, F54, F59, pushW_fold, pushN_fold, pSeg, flags_fold, told_fold, seq_fold, timed_fold, flg]; exact IsK.mk) (by simp [*, F56, F80, F72, F48, F54, F59, pushW_fold, pushN_fold, pSeg, flags_fold, told_fold, seq_fold, timed_fold, flg]; exact IsK.mk) (by simp; exact IsK.mk)), ?_⟩)
      | (refine tri_last (id := 3) (C := ⟨[], [72, 59], [(3, (4, 0, 0)), (4, (5, 0, 0)), (34, (0, 1, 0)), (40, (0, 1, 0)), (76, (5, 0, 0)), (79, (5, 0, 0)), (86, (0, 1, 0)), (90, (0, 1, 0)), (93, (0, 1, 0)), (96, (0, 1, 0))]⟩) [0, 2] [(0, 1, 0)] g62 nodraw ?_; refine ⟨_, by (simp [*, F56, F80, F72, F48, F54, F59, pushW_fold, pushN_fold, pSeg, flags_fold, told_fold, seq_fold, timed_fold, flg]; exact Is.mk), ?_⟩)
      | (refine tri_step (id := 4) (C := ⟨[], [72, 59], [(3, (4, 0, 0)), (4, (5, 0, 0)), (34, (0, 1, 0)), (40, (0, 1, 0)), (76, (5, 0, 0)), (79, (5, 0, 0)), (86, (0, 1, 0)), (90, (0, 1, 0)), (93, (0, 1, 0)), (96, (0, 1, 0))]⟩) [0, 3, 4, 5, 6] [(0, 1, 0), (4, 0, 0), (5, 0, 0)] g62 (fun _ => ⟨q_mixed, by kernel_rfl⟩) ?_; refine ⟨_, by (simp [*, F56, F80, F72, F48, F54, F59, pushW_fold, pushN_fold, pSeg, flags_fold, told_fold, seq_fold, timed_fold, flg]; exact Is.mk), ?_⟩)
      | (refine tri_step (id := 5) (C := ⟨[], [72, 59], [(3, (4, 0, 0)), (4, (5, 0, 0)), (34, (0, 1, 0)), (40, (0, 1, 0)), (76, (5, 0, 0)), (79, (5, 0, 0)), (86, (0, 1, 0)), (90, (0, 1, 0)), (93, (0, 1, 0)), (96, (0, 1, 0))]⟩) [0, 3, 4, 5, 48] [(0, 1, 0), (4, 0, 0), (5, 0, 0)] g62 nodraw ?_; refine ⟨_, by (simp [*, F56, F80, F72, F48, F54, F59, pushW_fold, pushN_fold, pSeg, flags_fold, told_fold, seq_fold, timed_fold, flg]; exact Is.mk), ?_⟩)
      | (refine tri_step (id := 6) (C := ⟨[], [72, 59], [(3, (4, 0, 0)), (4, (5, 0, 0)), (34, (0, 1, 0)), (40, (0, 1, 0)), (76, (5, 0, 0)), (79, (5, 0, 0)), (86, (0, 1, 0)), (90, (0, 1, 0)), (93, (0, 1, 0)), (96, (0, 1, 0))]⟩) [0, 3, 4, 5, 7] [(0, 1, 0), (4, 0, 0), (5, 0, 0)] g62 nodraw ?_; refine ⟨_, by (simp [*, F56, F80, F72, F48, F54, F59, pushW_fold, pushN_fold, pSeg, flags_fold, told_fold, seq_fold, timed_fold, flg]; exact Is.mk), ?_⟩)
      | (refine tri_step (id := 7) (C := ⟨[], [72, 59], [(3, (4, 0, 0)), (4, (5, 0, 0)), (34, (0, 1, 0)), (40, (0, 1, 0)), (76, (5, 0, 0)), (79, (5, 0, 0)), (86, (0, 1, 0)), (90, (0, 1, 0)), (93, (0, 1, 0)), (96, (0, 1, 0))]⟩) [0, 3, 4, 5, 7, 52] [(0, 1, 0), (4, 0, 0), (5, 0, 0)] g62 nodraw ?_; refine ⟨_, by (simp [*, F56, F80, F72, F48, F54, F59, pushW_fold, pushN_fold, pSeg, flags_fold, told_fold, seq_fold, timed_fold, flg]; exact Is.mk), ?_⟩)
      | (refine tri_last (id := 8) (C := ⟨[], [72, 59], [(3, (4, 0, 0)), (4, (5, 0, 0)), (34, (0, 1, 0)), (40, (0, 1, 0)), (76, (5, 0, 0)), (79, (5, 0, 0)), (86, (0, 1, 0)), (90, (0, 1, 0)), (93, (0, 1, 0)), (96, (0, 1, 0))]⟩) [0, 3, 4, 5, 7] [(0, 1, 0), (4, 0, 0), (5, 0, 0)] g62 nodraw ?_; refine ⟨_, by (simp [*, F56, F80, F72, F48, F54, F59, pushW_fold, pushN_fold, pSeg, flags_fold, told_fold, seq_fold, timed_fold, flg]; exact Is.mk), ?_⟩)
      | (refine tri_step (id := 9) (C := ⟨[], [72, 59], [(3, (4, 0, 0)), (4, (5, 0, 0)), (34, (0, 1, 0)), (40, (0, 1, 0)), (76, (5, 0, 0)), (79, (5, 0, 0)), (86, (0, 1, 0)), (90, (0, 1, 0)), (93, (0, 1, 0)), (96, (0, 1, 0))]⟩) [0, 3, 4, 7, 55] [(0, 1, 0), (4, 0, 0), (5, 0, 0)] g62 nodraw ?_; refine ⟨_, by (simp [*, F56, F80, F72, F48, F54, F59, pushW_fold, pushN_fold, pSeg, flags_fold, told_fold, seq_fold, timed_fold, flg]; exact Is.mk), ?_⟩)
      | (refine tri_last (id := 10) (C := ⟨[], [72, 59], [(3, (4, 0, 0)), (4, (5, 0, 0)), (34, (0, 1, 0)), (40, (0, 1, 0)), (76, (5, 0, 0)), (79, (5, 0, 0)), (86, (0, 1, 0)), (90, (0, 1, 0)), (93, (0, 1, 0)), (96, (0, 1, 0))]⟩) [0, 3, 4, 7] [(0, 1, 0), (4, 0, 0), (5, 0, 0)] g62 nodraw ?_; refine ⟨_, by (simp [*, F56, F80, F72, F48, F54, F59, pushW_fold, pushN_fold, pSeg, flags_fold, told_fold, seq_fold, timed_fold, flg]; exact Is.mk), ?_⟩)
      | (refine tri_step (id := 11) (C := ⟨[], [72, 59], [(3, (4, 0, 0)), (4, (5, 0, 0)), (34, (0, 1, 0)), (40, (0, 1, 0)), (76, (5, 0, 0)), (79, (5, 0, 0)), (86, (0, 1, 0)), (90, (0, 1, 0)), (93, (0, 1, 0)), (96, (0, 1, 0))]⟩) [0, 4, 7] [(0, 1, 0), (5, 0, 0)] g62 nodraw ?_; refine ⟨_, by (simp [*, F56, F80, F72, F48, F54, F59, pushW_fold, pushN_fold, pSeg, flags_fold, told_fold, seq_fold, timed_fold, flg]; exact Is.mk), ?_⟩)
      | (refine tri_step (id := 12) (C := ⟨[], [72, 59], [(3, (4, 0, 0)), (4, (5, 0, 0)), (34, (0, 1, 0)), (40, (0, 1, 0)), (76, (5, 0, 0)), (79, (5, 0, 0)), (86, (0, 1, 0)), (90, (0, 1, 0)), (93, (0, 1, 0)), (96, (0, 1, 0))]⟩) [0, 4, 7] [(0, 1, 0), (5, 0, 0)] g62 nodraw ?_; refine ⟨_, by (simp [*, F56, F80, F72, F48, F54, F59, pushW_fold, pushN_fold, pSeg, flags_fold, told_fold, seq_fold, timed_fold, flg]; exact Is.mk), ?_⟩)
      | (refine tri_step (id := 13) (C := ⟨[], [72, 59], [(3, (4, 0, 0)), (4, (5, 0, 0)), (34, (0, 1, 0)), (40, (0, 1, 0)), (76, (5, 0, 0)), (79, (5, 0, 0)), (86, (0, 1, 0)), (90, (0, 1, 0)), (93, (0, 1, 0)), (96, (0, 1, 0))]⟩) [0, 4, 7, 72] [(0, 1, 0), (5, 0, 0)] g62 nodraw ?_; refine ⟨_, by (simp [*, F56, F80, F72, F48, F54, F59, pushW_fold, pushN_fold, pSeg, flags_fold, told_fold, seq_fold, timed_fold, flg]; exact Is.mk), ?_⟩)
      | (refine tri_last (id := 14) (C := ⟨[], [72, 59], [(3, (4, 0, 0)), (4, (5, 0, 0)), (34, (0, 1, 0)), (40, (0, 1, 0)), (76, (5, 0, 0)), (79, (5, 0, 0)), (86, (0, 1, 0)), (90, (0, 1, 0)), (93, (0, 1, 0)), (96, (0, 1, 0))]⟩) [0] [(0, 1, 0)] g62 (fun _ => ⟨q_mixed, by kernel_rfl⟩) ?_; refine ⟨_, by (simp [*, F56, F80, F72, F48, F54, F59, pushW_fold, pushN_fold, pSeg, flags_fold, told_fold, seq_fold, timed_fold, flg]; exact Is.mk), ?_⟩)
      | (refine tri_step (id := 15) (C := ⟨[], [72, 59], [(3, (4, 0, 0)), (4, (5, 0, 0)), (34, (0, 1, 0)), (40, (0, 1, 0)), (76, (5, 0, 0)), (79, (5, 0, 0)), (86, (0, 1, 0)), (90, (0, 1, 0)), (93, (0, 1, 0)), (96, (0, 1, 0))]⟩) [0, 102] [(0, 1, 0)] g62 nodraw ?_; refine ⟨_, by (simp [*, F56, F80, F72, F48, F54, F59, pushW_fold, pushN_fold, pSeg, flags_fold, told_fold, seq_fold, timed_fold, flg]; exact Is.mk), ?_⟩)
      | (refine tri_last (id := 16) (C := ⟨[], [72, 59], [(3, (4, 0, 0)), (4, (5, 0, 0)), (34, (0, 1, 0)), (40, (0, 1, 0)), (76, (5, 0, 0)), (79, (5, 0, 0)), (86, (0, 1, 0)), (90, (0, 1, 0)), (93, (0, 1, 0)), (96, (0, 1, 0))]⟩) [0] [(0, 1, 0)] g62 nodraw ?_; refine ⟨_, by (simp [*, F56, F80, F72, F48, F54, F59, pushW_fold, pushN_fold, pSeg, flags_fold, told_fold, seq_fold, timed_fold, flg]; exact Is.mk), ?_⟩)
      | (apply tri_iteTo (c := .tmp 29) [0, 2] [(0, 1, 0)] (by simp; exact IsB.mk))
      | (apply tri_iteTo (c := .tmp 52) [0, 3, 4, 5, 7] [(0, 1, 0), (4, 0, 0), (5, 0, 0)] (by simp; exact IsB.mk))
      | (apply tri_iteTo (c := .tmp 55) [0, 3, 4, 7] [(0, 1, 0), (4, 0, 0), (5, 0, 0)] (by simp; exact IsB.mk))
      | (apply tri_iteTo (c := .tmp 72) [0] [(0, 1, 0)] (by simp; exact IsB.mk))
      | (apply tri_iteTo (c := .tmp 102) [0] [(0, 1, 0)] (by simp; exact IsB.mk))
      | (refine to_mk (by simp; exact IsK.mk))
      | (refine imp_ ?_)
      | ((simp; exact IsK.mk))
      | (refine tri_seq ?_)
      ))
      refine ⟨k, _, Nat.lt_succ_self _, epCells_le (pushStep_eq e).symm, pushStep e, hx, h2, h3, h4, rfl⟩
    · rw [pushLoop_stop (fun h => hok h.2)] at hx
      have hok' : (pushN e).2.2.2 = false := by simpa using hok
      have hp' : (e.conn.phase == 3) = true := by simp [hp]
      clear hn hok hp
      subst hx
      all_goals (repeat' (first
      | (refine tri_condT (b_true (by simp; with_reducible exact IsB.mk)) ?_)
      | (refine tri_skipT ?_)
      | (refine tri_skip ?_)
      | (refine th_n ?_)
      | (refine th_r ?_)
      | (refine in_r ?_)
      | (refine tri_ret ?_)
      | (refine tri_block ?_)
      | (refine tri_step (id := 0) (C := ⟨[], [72, 59], [(3, (4, 0, 0)), (4, (5, 0, 0)), (34, (0, 1, 0)), (40, (0, 1, 0)), (76, (5, 0, 0)), (79, (5, 0, 0)), (86, (0, 1, 0)), (90, (0, 1, 0)), (93, (0, 1, 0)), (96, (0, 1, 0))]⟩) [0, 13] [(0, 1, 0)] g62 nodraw ?_; refine ⟨_, by (simp [*, F56, F80, F72, F48, F54, F59, pushW_fold, pushN_fold, pSeg, flags_fold, told_fold, seq_fold, timed_fold, flg]; exact Is.mk), ?_⟩)
      | (refine tri_step (id := 1) (C := ⟨[], [72, 59], [(3, (4, 0, 0)), (4, (5, 0, 0)), (34, (0, 1, 0)), (40, (0, 1, 0)), (76, (5, 0, 0)), (79, (5, 0, 0)), (86, (0, 1, 0)), (90, (0, 1, 0)), (93, (0, 1, 0)), (96, (0, 1, 0))]⟩) [0, 2] [(0, 1, 0)] g62 nodraw ?_; refine ⟨_, by (simp [*, F56, F80, F72, F48, F54, F59, pushW_fold, pushN_fold, pSeg, flags_fold, told_fold, seq_fold, timed_fold, flg]; exact Is.mk), ?_⟩)
      | (refine tri_stepG (id := 2) (C := ⟨[], [72, 59], [(3, (4, 0, 0)), (4, (5, 0, 0)), (34, (0, 1, 0)), (40, (0, 1, 0)), (76, (5, 0, 0)), (79, (5, 0, 0)), (86, (0, 1, 0)), (90, (0, 1, 0)), (93, (0, 1, 0)), (96, (0, 1, 0))]⟩) [0, 2, 29] [(0, 1, 0)] g62 nodraw ?_; refine ⟨_, (run_split 0 3 21 (by simp [*, F56, F80, F72, F48, F54, F59, pushW_fold, pushN_fold, pSeg, flags_fold, told_fold, seq_fold, timed_fold, flg]; exact Is.mk) (by simp; exact IsB.mk) (by simp [*, F56, F80, F72, F48, F54, F59, pushW_fold, pushN_fold, pSeg, flags_fold, told_fold, seq_fold, timed_fold, flg]; exact IsK.mk) (by simp [*, F56, F80, F72, F48, F54, F59, pushW_fold, pushN_fold, pSeg, flags_fold, told_fold, seq_fold, timed_fold, flg]; exact IsK.mk) (by simp; exact IsK.mk)), ?_⟩)
      | (refine tri_last (id := 3) (C := ⟨[], [72, 59], [(3, (4, 0, 0)), (4, (5, 0, 0)), (34, (0, 1, 0)), (40, (0, 1, 0)), (76, (5, 0, 0)), (79, (5, 0, 0)), (86, (0, 1, 0)), (90, (0, 1, 0)), (93, (0, 1, 0)), (96, (0, 1, 0))]⟩) [0, 2] [(0, 1, 0)] g62 nodraw ?_; refine ⟨_, by (simp [*, F56, F80, F72, F48, F54, F59, pushW_fold, pushN_fold, pSeg, flags_fold, told_fold, seq_fold, timed_fold, flg]; exact Is.mk), ?_⟩)
      | (refine tri_step (id := 4) (C := ⟨[], [72, 59], [(3, (4, 0, 0)), (4, (5, 0, 0)), (34, (0, 1, 0)), (40, (0, 1, 0)), (76, (5, 0, 0)), (79, (5, 0, 0)), (86, (0, 1, 0)), (90, (0, 1, 0)), (93, (0, 1, 0)), (96, (0, 1, 0))]⟩) [0, 3, 4, 5, 6] [(0, 1, 0), (4, 0, 0), (5, 0, 0)] g62 (fun _ => ⟨q_mixed, by kernel_rfl⟩) ?_; refine ⟨_, by (simp [*, F56, F80, F72, F48, F54, F59, pushW_fold, pushN_fold, pSeg, flags_fold, told_fold, seq_fold, timed_fold, flg]; exact Is.mk), ?_⟩)
      | (refine tri_step (id := 5) (C := ⟨[], [72, 59], [(3, (4, 0, 0)), (4, (5, 0, 0)), (34, (0, 1, 0)), (40, (0, 1, 0)), (76, (5, 0, 0)), (79, (5, 0, 0)), (86, (0, 1, 0)), (90, (0, 1, 0)), (93, (0, 1, 0)), (96, (0, 1, 0))]⟩) [0, 3, 4, 5, 48] [(0, 1, 0), (4, 0, 0), (5, 0, 0)] g62 nodraw ?_; refine ⟨_, by (simp [*, F56, F80, F72, F48, F54, F59, pushW_fold, pushN_fold, pSeg, flags_fold, told_fold, seq_fold, timed_fold, flg]; exact Is.mk), ?_⟩)
      | (apply tri_iteTo (c := .tmp 29) [0, 2] [(0, 1, 0)] (by simp; exact IsB.mk))
      | (refine to_mk (by simp; exact IsK.mk))
      | (refine imp_ ?_)
      | ((simp; exact IsK.mk))
      | (refine tri_seq ?_)
      ))
      all_goals (refine post_obj [((0, 1, 38), _)] ⟨rfl, trivial⟩ _ rfl rfl (by simp) rfl (epCells_coE _ _ _ _ _ _ _ _ ⟨rfl, rfl⟩ ?_))
      all_goals (rfl)
  · rw [pushLoop_stop (fun h => hp h.1)] at hx
    have hp' : (e.conn.phase == 3) = false := by simp [hp]
    clear hn hp
    subst hx
    all_goals (repeat' (first
      | (refine tri_condF (b_true (by simp; with_reducible exact IsB.mk)) ?_)
      | (refine in_e ?_)
      | (refine th_e ?_)
      | (refine tri_exit ?_)
      | (refine tri_step (id := 0) (C := ⟨[], [72, 59], [(3, (4, 0, 0)), (4, (5, 0, 0)), (34, (0, 1, 0)), (40, (0, 1, 0)), (76, (5, 0, 0)), (79, (5, 0, 0)), (86, (0, 1, 0)), (90, (0, 1, 0)), (93, (0, 1, 0)), (96, (0, 1, 0))]⟩) [0, 13] [(0, 1, 0)] g62 nodraw ?_; refine ⟨_, by (simp [*, F56, F80, F72, F48, F54, F59, pushW_fold, pushN_fold, pSeg, flags_fold, told_fold, seq_fold, timed_fold, flg]; exact Is.mk), ?_⟩)
      | (refine tri_seq ?_)
      ))
    all_goals (refine post_obj [((0, 1, 38), _)] ⟨rfl, trivial⟩ _ rfl rfl (by simp) rfl (epCells_coE _ _ _ _ _ _ _ _ ⟨rfl, rfl⟩ ?_))
    all_goals (rfl)
open Classical in
noncomputable def F62 : Fn1
  | [x0] => ((dR x0).bind (wholeC pEp)).bind fun e0 => if e0.conn.send.sm ∧ Rm (pushM e0.conn.send) e0.out then some ((.tup []), (some (epCells (epPush e0) flg))) else none
  | _ => none
theorem spec62 : Spec1 Try.prog 62 F62 := spec_of fun ys r o h => by
  unfold F62 at h
  split at h
  case h_2 => cases h
  obtain ⟨e0, k0, h1⟩ := bind_some h
  obtain ⟨cs0, kk0, j0⟩ := bind_some k0
  have e0 := dR_eq kk0
  subst e0
  obtain ⟨hpre, hz⟩ := ite_some h1
  cases hz
  exact ⟨_, at62 e0 hpre, rfl, le_ref (fun s s2 hG => wholeC_coR pEp_snd j0 s s2 hG) trivial⟩
theorem en62 : Enters Try.prog 62 := enters_of Try.func62 (by kernel_rfl) (by kernel_rfl)

end Go.Proofs.Ytkjodjaamjnejaa

