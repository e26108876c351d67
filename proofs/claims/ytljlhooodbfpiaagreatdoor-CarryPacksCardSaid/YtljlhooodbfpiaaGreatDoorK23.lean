import Derived.Test.YtljlhooodbfpiaaGreatDoorK19
import Derived.Test.YtljlhooodbfpiaaGreatDoorK20
import Derived.Test.YtljlhooodbfpiaaGreatDoorK16
import Derived.Test.YtljlhooodbfpiaaGreatDoorK11
set_option linter.all false
-- Printed by genwalk.py.
namespace Go.Proofs.YtljlhooodbfpiaaGreatDoor
open Go Go.RowKit Caw
set_option linter.unusedSimpArgs false
set_option linter.unusedVariables false
set_option maxRecDepth 100000

-- caravel/caravelref24.Pack
theorem g15 : GOk1 Tryz.prog (ctxOf [(31, F31), (33, F33), (32, F32)]) := gok_cons spec31 en31 (gok_cons spec33 en33 (gok_cons spec32 en32 (gok_nil)))
set_option maxHeartbeats 4000000 in
theorem at15 (m : Caw.Msg) (hpre : MsgP m) : SpecAt Tryz.prog 15 [.agg (msgCells m)] (.tup [.v (.string (zs8 (packF m).1)), .v (.int .i64 (packF m).2)]) none := by
  obtain ⟨k1, k2, k3, k4⟩ := hpre
  refine specAt_of_tri Tryz.func15 rfl (Nat.le_of_ble_eq_true rfl) ?_
  rcases pack_cases m with ⟨b1, hp⟩ | ⟨b1, b2, hp⟩ | ⟨b1, b2, b3, hp⟩ | ⟨b1, b2, b3, hp⟩
  · all_goals (repeat' (first
      | (refine tri_condT (b_true (by simp; with_reducible exact IsB.mk)) ?_)
      | (refine tri_condF (b_true (by simp; with_reducible exact IsB.mk)) ?_)
      | (refine tri_skipT ?_)
      | (refine tri_skip ?_)
      | (refine then_to ?_)
      | (refine th_n ?_)
      | (refine in_n ?_)
      | (refine in_e ?_)
      | (refine in_x rfl ?_)
      | (refine th_e ?_)
      | (refine th_r ?_)
      | (refine in_r ?_)
      | (refine tri_ret ?_)
      | (refine tri_exit ?_)
      | (refine tri_block ?_)
      | (refine tri_step (id := 0) (C := ⟨[1], [], []⟩) [1] [] g15 nodraw ?_; refine ⟨_, by (simp [*, F31, F33, F32, pMsg, msgCells, encB_cons, range2, range1, zs8_of, zs8_of2, zs8_of2n, zs8_app, zs8_size, flg]; exact Is.mk), ?_⟩)
      | (refine tri_last (id := 0) (C := ⟨[1], [], []⟩) [1] [] g15 nodraw ?_; refine ⟨_, by (simp [*, F31, F33, F32, pMsg, msgCells, encB_cons, range2, range1, zs8_of, zs8_of2, zs8_of2n, zs8_app, zs8_size, flg]; exact Is.mk), ?_⟩)
      | (refine tri_stepG (id := 1) (C := ⟨[1], [], []⟩) [1, 16] [] g15 nodraw ?_; refine ⟨_, (run_split 0 4 12 (by simp [*, F31, F33, F32, pMsg, msgCells, encB_cons, range2, range1, zs8_of, zs8_of2, zs8_of2n, zs8_app, zs8_size, flg]; exact Is.mk) (by simp; exact IsB.mk) (by simp [*, F31, F33, F32, pMsg, msgCells, encB_cons, range2, range1, zs8_of, zs8_of2, zs8_of2n, zs8_app, zs8_size, flg]; exact IsK.mk) (by simp [*, F31, F33, F32, pMsg, msgCells, encB_cons, range2, range1, zs8_of, zs8_of2, zs8_of2n, zs8_app, zs8_size, flg]; exact IsK.mk) (by simp; exact IsK.mk)), ?_⟩)
      | (refine tri_lastG (id := 1) (C := ⟨[1], [], []⟩) [1, 16] [] g15 nodraw ?_; refine ⟨_, (run_split 0 4 12 (by simp [*, F31, F33, F32, pMsg, msgCells, encB_cons, range2, range1, zs8_of, zs8_of2, zs8_of2n, zs8_app, zs8_size, flg]; exact Is.mk) (by simp; exact IsB.mk) (by simp [*, F31, F33, F32, pMsg, msgCells, encB_cons, range2, range1, zs8_of, zs8_of2, zs8_of2n, zs8_app, zs8_size, flg]; exact IsK.mk) (by simp [*, F31, F33, F32, pMsg, msgCells, encB_cons, range2, range1, zs8_of, zs8_of2, zs8_of2n, zs8_app, zs8_size, flg]; exact IsK.mk) (by simp; exact IsK.mk)), ?_⟩)
      | (refine tri_step (id := 2) (C := ⟨[1], [], []⟩) [2, 3] [] g15 nodraw ?_; refine ⟨_, by (simp [*, F31, F33, F32, pMsg, msgCells, encB_cons, range2, range1, zs8_of, zs8_of2, zs8_of2n, zs8_app, zs8_size, flg]; exact Is.mk), ?_⟩)
      | (refine tri_last (id := 2) (C := ⟨[1], [], []⟩) [2, 3] [] g15 nodraw ?_; refine ⟨_, by (simp [*, F31, F33, F32, pMsg, msgCells, encB_cons, range2, range1, zs8_of, zs8_of2, zs8_of2n, zs8_app, zs8_size, flg]; exact Is.mk), ?_⟩)
      | (refine tri_step (id := 3) (C := ⟨[1], [], []⟩) [1, 20] [] g15 nodraw ?_; refine ⟨_, by (simp [*, F31, F33, F32, pMsg, msgCells, encB_cons, range2, range1, zs8_of, zs8_of2, zs8_of2n, zs8_app, zs8_size, flg]; exact Is.mk), ?_⟩)
      | (refine tri_last (id := 3) (C := ⟨[1], [], []⟩) [1, 20] [] g15 nodraw ?_; refine ⟨_, by (simp [*, F31, F33, F32, pMsg, msgCells, encB_cons, range2, range1, zs8_of, zs8_of2, zs8_of2n, zs8_app, zs8_size, flg]; exact Is.mk), ?_⟩)
      | (refine tri_step (id := 4) (C := ⟨[1], [], []⟩) [2, 3] [] g15 nodraw ?_; refine ⟨_, by (simp [*, F31, F33, F32, pMsg, msgCells, encB_cons, range2, range1, zs8_of, zs8_of2, zs8_of2n, zs8_app, zs8_size, flg]; exact Is.mk), ?_⟩)
      | (refine tri_last (id := 4) (C := ⟨[1], [], []⟩) [2, 3] [] g15 nodraw ?_; refine ⟨_, by (simp [*, F31, F33, F32, pMsg, msgCells, encB_cons, range2, range1, zs8_of, zs8_of2, zs8_of2n, zs8_app, zs8_size, flg]; exact Is.mk), ?_⟩)
      | (refine tri_step (id := 5) (C := ⟨[1], [], []⟩) [1, 4] [] g15 nodraw ?_; refine ⟨_, by (simp [*, F31, F33, F32, pMsg, msgCells, encB_cons, range2, range1, zs8_of, zs8_of2, zs8_of2n, zs8_app, zs8_size, flg]; exact Is.mk), ?_⟩)
      | (refine tri_last (id := 5) (C := ⟨[1], [], []⟩) [1, 4] [] g15 nodraw ?_; refine ⟨_, by (simp [*, F31, F33, F32, pMsg, msgCells, encB_cons, range2, range1, zs8_of, zs8_of2, zs8_of2n, zs8_app, zs8_size, flg]; exact Is.mk), ?_⟩)
      | (refine tri_step (id := 6) (C := ⟨[1], [], []⟩) [1, 4, 6] [] g15 nodraw ?_; refine ⟨_, by (simp [*, F31, F33, F32, pMsg, msgCells, encB_cons, range2, range1, zs8_of, zs8_of2, zs8_of2n, zs8_app, zs8_size, flg]; exact Is.mk), ?_⟩)
      | (refine tri_last (id := 6) (C := ⟨[1], [], []⟩) [1, 4, 6] [] g15 nodraw ?_; refine ⟨_, by (simp [*, F31, F33, F32, pMsg, msgCells, encB_cons, range2, range1, zs8_of, zs8_of2, zs8_of2n, zs8_app, zs8_size, flg]; exact Is.mk), ?_⟩)
      | (refine tri_step (id := 7) (C := ⟨[1], [], []⟩) [8] [] g15 nodraw ?_; refine ⟨_, by (simp [*, F31, F33, F32, pMsg, msgCells, encB_cons, range2, range1, zs8_of, zs8_of2, zs8_of2n, zs8_app, zs8_size, flg]; exact Is.mk), ?_⟩)
      | (refine tri_last (id := 7) (C := ⟨[1], [], []⟩) [8] [] g15 nodraw ?_; refine ⟨_, by (simp [*, F31, F33, F32, pMsg, msgCells, encB_cons, range2, range1, zs8_of, zs8_of2, zs8_of2n, zs8_app, zs8_size, flg]; exact Is.mk), ?_⟩)
      | (refine tri_step (id := 8) (C := ⟨[1], [], []⟩) [2, 3] [] g15 nodraw ?_; refine ⟨_, by (simp [*, F31, F33, F32, pMsg, msgCells, encB_cons, range2, range1, zs8_of, zs8_of2, zs8_of2n, zs8_app, zs8_size, flg]; exact Is.mk), ?_⟩)
      | (refine tri_last (id := 8) (C := ⟨[1], [], []⟩) [2, 3] [] g15 nodraw ?_; refine ⟨_, by (simp [*, F31, F33, F32, pMsg, msgCells, encB_cons, range2, range1, zs8_of, zs8_of2, zs8_of2n, zs8_app, zs8_size, flg]; exact Is.mk), ?_⟩)
      | (refine tri_cond (c := .tmp 16) (b_true (by simp; exact IsB.mk)) (fun hc => ?_) (fun hc => ?_))
      | (refine tri_cond (c := .tmp 20) (b_true (by simp; exact IsB.mk)) (fun hc => ?_) (fun hc => ?_))
      | (refine to_mk (by simp; exact IsK.mk))
      | (refine imp_ ?_)
      | ((simp; exact IsK.mk))
      | (refine tri_seq ?_)
      ))
    all_goals (refine post_plainV (P := Tryz.prog) (fn := Tryz.f15) (by simp; exact IsV.mk) rfl ?_)
    all_goals (simp [hp]; first | done | rfl)
  · all_goals (repeat' (first
      | (refine tri_condT (b_true (by simp; with_reducible exact IsB.mk)) ?_)
      | (refine tri_condF (b_true (by simp; with_reducible exact IsB.mk)) ?_)
      | (refine tri_skipT ?_)
      | (refine tri_skip ?_)
      | (refine then_to ?_)
      | (refine th_n ?_)
      | (refine in_n ?_)
      | (refine in_e ?_)
      | (refine in_x rfl ?_)
      | (refine th_e ?_)
      | (refine th_r ?_)
      | (refine in_r ?_)
      | (refine tri_ret ?_)
      | (refine tri_exit ?_)
      | (refine tri_block ?_)
      | (refine tri_step (id := 0) (C := ⟨[1], [], []⟩) [1] [] g15 nodraw ?_; refine ⟨_, by (simp [*, F31, F33, F32, pMsg, msgCells, encB_cons, range2, range1, zs8_of, zs8_of2, zs8_of2n, zs8_app, zs8_size, flg]; exact Is.mk), ?_⟩)
      | (refine tri_last (id := 0) (C := ⟨[1], [], []⟩) [1] [] g15 nodraw ?_; refine ⟨_, by (simp [*, F31, F33, F32, pMsg, msgCells, encB_cons, range2, range1, zs8_of, zs8_of2, zs8_of2n, zs8_app, zs8_size, flg]; exact Is.mk), ?_⟩)
      | (refine tri_stepG (id := 1) (C := ⟨[1], [], []⟩) [1, 16] [] g15 nodraw ?_; refine ⟨_, (run_split 0 4 12 (by simp [*, F31, F33, F32, pMsg, msgCells, encB_cons, range2, range1, zs8_of, zs8_of2, zs8_of2n, zs8_app, zs8_size, flg]; exact Is.mk) (by simp; exact IsB.mk) (by simp [*, F31, F33, F32, pMsg, msgCells, encB_cons, range2, range1, zs8_of, zs8_of2, zs8_of2n, zs8_app, zs8_size, flg]; exact IsK.mk) (by simp [*, F31, F33, F32, pMsg, msgCells, encB_cons, range2, range1, zs8_of, zs8_of2, zs8_of2n, zs8_app, zs8_size, flg]; exact IsK.mk) (by simp; exact IsK.mk)), ?_⟩)
      | (refine tri_lastG (id := 1) (C := ⟨[1], [], []⟩) [1, 16] [] g15 nodraw ?_; refine ⟨_, (run_split 0 4 12 (by simp [*, F31, F33, F32, pMsg, msgCells, encB_cons, range2, range1, zs8_of, zs8_of2, zs8_of2n, zs8_app, zs8_size, flg]; exact Is.mk) (by simp; exact IsB.mk) (by simp [*, F31, F33, F32, pMsg, msgCells, encB_cons, range2, range1, zs8_of, zs8_of2, zs8_of2n, zs8_app, zs8_size, flg]; exact IsK.mk) (by simp [*, F31, F33, F32, pMsg, msgCells, encB_cons, range2, range1, zs8_of, zs8_of2, zs8_of2n, zs8_app, zs8_size, flg]; exact IsK.mk) (by simp; exact IsK.mk)), ?_⟩)
      | (refine tri_step (id := 2) (C := ⟨[1], [], []⟩) [2, 3] [] g15 nodraw ?_; refine ⟨_, by (simp [*, F31, F33, F32, pMsg, msgCells, encB_cons, range2, range1, zs8_of, zs8_of2, zs8_of2n, zs8_app, zs8_size, flg]; exact Is.mk), ?_⟩)
      | (refine tri_last (id := 2) (C := ⟨[1], [], []⟩) [2, 3] [] g15 nodraw ?_; refine ⟨_, by (simp [*, F31, F33, F32, pMsg, msgCells, encB_cons, range2, range1, zs8_of, zs8_of2, zs8_of2n, zs8_app, zs8_size, flg]; exact Is.mk), ?_⟩)
      | (refine tri_step (id := 3) (C := ⟨[1], [], []⟩) [1, 20] [] g15 nodraw ?_; refine ⟨_, by (simp [*, F31, F33, F32, pMsg, msgCells, encB_cons, range2, range1, zs8_of, zs8_of2, zs8_of2n, zs8_app, zs8_size, flg]; exact Is.mk), ?_⟩)
      | (refine tri_last (id := 3) (C := ⟨[1], [], []⟩) [1, 20] [] g15 nodraw ?_; refine ⟨_, by (simp [*, F31, F33, F32, pMsg, msgCells, encB_cons, range2, range1, zs8_of, zs8_of2, zs8_of2n, zs8_app, zs8_size, flg]; exact Is.mk), ?_⟩)
      | (refine tri_step (id := 4) (C := ⟨[1], [], []⟩) [2, 3] [] g15 nodraw ?_; refine ⟨_, by (simp [*, F31, F33, F32, pMsg, msgCells, encB_cons, range2, range1, zs8_of, zs8_of2, zs8_of2n, zs8_app, zs8_size, flg]; exact Is.mk), ?_⟩)
      | (refine tri_last (id := 4) (C := ⟨[1], [], []⟩) [2, 3] [] g15 nodraw ?_; refine ⟨_, by (simp [*, F31, F33, F32, pMsg, msgCells, encB_cons, range2, range1, zs8_of, zs8_of2, zs8_of2n, zs8_app, zs8_size, flg]; exact Is.mk), ?_⟩)
      | (refine tri_step (id := 5) (C := ⟨[1], [], []⟩) [1, 4] [] g15 nodraw ?_; refine ⟨_, by (simp [*, F31, F33, F32, pMsg, msgCells, encB_cons, range2, range1, zs8_of, zs8_of2, zs8_of2n, zs8_app, zs8_size, flg]; exact Is.mk), ?_⟩)
      | (refine tri_last (id := 5) (C := ⟨[1], [], []⟩) [1, 4] [] g15 nodraw ?_; refine ⟨_, by (simp [*, F31, F33, F32, pMsg, msgCells, encB_cons, range2, range1, zs8_of, zs8_of2, zs8_of2n, zs8_app, zs8_size, flg]; exact Is.mk), ?_⟩)
      | (refine tri_step (id := 6) (C := ⟨[1], [], []⟩) [1, 4, 6] [] g15 nodraw ?_; refine ⟨_, by (simp [*, F31, F33, F32, pMsg, msgCells, encB_cons, range2, range1, zs8_of, zs8_of2, zs8_of2n, zs8_app, zs8_size, flg]; exact Is.mk), ?_⟩)
      | (refine tri_last (id := 6) (C := ⟨[1], [], []⟩) [1, 4, 6] [] g15 nodraw ?_; refine ⟨_, by (simp [*, F31, F33, F32, pMsg, msgCells, encB_cons, range2, range1, zs8_of, zs8_of2, zs8_of2n, zs8_app, zs8_size, flg]; exact Is.mk), ?_⟩)
      | (refine tri_step (id := 7) (C := ⟨[1], [], []⟩) [8] [] g15 nodraw ?_; refine ⟨_, by (simp [*, F31, F33, F32, pMsg, msgCells, encB_cons, range2, range1, zs8_of, zs8_of2, zs8_of2n, zs8_app, zs8_size, flg]; exact Is.mk), ?_⟩)
      | (refine tri_last (id := 7) (C := ⟨[1], [], []⟩) [8] [] g15 nodraw ?_; refine ⟨_, by (simp [*, F31, F33, F32, pMsg, msgCells, encB_cons, range2, range1, zs8_of, zs8_of2, zs8_of2n, zs8_app, zs8_size, flg]; exact Is.mk), ?_⟩)
      | (refine tri_step (id := 8) (C := ⟨[1], [], []⟩) [2, 3] [] g15 nodraw ?_; refine ⟨_, by (simp [*, F31, F33, F32, pMsg, msgCells, encB_cons, range2, range1, zs8_of, zs8_of2, zs8_of2n, zs8_app, zs8_size, flg]; exact Is.mk), ?_⟩)
      | (refine tri_last (id := 8) (C := ⟨[1], [], []⟩) [2, 3] [] g15 nodraw ?_; refine ⟨_, by (simp [*, F31, F33, F32, pMsg, msgCells, encB_cons, range2, range1, zs8_of, zs8_of2, zs8_of2n, zs8_app, zs8_size, flg]; exact Is.mk), ?_⟩)
      | (refine tri_cond (c := .tmp 16) (b_true (by simp; exact IsB.mk)) (fun hc => ?_) (fun hc => ?_))
      | (refine tri_cond (c := .tmp 20) (b_true (by simp; exact IsB.mk)) (fun hc => ?_) (fun hc => ?_))
      | (refine to_mk (by simp; exact IsK.mk))
      | (refine imp_ ?_)
      | ((simp; exact IsK.mk))
      | (refine tri_seq ?_)
      ))
    all_goals (refine post_plainV (P := Tryz.prog) (fn := Tryz.f15) (by simp; exact IsV.mk) rfl ?_)
    all_goals (simp [hp]; first | done | rfl)
  · all_goals (repeat' (first
      | (refine tri_condT (b_true (by simp; with_reducible exact IsB.mk)) ?_)
      | (refine tri_condF (b_true (by simp; with_reducible exact IsB.mk)) ?_)
      | (refine tri_skipT ?_)
      | (refine tri_skip ?_)
      | (refine then_to ?_)
      | (refine th_n ?_)
      | (refine in_n ?_)
      | (refine in_e ?_)
      | (refine in_x rfl ?_)
      | (refine th_e ?_)
      | (refine th_r ?_)
      | (refine in_r ?_)
      | (refine tri_ret ?_)
      | (refine tri_exit ?_)
      | (refine tri_block ?_)
      | (refine tri_step (id := 0) (C := ⟨[1], [], []⟩) [1] [] g15 nodraw ?_; refine ⟨_, by (simp [*, F31, F33, F32, pMsg, msgCells, encB_cons, range2, range1, zs8_of, zs8_of2, zs8_of2n, zs8_app, zs8_size, flg]; exact Is.mk), ?_⟩)
      | (refine tri_last (id := 0) (C := ⟨[1], [], []⟩) [1] [] g15 nodraw ?_; refine ⟨_, by (simp [*, F31, F33, F32, pMsg, msgCells, encB_cons, range2, range1, zs8_of, zs8_of2, zs8_of2n, zs8_app, zs8_size, flg]; exact Is.mk), ?_⟩)
      | (refine tri_stepG (id := 1) (C := ⟨[1], [], []⟩) [1, 16] [] g15 nodraw ?_; refine ⟨_, (run_split 0 4 12 (by simp [*, F31, F33, F32, pMsg, msgCells, encB_cons, range2, range1, zs8_of, zs8_of2, zs8_of2n, zs8_app, zs8_size, flg]; exact Is.mk) (by simp; exact IsB.mk) (by simp [*, F31, F33, F32, pMsg, msgCells, encB_cons, range2, range1, zs8_of, zs8_of2, zs8_of2n, zs8_app, zs8_size, flg]; exact IsK.mk) (by simp [*, F31, F33, F32, pMsg, msgCells, encB_cons, range2, range1, zs8_of, zs8_of2, zs8_of2n, zs8_app, zs8_size, flg]; exact IsK.mk) (by simp; exact IsK.mk)), ?_⟩)
      | (refine tri_lastG (id := 1) (C := ⟨[1], [], []⟩) [1, 16] [] g15 nodraw ?_; refine ⟨_, (run_split 0 4 12 (by simp [*, F31, F33, F32, pMsg, msgCells, encB_cons, range2, range1, zs8_of, zs8_of2, zs8_of2n, zs8_app, zs8_size, flg]; exact Is.mk) (by simp; exact IsB.mk) (by simp [*, F31, F33, F32, pMsg, msgCells, encB_cons, range2, range1, zs8_of, zs8_of2, zs8_of2n, zs8_app, zs8_size, flg]; exact IsK.mk) (by simp [*, F31, F33, F32, pMsg, msgCells, encB_cons, range2, range1, zs8_of, zs8_of2, zs8_of2n, zs8_app, zs8_size, flg]; exact IsK.mk) (by simp; exact IsK.mk)), ?_⟩)
      | (refine tri_step (id := 2) (C := ⟨[1], [], []⟩) [2, 3] [] g15 nodraw ?_; refine ⟨_, by (simp [*, F31, F33, F32, pMsg, msgCells, encB_cons, range2, range1, zs8_of, zs8_of2, zs8_of2n, zs8_app, zs8_size, flg]; exact Is.mk), ?_⟩)
      | (refine tri_last (id := 2) (C := ⟨[1], [], []⟩) [2, 3] [] g15 nodraw ?_; refine ⟨_, by (simp [*, F31, F33, F32, pMsg, msgCells, encB_cons, range2, range1, zs8_of, zs8_of2, zs8_of2n, zs8_app, zs8_size, flg]; exact Is.mk), ?_⟩)
      | (refine tri_step (id := 3) (C := ⟨[1], [], []⟩) [1, 20] [] g15 nodraw ?_; refine ⟨_, by (simp [*, F31, F33, F32, pMsg, msgCells, encB_cons, range2, range1, zs8_of, zs8_of2, zs8_of2n, zs8_app, zs8_size, flg]; exact Is.mk), ?_⟩)
      | (refine tri_last (id := 3) (C := ⟨[1], [], []⟩) [1, 20] [] g15 nodraw ?_; refine ⟨_, by (simp [*, F31, F33, F32, pMsg, msgCells, encB_cons, range2, range1, zs8_of, zs8_of2, zs8_of2n, zs8_app, zs8_size, flg]; exact Is.mk), ?_⟩)
      | (refine tri_step (id := 4) (C := ⟨[1], [], []⟩) [2, 3] [] g15 nodraw ?_; refine ⟨_, by (simp [*, F31, F33, F32, pMsg, msgCells, encB_cons, range2, range1, zs8_of, zs8_of2, zs8_of2n, zs8_app, zs8_size, flg]; exact Is.mk), ?_⟩)
      | (refine tri_last (id := 4) (C := ⟨[1], [], []⟩) [2, 3] [] g15 nodraw ?_; refine ⟨_, by (simp [*, F31, F33, F32, pMsg, msgCells, encB_cons, range2, range1, zs8_of, zs8_of2, zs8_of2n, zs8_app, zs8_size, flg]; exact Is.mk), ?_⟩)
      | (refine tri_step (id := 5) (C := ⟨[1], [], []⟩) [1, 4] [] g15 nodraw ?_; refine ⟨_, by (simp [*, F31, F33, F32, pMsg, msgCells, encB_cons, range2, range1, zs8_of, zs8_of2, zs8_of2n, zs8_app, zs8_size, flg]; exact Is.mk), ?_⟩)
      | (refine tri_last (id := 5) (C := ⟨[1], [], []⟩) [1, 4] [] g15 nodraw ?_; refine ⟨_, by (simp [*, F31, F33, F32, pMsg, msgCells, encB_cons, range2, range1, zs8_of, zs8_of2, zs8_of2n, zs8_app, zs8_size, flg]; exact Is.mk), ?_⟩)
      | (refine tri_step (id := 6) (C := ⟨[1], [], []⟩) [1, 4, 6] [] g15 nodraw ?_; refine ⟨_, by (simp [*, F31, F33, F32, pMsg, msgCells, encB_cons, range2, range1, zs8_of, zs8_of2, zs8_of2n, zs8_app, zs8_size, flg]; exact Is.mk), ?_⟩)
      | (refine tri_last (id := 6) (C := ⟨[1], [], []⟩) [1, 4, 6] [] g15 nodraw ?_; refine ⟨_, by (simp [*, F31, F33, F32, pMsg, msgCells, encB_cons, range2, range1, zs8_of, zs8_of2, zs8_of2n, zs8_app, zs8_size, flg]; exact Is.mk), ?_⟩)
      | (refine tri_step (id := 7) (C := ⟨[1], [], []⟩) [8] [] g15 nodraw ?_; refine ⟨_, by (simp [*, F31, F33, F32, pMsg, msgCells, encB_cons, range2, range1, zs8_of, zs8_of2, zs8_of2n, zs8_app, zs8_size, flg]; exact Is.mk), ?_⟩)
      | (refine tri_last (id := 7) (C := ⟨[1], [], []⟩) [8] [] g15 nodraw ?_; refine ⟨_, by (simp [*, F31, F33, F32, pMsg, msgCells, encB_cons, range2, range1, zs8_of, zs8_of2, zs8_of2n, zs8_app, zs8_size, flg]; exact Is.mk), ?_⟩)
      | (refine tri_step (id := 8) (C := ⟨[1], [], []⟩) [2, 3] [] g15 nodraw ?_; refine ⟨_, by (simp [*, F31, F33, F32, pMsg, msgCells, encB_cons, range2, range1, zs8_of, zs8_of2, zs8_of2n, zs8_app, zs8_size, flg]; exact Is.mk), ?_⟩)
      | (refine tri_last (id := 8) (C := ⟨[1], [], []⟩) [2, 3] [] g15 nodraw ?_; refine ⟨_, by (simp [*, F31, F33, F32, pMsg, msgCells, encB_cons, range2, range1, zs8_of, zs8_of2, zs8_of2n, zs8_app, zs8_size, flg]; exact Is.mk), ?_⟩)
      | (refine tri_cond (c := .tmp 16) (b_true (by simp; exact IsB.mk)) (fun hc => ?_) (fun hc => ?_))
      | (refine tri_cond (c := .tmp 20) (b_true (by simp; exact IsB.mk)) (fun hc => ?_) (fun hc => ?_))
      | (refine to_mk (by simp; exact IsK.mk))
      | (refine imp_ ?_)
      | ((simp; exact IsK.mk))
      | (refine tri_seq ?_)
      ))
    all_goals (refine post_plainV (P := Tryz.prog) (fn := Tryz.f15) (by simp; exact IsV.mk) rfl ?_)
    all_goals (simp [hp]; first | done | rfl)
  · obtain ⟨f1, f2, f3, f4, f5, f6, f7, f8, f9, f10, f11, f12⟩ := pack_facts k1 k2 k3 b1 b2 b3
    obtain ⟨g1, g2, g3, g4, g5, g6, g7⟩ := packD_facts f12 f7
    have e1 : (put4 m.run).length = 4 := rfl
    have e2 : (put4 m.num).length = 4 := rfl
    have e3 : m.data.length + 4 + 4 + 2 ≤ 4611686018427387904 := by omega
    have e4 : 2 + 4 + 4 + m.data.length ≤ 4611686018427387904 := by omega
    have e5 : m.data.length ≤ 4611686018427387894 := by omega
    clear k3 k4
    all_goals (repeat' (first
      | (refine tri_condT (b_true (by simp; with_reducible exact IsB.mk)) ?_)
      | (refine tri_condF (b_true (by simp; with_reducible exact IsB.mk)) ?_)
      | (refine tri_skipT ?_)
      | (refine tri_skip ?_)
      | (refine then_to ?_)
      | (refine th_n ?_)
      | (refine in_n ?_)
      | (refine in_e ?_)
      | (refine in_x rfl ?_)
      | (refine th_e ?_)
      | (refine th_r ?_)
      | (refine in_r ?_)
      | (refine tri_ret ?_)
      | (refine tri_exit ?_)
      | (refine tri_block ?_)
      | (refine tri_step (id := 0) (C := ⟨[1], [], []⟩) [1] [] g15 nodraw ?_; refine ⟨_, by (simp [*, F31, F33, F32, pMsg, msgCells, encB_cons, range2, range1, zs8_of, zs8_of2, zs8_of2n, zs8_app, zs8_size, flg]; exact Is.mk), ?_⟩)
      | (refine tri_last (id := 0) (C := ⟨[1], [], []⟩) [1] [] g15 nodraw ?_; refine ⟨_, by (simp [*, F31, F33, F32, pMsg, msgCells, encB_cons, range2, range1, zs8_of, zs8_of2, zs8_of2n, zs8_app, zs8_size, flg]; exact Is.mk), ?_⟩)
      | (refine tri_stepG (id := 1) (C := ⟨[1], [], []⟩) [1, 16] [] g15 nodraw ?_; refine ⟨_, (run_split 0 4 12 (by simp [*, F31, F33, F32, pMsg, msgCells, encB_cons, range2, range1, zs8_of, zs8_of2, zs8_of2n, zs8_app, zs8_size, flg]; exact Is.mk) (by simp; exact IsB.mk) (by simp [*, F31, F33, F32, pMsg, msgCells, encB_cons, range2, range1, zs8_of, zs8_of2, zs8_of2n, zs8_app, zs8_size, flg]; exact IsK.mk) (by simp [*, F31, F33, F32, pMsg, msgCells, encB_cons, range2, range1, zs8_of, zs8_of2, zs8_of2n, zs8_app, zs8_size, flg]; exact IsK.mk) (by simp; exact IsK.mk)), ?_⟩)
      | (refine tri_lastG (id := 1) (C := ⟨[1], [], []⟩) [1, 16] [] g15 nodraw ?_; refine ⟨_, (run_split 0 4 12 (by simp [*, F31, F33, F32, pMsg, msgCells, encB_cons, range2, range1, zs8_of, zs8_of2, zs8_of2n, zs8_app, zs8_size, flg]; exact Is.mk) (by simp; exact IsB.mk) (by simp [*, F31, F33, F32, pMsg, msgCells, encB_cons, range2, range1, zs8_of, zs8_of2, zs8_of2n, zs8_app, zs8_size, flg]; exact IsK.mk) (by simp [*, F31, F33, F32, pMsg, msgCells, encB_cons, range2, range1, zs8_of, zs8_of2, zs8_of2n, zs8_app, zs8_size, flg]; exact IsK.mk) (by simp; exact IsK.mk)), ?_⟩)
      | (refine tri_step (id := 2) (C := ⟨[1], [], []⟩) [2, 3] [] g15 nodraw ?_; refine ⟨_, by (simp [*, F31, F33, F32, pMsg, msgCells, encB_cons, range2, range1, zs8_of, zs8_of2, zs8_of2n, zs8_app, zs8_size, flg]; exact Is.mk), ?_⟩)
      | (refine tri_last (id := 2) (C := ⟨[1], [], []⟩) [2, 3] [] g15 nodraw ?_; refine ⟨_, by (simp [*, F31, F33, F32, pMsg, msgCells, encB_cons, range2, range1, zs8_of, zs8_of2, zs8_of2n, zs8_app, zs8_size, flg]; exact Is.mk), ?_⟩)
      | (refine tri_step (id := 3) (C := ⟨[1], [], []⟩) [1, 20] [] g15 nodraw ?_; refine ⟨_, by (simp [*, F31, F33, F32, pMsg, msgCells, encB_cons, range2, range1, zs8_of, zs8_of2, zs8_of2n, zs8_app, zs8_size, flg]; exact Is.mk), ?_⟩)
      | (refine tri_last (id := 3) (C := ⟨[1], [], []⟩) [1, 20] [] g15 nodraw ?_; refine ⟨_, by (simp [*, F31, F33, F32, pMsg, msgCells, encB_cons, range2, range1, zs8_of, zs8_of2, zs8_of2n, zs8_app, zs8_size, flg]; exact Is.mk), ?_⟩)
      | (refine tri_step (id := 4) (C := ⟨[1], [], []⟩) [2, 3] [] g15 nodraw ?_; refine ⟨_, by (simp [*, F31, F33, F32, pMsg, msgCells, encB_cons, range2, range1, zs8_of, zs8_of2, zs8_of2n, zs8_app, zs8_size, flg]; exact Is.mk), ?_⟩)
      | (refine tri_last (id := 4) (C := ⟨[1], [], []⟩) [2, 3] [] g15 nodraw ?_; refine ⟨_, by (simp [*, F31, F33, F32, pMsg, msgCells, encB_cons, range2, range1, zs8_of, zs8_of2, zs8_of2n, zs8_app, zs8_size, flg]; exact Is.mk), ?_⟩)
      | (refine tri_step (id := 5) (C := ⟨[1], [], []⟩) [1, 4] [] g15 nodraw ?_; refine ⟨_, by (simp [*, F31, F33, F32, pMsg, msgCells, encB_cons, range2, range1, zs8_of, zs8_of2, zs8_of2n, zs8_app, zs8_size, flg]; exact Is.mk), ?_⟩)
      | (refine tri_last (id := 5) (C := ⟨[1], [], []⟩) [1, 4] [] g15 nodraw ?_; refine ⟨_, by (simp [*, F31, F33, F32, pMsg, msgCells, encB_cons, range2, range1, zs8_of, zs8_of2, zs8_of2n, zs8_app, zs8_size, flg]; exact Is.mk), ?_⟩)
      | (refine tri_step (id := 6) (C := ⟨[1], [], []⟩) [1, 4, 6] [] g15 nodraw ?_; refine ⟨_, by (simp [*, F31, F33, F32, pMsg, msgCells, encB_cons, range2, range1, zs8_of, zs8_of2, zs8_of2n, zs8_app, zs8_size, flg]; exact Is.mk), ?_⟩)
      | (refine tri_last (id := 6) (C := ⟨[1], [], []⟩) [1, 4, 6] [] g15 nodraw ?_; refine ⟨_, by (simp [*, F31, F33, F32, pMsg, msgCells, encB_cons, range2, range1, zs8_of, zs8_of2, zs8_of2n, zs8_app, zs8_size, flg]; exact Is.mk), ?_⟩)
      | (refine tri_step (id := 7) (C := ⟨[1], [], []⟩) [8] [] g15 nodraw ?_; refine ⟨_, by (simp [*, F31, F33, F32, pMsg, msgCells, encB_cons, range2, range1, zs8_of, zs8_of2, zs8_of2n, zs8_app, zs8_size, flg]; exact Is.mk), ?_⟩)
      | (refine tri_last (id := 7) (C := ⟨[1], [], []⟩) [8] [] g15 nodraw ?_; refine ⟨_, by (simp [*, F31, F33, F32, pMsg, msgCells, encB_cons, range2, range1, zs8_of, zs8_of2, zs8_of2n, zs8_app, zs8_size, flg]; exact Is.mk), ?_⟩)
      | (refine tri_step (id := 8) (C := ⟨[1], [], []⟩) [2, 3] [] g15 nodraw ?_; refine ⟨_, by (simp [*, F31, F33, F32, pMsg, msgCells, encB_cons, range2, range1, zs8_of, zs8_of2, zs8_of2n, zs8_app, zs8_size, flg]; exact Is.mk), ?_⟩)
      | (refine tri_last (id := 8) (C := ⟨[1], [], []⟩) [2, 3] [] g15 nodraw ?_; refine ⟨_, by (simp [*, F31, F33, F32, pMsg, msgCells, encB_cons, range2, range1, zs8_of, zs8_of2, zs8_of2n, zs8_app, zs8_size, flg]; exact Is.mk), ?_⟩)
      | (refine tri_cond (c := .tmp 16) (b_true (by simp; exact IsB.mk)) (fun hc => ?_) (fun hc => ?_))
      | (refine tri_cond (c := .tmp 20) (b_true (by simp; exact IsB.mk)) (fun hc => ?_) (fun hc => ?_))
      | (refine to_mk (by simp; exact IsK.mk))
      | (refine imp_ ?_)
      | ((simp; exact IsK.mk))
      | (refine tri_seq ?_)
      ))
    trace_state
    all_goals (refine post_plainV (P := Tryz.prog) (fn := Tryz.f15) (by simp; exact IsV.mk) rfl ?_)
    all_goals (simp [hp]; done)
open Classical in
noncomputable def F15 : Fn1
  | [x0] => (whole pMsg x0).bind fun m => if MsgP m then some ((.tup [.v (.string (zs8 (packF m).1)), .v (.int .i64 (packF m).2)]), none) else none
  | _ => none
theorem spec15 : Spec1 Tryz.prog 15 F15 := spec_of fun ys r o h => by
  unfold F15 at h
  split at h
  case h_2 => cases h
  obtain ⟨m, k0, h1⟩ := bind_some h
  obtain ⟨hpre, hz⟩ := ite_some h1
  cases hz
  exact ⟨_, at15 m hpre, rfl, le_plain ⟨whole_co pMsg_snd k0, trivial⟩ (by simp only [List.all_cons, List.all_nil, Bool.not_false, Bool.and_self, notRefB (whole_co pMsg_snd k0) rfl (by simp)]) rfl⟩
theorem en15 : Enters Tryz.prog 15 := enters_of Tryz.func15 (by kernel_rfl) rfl

end Go.Proofs.YtljlhooodbfpiaaGreatDoor

