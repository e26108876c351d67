import Derived.Test.YtljlhooodbfpiaaGreatDoorK13
import Derived.Test.YtljlhooodbfpiaaGreatDoorK14
import Derived.Test.YtljlhooodbfpiaaGreatDoorK16
set_option linter.all false
-- Printed by genwalk.py.
namespace Go.Proofs.YtljlhooodbfpiaaGreatDoor
open Go Go.RowKit Caw
set_option linter.unusedSimpArgs false
set_option linter.unusedVariables false
set_option maxRecDepth 100000

-- caravel/carry.Open
theorem g11 : GOk1 Tryz.prog (ctxOf [(23, F23), (24, F24), (25, F25)]) := gok_cons spec23 en23 (gok_cons spec24 en24 (gok_cons spec25 en25 (gok_nil)))
set_option maxHeartbeats 4000000 in
theorem at11 (b : List Int) (hpre : u8L b ∧ b.length ≤ 400) : SpecAt Tryz.prog 11 [.sl 1 (encB b) none] (.tup [.agg (msgCells (openF b).1), .v (.int .i64 (openF b).2)]) none := by
  obtain ⟨hu, hn⟩ := hpre
  have hn5 : b.length ≤ 100000 := by omega
  refine specAt_of_tri Tryz.func11 rfl (Nat.le_of_ble_eq_true rfl) ?_
  by_cases h12 : b.length < 12
  · have q1 : splitP b = [] := if_pos h12
    have q2 : splitE b = 6 := if_pos h12
    have q3 : openF b = (⟨0, 0, 0, []⟩, 6) := if_pos h12
    all_goals (repeat' (first
      | (refine tri_condT (b_true (by simp; with_reducible exact IsB.mk)) ?_)
      | (refine tri_condF (b_true (by simp; with_reducible exact IsB.mk)) ?_)
      | (refine tri_skipT ?_)
      | (refine tri_skip ?_)
      | (refine then_to ?_)
      | (refine th_n ?_)
      | (refine in_n ?_)
      | (refine in_e ?_)
      | (refine in_x rfl ?_)
      | (refine th_e ?_)
      | (refine th_r ?_)
      | (refine in_r ?_)
      | (refine tri_ret ?_)
      | (refine tri_exit ?_)
      | (refine tri_block ?_)
      | (refine tri_step (id := 0) (C := ⟨[], [], [(2, (3, 0, 0))]⟩) [0, 2] [(3, 0, 0)] g11 nodraw ?_; refine ⟨_, by (simp [*, F23, F24, F25, pMsg, msgCells, szsL, tP, encB_cons, range5, flg]; exact Is.mk), ?_⟩)
      | (refine tri_last (id := 0) (C := ⟨[], [], [(2, (3, 0, 0))]⟩) [0, 2] [(3, 0, 0)] g11 nodraw ?_; refine ⟨_, by (simp [*, F23, F24, F25, pMsg, msgCells, szsL, tP, encB_cons, range5, flg]; exact Is.mk), ?_⟩)
      | (refine tri_step (id := 1) (C := ⟨[], [], [(2, (3, 0, 0))]⟩) [0, 2, 4, 5] [(3, 0, 0)] g11 nodraw ?_; refine ⟨_, by (simp [*, F23, F24, F25, pMsg, msgCells, szsL, tP, encB_cons, range5, flg]; exact Is.mk), ?_⟩)
      | (refine tri_last (id := 1) (C := ⟨[], [], [(2, (3, 0, 0))]⟩) [0, 2, 4, 5] [(3, 0, 0)] g11 nodraw ?_; refine ⟨_, by (simp [*, F23, F24, F25, pMsg, msgCells, szsL, tP, encB_cons, range5, flg]; exact Is.mk), ?_⟩)
      | (refine tri_step (id := 2) (C := ⟨[], [], [(2, (3, 0, 0))]⟩) [0, 2, 4, 5, 16] [(3, 0, 0)] g11 nodraw ?_; refine ⟨_, by (simp [*, F23, F24, F25, pMsg, msgCells, szsL, tP, encB_cons, range5, flg]; exact Is.mk), ?_⟩)
      | (refine tri_last (id := 2) (C := ⟨[], [], [(2, (3, 0, 0))]⟩) [0, 2, 4, 5, 16] [(3, 0, 0)] g11 nodraw ?_; refine ⟨_, by (simp [*, F23, F24, F25, pMsg, msgCells, szsL, tP, encB_cons, range5, flg]; exact Is.mk), ?_⟩)
      | (refine tri_step (id := 3) (C := ⟨[], [], [(2, (3, 0, 0))]⟩) [2, 3] [(3, 0, 0)] g11 nodraw ?_; refine ⟨_, by (simp [*, F23, F24, F25, pMsg, msgCells, szsL, tP, encB_cons, range5, flg]; exact Is.mk), ?_⟩)
      | (refine tri_last (id := 3) (C := ⟨[], [], [(2, (3, 0, 0))]⟩) [2, 3] [(3, 0, 0)] g11 nodraw ?_; refine ⟨_, by (simp [*, F23, F24, F25, pMsg, msgCells, szsL, tP, encB_cons, range5, flg]; exact Is.mk), ?_⟩)
      | (refine tri_step (id := 4) (C := ⟨[], [], [(2, (3, 0, 0))]⟩) [2, 4, 21] [(3, 0, 0)] g11 nodraw ?_; refine ⟨_, by (simp [*, F23, F24, F25, pMsg, msgCells, szsL, tP, encB_cons, range5, flg]; exact Is.mk), ?_⟩)
      | (refine tri_last (id := 4) (C := ⟨[], [], [(2, (3, 0, 0))]⟩) [2, 4, 21] [(3, 0, 0)] g11 nodraw ?_; refine ⟨_, by (simp [*, F23, F24, F25, pMsg, msgCells, szsL, tP, encB_cons, range5, flg]; exact Is.mk), ?_⟩)
      | (refine tri_step (id := 5) (C := ⟨[], [], [(2, (3, 0, 0))]⟩) [2, 3] [(3, 0, 0)] g11 nodraw ?_; refine ⟨_, by (simp [*, F23, F24, F25, pMsg, msgCells, szsL, tP, encB_cons, range5, flg]; exact Is.mk), ?_⟩)
      | (refine tri_last (id := 5) (C := ⟨[], [], [(2, (3, 0, 0))]⟩) [2, 3] [(3, 0, 0)] g11 nodraw ?_; refine ⟨_, by (simp [*, F23, F24, F25, pMsg, msgCells, szsL, tP, encB_cons, range5, flg]; exact Is.mk), ?_⟩)
      | (refine tri_stepG (id := 6) (C := ⟨[], [], [(2, (3, 0, 0))]⟩) [2, 4, 27] [(3, 0, 0)] g11 (fun _ => ⟨q_mixed, by kernel_rfl⟩) ?_; refine ⟨_, (run_split 0 8 35 (by simp [*, F23, F24, F25, pMsg, msgCells, szsL, tP, encB_cons, range5, flg]; exact Is.mk) (by simp; exact IsB.mk) (run_split 8 9 44 (by simp [*, F23, F24, F25, pMsg, msgCells, szsL, tP, encB_cons, range5, flg]; exact Is.mk) (by simp; exact IsB.mk) (run_split 17 13 57 (by simp [*, F23, F24, F25, pMsg, msgCells, szsL, tP, encB_cons, range5, flg]; exact Is.mk) (by simp; exact IsB.mk) (by simp [*, F23, F24, F25, pMsg, msgCells, szsL, tP, encB_cons, range5, flg]; exact IsK.mk) (by simp [*, F23, F24, F25, pMsg, msgCells, szsL, tP, encB_cons, range5, flg]; exact IsK.mk) (by simp; exact IsK.mk)) (run_split 17 13 57 (by simp [*, F23, F24, F25, pMsg, msgCells, szsL, tP, encB_cons, range5, flg]; exact Is.mk) (by simp; exact IsB.mk) (by simp [*, F23, F24, F25, pMsg, msgCells, szsL, tP, encB_cons, range5, flg]; exact IsK.mk) (by simp [*, F23, F24, F25, pMsg, msgCells, szsL, tP, encB_cons, range5, flg]; exact IsK.mk) (by simp; exact IsK.mk)) (by simp; exact IsK.mk)) (run_split 8 9 44 (by simp [*, F23, F24, F25, pMsg, msgCells, szsL, tP, encB_cons, range5, flg]; exact Is.mk) (by simp; exact IsB.mk) (run_split 17 13 57 (by simp [*, F23, F24, F25, pMsg, msgCells, szsL, tP, encB_cons, range5, flg]; exact Is.mk) (by simp; exact IsB.mk) (by simp [*, F23, F24, F25, pMsg, msgCells, szsL, tP, encB_cons, range5, flg]; exact IsK.mk) (by simp [*, F23, F24, F25, pMsg, msgCells, szsL, tP, encB_cons, range5, flg]; exact IsK.mk) (by simp; exact IsK.mk)) (run_split 17 13 57 (by simp [*, F23, F24, F25, pMsg, msgCells, szsL, tP, encB_cons, range5, flg]; exact Is.mk) (by simp; exact IsB.mk) (by simp [*, F23, F24, F25, pMsg, msgCells, szsL, tP, encB_cons, range5, flg]; exact IsK.mk) (by simp [*, F23, F24, F25, pMsg, msgCells, szsL, tP, encB_cons, range5, flg]; exact IsK.mk) (by simp; exact IsK.mk)) (by simp; exact IsK.mk)) (by simp; exact IsK.mk)), ?_⟩)
      | (refine tri_lastG (id := 6) (C := ⟨[], [], [(2, (3, 0, 0))]⟩) [2, 4, 27] [(3, 0, 0)] g11 (fun _ => ⟨q_mixed, by kernel_rfl⟩) ?_; refine ⟨_, (run_split 0 8 35 (by simp [*, F23, F24, F25, pMsg, msgCells, szsL, tP, encB_cons, range5, flg]; exact Is.mk) (by simp; exact IsB.mk) (run_split 8 9 44 (by simp [*, F23, F24, F25, pMsg, msgCells, szsL, tP, encB_cons, range5, flg]; exact Is.mk) (by simp; exact IsB.mk) (run_split 17 13 57 (by simp [*, F23, F24, F25, pMsg, msgCells, szsL, tP, encB_cons, range5, flg]; exact Is.mk) (by simp; exact IsB.mk) (by simp [*, F23, F24, F25, pMsg, msgCells, szsL, tP, encB_cons, range5, flg]; exact IsK.mk) (by simp [*, F23, F24, F25, pMsg, msgCells, szsL, tP, encB_cons, range5, flg]; exact IsK.mk) (by simp; exact IsK.mk)) (run_split 17 13 57 (by simp [*, F23, F24, F25, pMsg, msgCells, szsL, tP, encB_cons, range5, flg]; exact Is.mk) (by simp; exact IsB.mk) (by simp [*, F23, F24, F25, pMsg, msgCells, szsL, tP, encB_cons, range5, flg]; exact IsK.mk) (by simp [*, F23, F24, F25, pMsg, msgCells, szsL, tP, encB_cons, range5, flg]; exact IsK.mk) (by simp; exact IsK.mk)) (by simp; exact IsK.mk)) (run_split 8 9 44 (by simp [*, F23, F24, F25, pMsg, msgCells, szsL, tP, encB_cons, range5, flg]; exact Is.mk) (by simp; exact IsB.mk) (run_split 17 13 57 (by simp [*, F23, F24, F25, pMsg, msgCells, szsL, tP, encB_cons, range5, flg]; exact Is.mk) (by simp; exact IsB.mk) (by simp [*, F23, F24, F25, pMsg, msgCells, szsL, tP, encB_cons, range5, flg]; exact IsK.mk) (by simp [*, F23, F24, F25, pMsg, msgCells, szsL, tP, encB_cons, range5, flg]; exact IsK.mk) (by simp; exact IsK.mk)) (run_split 17 13 57 (by simp [*, F23, F24, F25, pMsg, msgCells, szsL, tP, encB_cons, range5, flg]; exact Is.mk) (by simp; exact IsB.mk) (by simp [*, F23, F24, F25, pMsg, msgCells, szsL, tP, encB_cons, range5, flg]; exact IsK.mk) (by simp [*, F23, F24, F25, pMsg, msgCells, szsL, tP, encB_cons, range5, flg]; exact IsK.mk) (by simp; exact IsK.mk)) (by simp; exact IsK.mk)) (by simp; exact IsK.mk)), ?_⟩)
      | (refine tri_step (id := 7) (C := ⟨[], [], [(2, (3, 0, 0))]⟩) [2, 3] [(3, 0, 0)] g11 nodraw ?_; refine ⟨_, by (simp [*, F23, F24, F25, pMsg, msgCells, szsL, tP, encB_cons, range5, flg]; exact Is.mk), ?_⟩)
      | (refine tri_last (id := 7) (C := ⟨[], [], [(2, (3, 0, 0))]⟩) [2, 3] [(3, 0, 0)] g11 nodraw ?_; refine ⟨_, by (simp [*, F23, F24, F25, pMsg, msgCells, szsL, tP, encB_cons, range5, flg]; exact Is.mk), ?_⟩)
      | (refine tri_step (id := 8) (C := ⟨[], [], [(2, (3, 0, 0))]⟩) [2, 4, 6] [(3, 0, 0)] g11 nodraw ?_; refine ⟨_, by (simp [*, F23, F24, F25, pMsg, msgCells, szsL, tP, encB_cons, range5, flg]; exact Is.mk), ?_⟩)
      | (refine tri_last (id := 8) (C := ⟨[], [], [(2, (3, 0, 0))]⟩) [2, 4, 6] [(3, 0, 0)] g11 nodraw ?_; refine ⟨_, by (simp [*, F23, F24, F25, pMsg, msgCells, szsL, tP, encB_cons, range5, flg]; exact Is.mk), ?_⟩)
      | (refine tri_step (id := 9) (C := ⟨[], [], [(2, (3, 0, 0))]⟩) [2, 4, 6, 8] [(3, 0, 0)] g11 nodraw ?_; refine ⟨_, by (simp [*, F23, F24, F25, pMsg, msgCells, szsL, tP, encB_cons, range5, flg]; exact Is.mk), ?_⟩)
      | (refine tri_last (id := 9) (C := ⟨[], [], [(2, (3, 0, 0))]⟩) [2, 4, 6, 8] [(3, 0, 0)] g11 nodraw ?_; refine ⟨_, by (simp [*, F23, F24, F25, pMsg, msgCells, szsL, tP, encB_cons, range5, flg]; exact Is.mk), ?_⟩)
      | (refine tri_step (id := 10) (C := ⟨[], [], [(2, (3, 0, 0))]⟩) [2, 3] [(3, 0, 0)] g11 (fun _ => ⟨q_mixed, by kernel_rfl⟩) ?_; refine ⟨_, by (simp [*, F23, F24, F25, pMsg, msgCells, szsL, tP, encB_cons, range5, flg]; exact Is.mk), ?_⟩)
      | (refine tri_last (id := 10) (C := ⟨[], [], [(2, (3, 0, 0))]⟩) [2, 3] [(3, 0, 0)] g11 (fun _ => ⟨q_mixed, by kernel_rfl⟩) ?_; refine ⟨_, by (simp [*, F23, F24, F25, pMsg, msgCells, szsL, tP, encB_cons, range5, flg]; exact Is.mk), ?_⟩)
      | (refine tri_cond (c := .tmp 16) (b_true (by simp; exact IsB.mk)) (fun hc => ?_) (fun hc => ?_))
      | (refine tri_cond (c := .tmp 21) (b_true (by simp; exact IsB.mk)) (fun hc => ?_) (fun hc => ?_))
      | (refine tri_cond (c := .tmp 27) (b_true (by simp; exact IsB.mk)) (fun hc => ?_) (fun hc => ?_))
      | (refine to_mk (by simp; exact IsK.mk))
      | (refine imp_ ?_)
      | ((simp; exact IsK.mk))
      | (refine tri_seq ?_)
      ))
    all_goals (refine post_plainV (P := Tryz.prog) (fn := Tryz.f11) (by simp; exact IsV.mk) rfl ?_)
    all_goals (simp [q3, msgCells]; done)
  · have q2 : splitE b = 0 := if_neg h12
    by_cases hs : sumF b = 65535
    · obtain ⟨c0, c1, c2, c3, c4, c5, c6, c7, c8, c9, c10, c11, r, rfl⟩ := cons12 h12
      have q1 := split12 c0 c1 c2 c3 c4 c5 c6 c7 c8 c9 c10 c11 r
      obtain ⟨k1, k2, k3, k4, k5, k6, k7⟩ := open12_facts _ _ _ _ _ _ _ _ _ _ _ _ _ hu
      have n1 : r.length ≤ 388 := by simp at hn; omega
      have n2 : r.length ≤ 99988 := by omega
      clear h12 hn hn5
      rcases bad_cases c2 c3 r with ⟨hb, b1⟩ | ⟨hb, b1, b2⟩ | ⟨hb, b1, b2, b3⟩ | ⟨hb, b1, b2, rfl, b4⟩ | ⟨hb, b1, b2, rfl, b4⟩
      case inr.inr.inr.inr =>
        have q3 := open12_ok _ _ _ _ _ _ _ _ _ _ _ _ _ hs hb
        clear hb
        all_goals (repeat' (first
      | (refine tri_condT (b_true (by simp; with_reducible exact IsB.mk)) ?_)
      | (refine tri_condF (b_true (by simp; with_reducible exact IsB.mk)) ?_)
      | (refine tri_skipT ?_)
      | (refine tri_skip ?_)
      | (refine then_to ?_)
      | (refine th_n ?_)
      | (refine in_n ?_)
      | (refine in_e ?_)
      | (refine in_x rfl ?_)
      | (refine th_e ?_)
      | (refine th_r ?_)
      | (refine in_r ?_)
      | (refine tri_ret ?_)
      | (refine tri_exit ?_)
      | (refine tri_block ?_)
      | (refine tri_step (id := 0) (C := ⟨[], [], [(2, (3, 0, 0))]⟩) [0, 2] [(3, 0, 0)] g11 nodraw ?_; refine ⟨_, by (simp [*, F23, F24, F25, pMsg, msgCells, szsL, tP, encB_cons, range5, flg]; exact Is.mk), ?_⟩)
      | (refine tri_last (id := 0) (C := ⟨[], [], [(2, (3, 0, 0))]⟩) [0, 2] [(3, 0, 0)] g11 nodraw ?_; refine ⟨_, by (simp [*, F23, F24, F25, pMsg, msgCells, szsL, tP, encB_cons, range5, flg]; exact Is.mk), ?_⟩)
      | (refine tri_step (id := 1) (C := ⟨[], [], [(2, (3, 0, 0))]⟩) [0, 2, 4, 5] [(3, 0, 0)] g11 nodraw ?_; refine ⟨_, by (simp [*, F23, F24, F25, pMsg, msgCells, szsL, tP, encB_cons, range5, flg]; exact Is.mk), ?_⟩)
      | (refine tri_last (id := 1) (C := ⟨[], [], [(2, (3, 0, 0))]⟩) [0, 2, 4, 5] [(3, 0, 0)] g11 nodraw ?_; refine ⟨_, by (simp [*, F23, F24, F25, pMsg, msgCells, szsL, tP, encB_cons, range5, flg]; exact Is.mk), ?_⟩)
      | (refine tri_step (id := 2) (C := ⟨[], [], [(2, (3, 0, 0))]⟩) [0, 2, 4, 5, 16] [(3, 0, 0)] g11 nodraw ?_; refine ⟨_, by (simp [*, F23, F24, F25, pMsg, msgCells, szsL, tP, encB_cons, range5, flg]; exact Is.mk), ?_⟩)
      | (refine tri_last (id := 2) (C := ⟨[], [], [(2, (3, 0, 0))]⟩) [0, 2, 4, 5, 16] [(3, 0, 0)] g11 nodraw ?_; refine ⟨_, by (simp [*, F23, F24, F25, pMsg, msgCells, szsL, tP, encB_cons, range5, flg]; exact Is.mk), ?_⟩)
      | (refine tri_step (id := 3) (C := ⟨[], [], [(2, (3, 0, 0))]⟩) [2, 3] [(3, 0, 0)] g11 nodraw ?_; refine ⟨_, by (simp [*, F23, F24, F25, pMsg, msgCells, szsL, tP, encB_cons, range5, flg]; exact Is.mk), ?_⟩)
      | (refine tri_last (id := 3) (C := ⟨[], [], [(2, (3, 0, 0))]⟩) [2, 3] [(3, 0, 0)] g11 nodraw ?_; refine ⟨_, by (simp [*, F23, F24, F25, pMsg, msgCells, szsL, tP, encB_cons, range5, flg]; exact Is.mk), ?_⟩)
      | (refine tri_step (id := 4) (C := ⟨[], [], [(2, (3, 0, 0))]⟩) [2, 4, 21] [(3, 0, 0)] g11 nodraw ?_; refine ⟨_, by (simp [*, F23, F24, F25, pMsg, msgCells, szsL, tP, encB_cons, range5, flg]; exact Is.mk), ?_⟩)
      | (refine tri_last (id := 4) (C := ⟨[], [], [(2, (3, 0, 0))]⟩) [2, 4, 21] [(3, 0, 0)] g11 nodraw ?_; refine ⟨_, by (simp [*, F23, F24, F25, pMsg, msgCells, szsL, tP, encB_cons, range5, flg]; exact Is.mk), ?_⟩)
      | (refine tri_step (id := 5) (C := ⟨[], [], [(2, (3, 0, 0))]⟩) [2, 3] [(3, 0, 0)] g11 nodraw ?_; refine ⟨_, by (simp [*, F23, F24, F25, pMsg, msgCells, szsL, tP, encB_cons, range5, flg]; exact Is.mk), ?_⟩)
      | (refine tri_last (id := 5) (C := ⟨[], [], [(2, (3, 0, 0))]⟩) [2, 3] [(3, 0, 0)] g11 nodraw ?_; refine ⟨_, by (simp [*, F23, F24, F25, pMsg, msgCells, szsL, tP, encB_cons, range5, flg]; exact Is.mk), ?_⟩)
      | (refine tri_stepG (id := 6) (C := ⟨[], [], [(2, (3, 0, 0))]⟩) [2, 4, 27] [(3, 0, 0)] g11 (fun _ => ⟨q_mixed, by kernel_rfl⟩) ?_; refine ⟨_, (run_split 0 8 35 (by simp [*, F23, F24, F25, pMsg, msgCells, szsL, tP, encB_cons, range5, flg]; exact Is.mk) (by simp; exact IsB.mk) (run_split 8 9 44 (by simp [*, F23, F24, F25, pMsg, msgCells, szsL, tP, encB_cons, range5, flg]; exact Is.mk) (by simp; exact IsB.mk) (run_split 17 13 57 (by simp [*, F23, F24, F25, pMsg, msgCells, szsL, tP, encB_cons, range5, flg]; exact Is.mk) (by simp; exact IsB.mk) (by simp [*, F23, F24, F25, pMsg, msgCells, szsL, tP, encB_cons, range5, flg]; exact IsK.mk) (by simp [*, F23, F24, F25, pMsg, msgCells, szsL, tP, encB_cons, range5, flg]; exact IsK.mk) (by simp; exact IsK.mk)) (run_split 17 13 57 (by simp [*, F23, F24, F25, pMsg, msgCells, szsL, tP, encB_cons, range5, flg]; exact Is.mk) (by simp; exact IsB.mk) (by simp [*, F23, F24, F25, pMsg, msgCells, szsL, tP, encB_cons, range5, flg]; exact IsK.mk) (by simp [*, F23, F24, F25, pMsg, msgCells, szsL, tP, encB_cons, range5, flg]; exact IsK.mk) (by simp; exact IsK.mk)) (by simp; exact IsK.mk)) (run_split 8 9 44 (by simp [*, F23, F24, F25, pMsg, msgCells, szsL, tP, encB_cons, range5, flg]; exact Is.mk) (by simp; exact IsB.mk) (run_split 17 13 57 (by simp [*, F23, F24, F25, pMsg, msgCells, szsL, tP, encB_cons, range5, flg]; exact Is.mk) (by simp; exact IsB.mk) (by simp [*, F23, F24, F25, pMsg, msgCells, szsL, tP, encB_cons, range5, flg]; exact IsK.mk) (by simp [*, F23, F24, F25, pMsg, msgCells, szsL, tP, encB_cons, range5, flg]; exact IsK.mk) (by simp; exact IsK.mk)) (run_split 17 13 57 (by simp [*, F23, F24, F25, pMsg, msgCells, szsL, tP, encB_cons, range5, flg]; exact Is.mk) (by simp; exact IsB.mk) (by simp [*, F23, F24, F25, pMsg, msgCells, szsL, tP, encB_cons, range5, flg]; exact IsK.mk) (by simp [*, F23, F24, F25, pMsg, msgCells, szsL, tP, encB_cons, range5, flg]; exact IsK.mk) (by simp; exact IsK.mk)) (by simp; exact IsK.mk)) (by simp; exact IsK.mk)), ?_⟩)
      | (refine tri_lastG (id := 6) (C := ⟨[], [], [(2, (3, 0, 0))]⟩) [2, 4, 27] [(3, 0, 0)] g11 (fun _ => ⟨q_mixed, by kernel_rfl⟩) ?_; refine ⟨_, (run_split 0 8 35 (by simp [*, F23, F24, F25, pMsg, msgCells, szsL, tP, encB_cons, range5, flg]; exact Is.mk) (by simp; exact IsB.mk) (run_split 8 9 44 (by simp [*, F23, F24, F25, pMsg, msgCells, szsL, tP, encB_cons, range5, flg]; exact Is.mk) (by simp; exact IsB.mk) (run_split 17 13 57 (by simp [*, F23, F24, F25, pMsg, msgCells, szsL, tP, encB_cons, range5, flg]; exact Is.mk) (by simp; exact IsB.mk) (by simp [*, F23, F24, F25, pMsg, msgCells, szsL, tP, encB_cons, range5, flg]; exact IsK.mk) (by simp [*, F23, F24, F25, pMsg, msgCells, szsL, tP, encB_cons, range5, flg]; exact IsK.mk) (by simp; exact IsK.mk)) (run_split 17 13 57 (by simp [*, F23, F24, F25, pMsg, msgCells, szsL, tP, encB_cons, range5, flg]; exact Is.mk) (by simp; exact IsB.mk) (by simp [*, F23, F24, F25, pMsg, msgCells, szsL, tP, encB_cons, range5, flg]; exact IsK.mk) (by simp [*, F23, F24, F25, pMsg, msgCells, szsL, tP, encB_cons, range5, flg]; exact IsK.mk) (by simp; exact IsK.mk)) (by simp; exact IsK.mk)) (run_split 8 9 44 (by simp [*, F23, F24, F25, pMsg, msgCells, szsL, tP, encB_cons, range5, flg]; exact Is.mk) (by simp; exact IsB.mk) (run_split 17 13 57 (by simp [*, F23, F24, F25, pMsg, msgCells, szsL, tP, encB_cons, range5, flg]; exact Is.mk) (by simp; exact IsB.mk) (by simp [*, F23, F24, F25, pMsg, msgCells, szsL, tP, encB_cons, range5, flg]; exact IsK.mk) (by simp [*, F23, F24, F25, pMsg, msgCells, szsL, tP, encB_cons, range5, flg]; exact IsK.mk) (by simp; exact IsK.mk)) (run_split 17 13 57 (by simp [*, F23, F24, F25, pMsg, msgCells, szsL, tP, encB_cons, range5, flg]; exact Is.mk) (by simp; exact IsB.mk) (by simp [*, F23, F24, F25, pMsg, msgCells, szsL, tP, encB_cons, range5, flg]; exact IsK.mk) (by simp [*, F23, F24, F25, pMsg, msgCells, szsL, tP, encB_cons, range5, flg]; exact IsK.mk) (by simp; exact IsK.mk)) (by simp; exact IsK.mk)) (by simp; exact IsK.mk)), ?_⟩)
      | (refine tri_step (id := 7) (C := ⟨[], [], [(2, (3, 0, 0))]⟩) [2, 3] [(3, 0, 0)] g11 nodraw ?_; refine ⟨_, by (simp [*, F23, F24, F25, pMsg, msgCells, szsL, tP, encB_cons, range5, flg]; exact Is.mk), ?_⟩)
      | (refine tri_last (id := 7) (C := ⟨[], [], [(2, (3, 0, 0))]⟩) [2, 3] [(3, 0, 0)] g11 nodraw ?_; refine ⟨_, by (simp [*, F23, F24, F25, pMsg, msgCells, szsL, tP, encB_cons, range5, flg]; exact Is.mk), ?_⟩)
      | (refine tri_step (id := 8) (C := ⟨[], [], [(2, (3, 0, 0))]⟩) [2, 4, 6] [(3, 0, 0)] g11 nodraw ?_; refine ⟨_, by (simp [*, F23, F24, F25, pMsg, msgCells, szsL, tP, encB_cons, range5, flg]; exact Is.mk), ?_⟩)
      | (refine tri_last (id := 8) (C := ⟨[], [], [(2, (3, 0, 0))]⟩) [2, 4, 6] [(3, 0, 0)] g11 nodraw ?_; refine ⟨_, by (simp [*, F23, F24, F25, pMsg, msgCells, szsL, tP, encB_cons, range5, flg]; exact Is.mk), ?_⟩)
      | (refine tri_step (id := 9) (C := ⟨[], [], [(2, (3, 0, 0))]⟩) [2, 4, 6, 8] [(3, 0, 0)] g11 nodraw ?_; refine ⟨_, by (simp [*, F23, F24, F25, pMsg, msgCells, szsL, tP, encB_cons, range5, flg]; exact Is.mk), ?_⟩)
      | (refine tri_last (id := 9) (C := ⟨[], [], [(2, (3, 0, 0))]⟩) [2, 4, 6, 8] [(3, 0, 0)] g11 nodraw ?_; refine ⟨_, by (simp [*, F23, F24, F25, pMsg, msgCells, szsL, tP, encB_cons, range5, flg]; exact Is.mk), ?_⟩)
      | (refine tri_step (id := 10) (C := ⟨[], [], [(2, (3, 0, 0))]⟩) [2, 3] [(3, 0, 0)] g11 (fun _ => ⟨q_mixed, by kernel_rfl⟩) ?_; refine ⟨_, by (simp [*, F23, F24, F25, pMsg, msgCells, szsL, tP, encB_cons, range5, flg]; exact Is.mk), ?_⟩)
      | (refine tri_last (id := 10) (C := ⟨[], [], [(2, (3, 0, 0))]⟩) [2, 3] [(3, 0, 0)] g11 (fun _ => ⟨q_mixed, by kernel_rfl⟩) ?_; refine ⟨_, by (simp [*, F23, F24, F25, pMsg, msgCells, szsL, tP, encB_cons, range5, flg]; exact Is.mk), ?_⟩)
      | (refine tri_cond (c := .tmp 16) (b_true (by simp; exact IsB.mk)) (fun hc => ?_) (fun hc => ?_))
      | (refine tri_cond (c := .tmp 21) (b_true (by simp; exact IsB.mk)) (fun hc => ?_) (fun hc => ?_))
      | (refine tri_cond (c := .tmp 27) (b_true (by simp; exact IsB.mk)) (fun hc => ?_) (fun hc => ?_))
      | (refine to_mk (by simp; exact IsK.mk))
      | (refine imp_ ?_)
      | ((simp; exact IsK.mk))
      | (refine tri_seq ?_)
      ))
        all_goals (refine post_plainV (P := Tryz.prog) (fn := Tryz.f11) (by simp; exact IsV.mk) rfl ?_)
        all_goals (simp [q3, msgCells]; done)
      all_goals (have q3 := open12_bad _ _ _ _ _ _ _ _ _ _ _ _ _ hs hb; clear hb)
      all_goals (repeat' (first
      | (refine tri_condT (b_true (by simp; with_reducible exact IsB.mk)) ?_)
      | (refine tri_condF (b_true (by simp; with_reducible exact IsB.mk)) ?_)
      | (refine tri_skipT ?_)
      | (refine tri_skip ?_)
      | (refine then_to ?_)
      | (refine th_n ?_)
      | (refine in_n ?_)
      | (refine in_e ?_)
      | (refine in_x rfl ?_)
      | (refine th_e ?_)
      | (refine th_r ?_)
      | (refine in_r ?_)
      | (refine tri_ret ?_)
      | (refine tri_exit ?_)
      | (refine tri_block ?_)
      | (refine tri_step (id := 0) (C := ⟨[], [], [(2, (3, 0, 0))]⟩) [0, 2] [(3, 0, 0)] g11 nodraw ?_; refine ⟨_, by (simp [*, F23, F24, F25, pMsg, msgCells, szsL, tP, encB_cons, range5, flg]; exact Is.mk), ?_⟩)
      | (refine tri_last (id := 0) (C := ⟨[], [], [(2, (3, 0, 0))]⟩) [0, 2] [(3, 0, 0)] g11 nodraw ?_; refine ⟨_, by (simp [*, F23, F24, F25, pMsg, msgCells, szsL, tP, encB_cons, range5, flg]; exact Is.mk), ?_⟩)
      | (refine tri_step (id := 1) (C := ⟨[], [], [(2, (3, 0, 0))]⟩) [0, 2, 4, 5] [(3, 0, 0)] g11 nodraw ?_; refine ⟨_, by (simp [*, F23, F24, F25, pMsg, msgCells, szsL, tP, encB_cons, range5, flg]; exact Is.mk), ?_⟩)
      | (refine tri_last (id := 1) (C := ⟨[], [], [(2, (3, 0, 0))]⟩) [0, 2, 4, 5] [(3, 0, 0)] g11 nodraw ?_; refine ⟨_, by (simp [*, F23, F24, F25, pMsg, msgCells, szsL, tP, encB_cons, range5, flg]; exact Is.mk), ?_⟩)
      | (refine tri_step (id := 2) (C := ⟨[], [], [(2, (3, 0, 0))]⟩) [0, 2, 4, 5, 16] [(3, 0, 0)] g11 nodraw ?_; refine ⟨_, by (simp [*, F23, F24, F25, pMsg, msgCells, szsL, tP, encB_cons, range5, flg]; exact Is.mk), ?_⟩)
      | (refine tri_last (id := 2) (C := ⟨[], [], [(2, (3, 0, 0))]⟩) [0, 2, 4, 5, 16] [(3, 0, 0)] g11 nodraw ?_; refine ⟨_, by (simp [*, F23, F24, F25, pMsg, msgCells, szsL, tP, encB_cons, range5, flg]; exact Is.mk), ?_⟩)
      | (refine tri_step (id := 3) (C := ⟨[], [], [(2, (3, 0, 0))]⟩) [2, 3] [(3, 0, 0)] g11 nodraw ?_; refine ⟨_, by (simp [*, F23, F24, F25, pMsg, msgCells, szsL, tP, encB_cons, range5, flg]; exact Is.mk), ?_⟩)
      | (refine tri_last (id := 3) (C := ⟨[], [], [(2, (3, 0, 0))]⟩) [2, 3] [(3, 0, 0)] g11 nodraw ?_; refine ⟨_, by (simp [*, F23, F24, F25, pMsg, msgCells, szsL, tP, encB_cons, range5, flg]; exact Is.mk), ?_⟩)
      | (refine tri_step (id := 4) (C := ⟨[], [], [(2, (3, 0, 0))]⟩) [2, 4, 21] [(3, 0, 0)] g11 nodraw ?_; refine ⟨_, by (simp [*, F23, F24, F25, pMsg, msgCells, szsL, tP, encB_cons, range5, flg]; exact Is.mk), ?_⟩)
      | (refine tri_last (id := 4) (C := ⟨[], [], [(2, (3, 0, 0))]⟩) [2, 4, 21] [(3, 0, 0)] g11 nodraw ?_; refine ⟨_, by (simp [*, F23, F24, F25, pMsg, msgCells, szsL, tP, encB_cons, range5, flg]; exact Is.mk), ?_⟩)
      | (refine tri_step (id := 5) (C := ⟨[], [], [(2, (3, 0, 0))]⟩) [2, 3] [(3, 0, 0)] g11 nodraw ?_; refine ⟨_, by (simp [*, F23, F24, F25, pMsg, msgCells, szsL, tP, encB_cons, range5, flg]; exact Is.mk), ?_⟩)
      | (refine tri_last (id := 5) (C := ⟨[], [], [(2, (3, 0, 0))]⟩) [2, 3] [(3, 0, 0)] g11 nodraw ?_; refine ⟨_, by (simp [*, F23, F24, F25, pMsg, msgCells, szsL, tP, encB_cons, range5, flg]; exact Is.mk), ?_⟩)
      | (refine tri_stepG (id := 6) (C := ⟨[], [], [(2, (3, 0, 0))]⟩) [2, 4, 27] [(3, 0, 0)] g11 (fun _ => ⟨q_mixed, by kernel_rfl⟩) ?_; refine ⟨_, (run_split 0 8 35 (by simp [*, F23, F24, F25, pMsg, msgCells, szsL, tP, encB_cons, range5, flg]; exact Is.mk) (by simp; exact IsB.mk) (run_split 8 9 44 (by simp [*, F23, F24, F25, pMsg, msgCells, szsL, tP, encB_cons, range5, flg]; exact Is.mk) (by simp; exact IsB.mk) (run_split 17 13 57 (by simp [*, F23, F24, F25, pMsg, msgCells, szsL, tP, encB_cons, range5, flg]; exact Is.mk) (by simp; exact IsB.mk) (by simp [*, F23, F24, F25, pMsg, msgCells, szsL, tP, encB_cons, range5, flg]; exact IsK.mk) (by simp [*, F23, F24, F25, pMsg, msgCells, szsL, tP, encB_cons, range5, flg]; exact IsK.mk) (by simp; exact IsK.mk)) (run_split 17 13 57 (by simp [*, F23, F24, F25, pMsg, msgCells, szsL, tP, encB_cons, range5, flg]; exact Is.mk) (by simp; exact IsB.mk) (by simp [*, F23, F24, F25, pMsg, msgCells, szsL, tP, encB_cons, range5, flg]; exact IsK.mk) (by simp [*, F23, F24, F25, pMsg, msgCells, szsL, tP, encB_cons, range5, flg]; exact IsK.mk) (by simp; exact IsK.mk)) (by simp; exact IsK.mk)) (run_split 8 9 44 (by simp [*, F23, F24, F25, pMsg, msgCells, szsL, tP, encB_cons, range5, flg]; exact Is.mk) (by simp; exact IsB.mk) (run_split 17 13 57 (by simp [*, F23, F24, F25, pMsg, msgCells, szsL, tP, encB_cons, range5, flg]; exact Is.mk) (by simp; exact IsB.mk) (by simp [*, F23, F24, F25, pMsg, msgCells, szsL, tP, encB_cons, range5, flg]; exact IsK.mk) (by simp [*, F23, F24, F25, pMsg, msgCells, szsL, tP, encB_cons, range5, flg]; exact IsK.mk) (by simp; exact IsK.mk)) (run_split 17 13 57 (by simp [*, F23, F24, F25, pMsg, msgCells, szsL, tP, encB_cons, range5, flg]; exact Is.mk) (by simp; exact IsB.mk) (by simp [*, F23, F24, F25, pMsg, msgCells, szsL, tP, encB_cons, range5, flg]; exact IsK.mk) (by simp [*, F23, F24, F25, pMsg, msgCells, szsL, tP, encB_cons, range5, flg]; exact IsK.mk) (by simp; exact IsK.mk)) (by simp; exact IsK.mk)) (by simp; exact IsK.mk)), ?_⟩)
      | (refine tri_lastG (id := 6) (C := ⟨[], [], [(2, (3, 0, 0))]⟩) [2, 4, 27] [(3, 0, 0)] g11 (fun _ => ⟨q_mixed, by kernel_rfl⟩) ?_; refine ⟨_, (run_split 0 8 35 (by simp [*, F23, F24, F25, pMsg, msgCells, szsL, tP, encB_cons, range5, flg]; exact Is.mk) (by simp; exact IsB.mk) (run_split 8 9 44 (by simp [*, F23, F24, F25, pMsg, msgCells, szsL, tP, encB_cons, range5, flg]; exact Is.mk) (by simp; exact IsB.mk) (run_split 17 13 57 (by simp [*, F23, F24, F25, pMsg, msgCells, szsL, tP, encB_cons, range5, flg]; exact Is.mk) (by simp; exact IsB.mk) (by simp [*, F23, F24, F25, pMsg, msgCells, szsL, tP, encB_cons, range5, flg]; exact IsK.mk) (by simp [*, F23, F24, F25, pMsg, msgCells, szsL, tP, encB_cons, range5, flg]; exact IsK.mk) (by simp; exact IsK.mk)) (run_split 17 13 57 (by simp [*, F23, F24, F25, pMsg, msgCells, szsL, tP, encB_cons, range5, flg]; exact Is.mk) (by simp; exact IsB.mk) (by simp [*, F23, F24, F25, pMsg, msgCells, szsL, tP, encB_cons, range5, flg]; exact IsK.mk) (by simp [*, F23, F24, F25, pMsg, msgCells, szsL, tP, encB_cons, range5, flg]; exact IsK.mk) (by simp; exact IsK.mk)) (by simp; exact IsK.mk)) (run_split 8 9 44 (by simp [*, F23, F24, F25, pMsg, msgCells, szsL, tP, encB_cons, range5, flg]; exact Is.mk) (by simp; exact IsB.mk) (run_split 17 13 57 (by simp [*, F23, F24, F25, pMsg, msgCells, szsL, tP, encB_cons, range5, flg]; exact Is.mk) (by simp; exact IsB.mk) (by simp [*, F23, F24, F25, pMsg, msgCells, szsL, tP, encB_cons, range5, flg]; exact IsK.mk) (by simp [*, F23, F24, F25, pMsg, msgCells, szsL, tP, encB_cons, range5, flg]; exact IsK.mk) (by simp; exact IsK.mk)) (run_split 17 13 57 (by simp [*, F23, F24, F25, pMsg, msgCells, szsL, tP, encB_cons, range5, flg]; exact Is.mk) (by simp; exact IsB.mk) (by simp [*, F23, F24, F25, pMsg, msgCells, szsL, tP, encB_cons, range5, flg]; exact IsK.mk) (by simp [*, F23, F24, F25, pMsg, msgCells, szsL, tP, encB_cons, range5, flg]; exact IsK.mk) (by simp; exact IsK.mk)) (by simp; exact IsK.mk)) (by simp; exact IsK.mk)), ?_⟩)
      | (refine tri_step (id := 7) (C := ⟨[], [], [(2, (3, 0, 0))]⟩) [2, 3] [(3, 0, 0)] g11 nodraw ?_; refine ⟨_, by (simp [*, F23, F24, F25, pMsg, msgCells, szsL, tP, encB_cons, range5, flg]; exact Is.mk), ?_⟩)
      | (refine tri_last (id := 7) (C := ⟨[], [], [(2, (3, 0, 0))]⟩) [2, 3] [(3, 0, 0)] g11 nodraw ?_; refine ⟨_, by (simp [*, F23, F24, F25, pMsg, msgCells, szsL, tP, encB_cons, range5, flg]; exact Is.mk), ?_⟩)
      | (refine tri_step (id := 8) (C := ⟨[], [], [(2, (3, 0, 0))]⟩) [2, 4, 6] [(3, 0, 0)] g11 nodraw ?_; refine ⟨_, by (simp [*, F23, F24, F25, pMsg, msgCells, szsL, tP, encB_cons, range5, flg]; exact Is.mk), ?_⟩)
      | (refine tri_last (id := 8) (C := ⟨[], [], [(2, (3, 0, 0))]⟩) [2, 4, 6] [(3, 0, 0)] g11 nodraw ?_; refine ⟨_, by (simp [*, F23, F24, F25, pMsg, msgCells, szsL, tP, encB_cons, range5, flg]; exact Is.mk), ?_⟩)
      | (refine tri_step (id := 9) (C := ⟨[], [], [(2, (3, 0, 0))]⟩) [2, 4, 6, 8] [(3, 0, 0)] g11 nodraw ?_; refine ⟨_, by (simp [*, F23, F24, F25, pMsg, msgCells, szsL, tP, encB_cons, range5, flg]; exact Is.mk), ?_⟩)
      | (refine tri_last (id := 9) (C := ⟨[], [], [(2, (3, 0, 0))]⟩) [2, 4, 6, 8] [(3, 0, 0)] g11 nodraw ?_; refine ⟨_, by (simp [*, F23, F24, F25, pMsg, msgCells, szsL, tP, encB_cons, range5, flg]; exact Is.mk), ?_⟩)
      | (refine tri_step (id := 10) (C := ⟨[], [], [(2, (3, 0, 0))]⟩) [2, 3] [(3, 0, 0)] g11 (fun _ => ⟨q_mixed, by kernel_rfl⟩) ?_; refine ⟨_, by (simp [*, F23, F24, F25, pMsg, msgCells, szsL, tP, encB_cons, range5, flg]; exact Is.mk), ?_⟩)
      | (refine tri_last (id := 10) (C := ⟨[], [], [(2, (3, 0, 0))]⟩) [2, 3] [(3, 0, 0)] g11 (fun _ => ⟨q_mixed, by kernel_rfl⟩) ?_; refine ⟨_, by (simp [*, F23, F24, F25, pMsg, msgCells, szsL, tP, encB_cons, range5, flg]; exact Is.mk), ?_⟩)
      | (refine tri_cond (c := .tmp 16) (b_true (by simp; exact IsB.mk)) (fun hc => ?_) (fun hc => ?_))
      | (refine tri_cond (c := .tmp 21) (b_true (by simp; exact IsB.mk)) (fun hc => ?_) (fun hc => ?_))
      | (refine tri_cond (c := .tmp 27) (b_true (by simp; exact IsB.mk)) (fun hc => ?_) (fun hc => ?_))
      | (refine to_mk (by simp; exact IsK.mk))
      | (refine imp_ ?_)
      | ((simp; exact IsK.mk))
      | (refine tri_seq ?_)
      ))
      all_goals (refine post_plainV (P := Tryz.prog) (fn := Tryz.f11) (by simp; exact IsV.mk) rfl ?_)
      all_goals (first | (simp [q3, msgCells]; done) | (exfalso; simp_all; done))
    · have q3 : openF b = (⟨0, 0, 0, []⟩, 8) := by unfold openF; rw [if_neg h12, if_pos hs]
      have hs2 : (sumF b == 65535) = false := by simpa using hs
      all_goals (repeat' (first
      | (refine tri_condT (b_true (by simp; with_reducible exact IsB.mk)) ?_)
      | (refine tri_condF (b_true (by simp; with_reducible exact IsB.mk)) ?_)
      | (refine tri_skipT ?_)
      | (refine tri_skip ?_)
      | (refine then_to ?_)
      | (refine th_n ?_)
      | (refine in_n ?_)
      | (refine in_e ?_)
      | (refine in_x rfl ?_)
      | (refine th_e ?_)
      | (refine th_r ?_)
      | (refine in_r ?_)
      | (refine tri_ret ?_)
      | (refine tri_exit ?_)
      | (refine tri_block ?_)
      | (refine tri_step (id := 0) (C := ⟨[], [], [(2, (3, 0, 0))]⟩) [0, 2] [(3, 0, 0)] g11 nodraw ?_; refine ⟨_, by (simp [*, F23, F24, F25, pMsg, msgCells, szsL, tP, encB_cons, range5, flg]; exact Is.mk), ?_⟩)
      | (refine tri_last (id := 0) (C := ⟨[], [], [(2, (3, 0, 0))]⟩) [0, 2] [(3, 0, 0)] g11 nodraw ?_; refine ⟨_, by (simp [*, F23, F24, F25, pMsg, msgCells, szsL, tP, encB_cons, range5, flg]; exact Is.mk), ?_⟩)
      | (refine tri_step (id := 1) (C := ⟨[], [], [(2, (3, 0, 0))]⟩) [0, 2, 4, 5] [(3, 0, 0)] g11 nodraw ?_; refine ⟨_, by (simp [*, F23, F24, F25, pMsg, msgCells, szsL, tP, encB_cons, range5, flg]; exact Is.mk), ?_⟩)
      | (refine tri_last (id := 1) (C := ⟨[], [], [(2, (3, 0, 0))]⟩) [0, 2, 4, 5] [(3, 0, 0)] g11 nodraw ?_; refine ⟨_, by (simp [*, F23, F24, F25, pMsg, msgCells, szsL, tP, encB_cons, range5, flg]; exact Is.mk), ?_⟩)
      | (refine tri_step (id := 2) (C := ⟨[], [], [(2, (3, 0, 0))]⟩) [0, 2, 4, 5, 16] [(3, 0, 0)] g11 nodraw ?_; refine ⟨_, by (simp [*, F23, F24, F25, pMsg, msgCells, szsL, tP, encB_cons, range5, flg]; exact Is.mk), ?_⟩)
      | (refine tri_last (id := 2) (C := ⟨[], [], [(2, (3, 0, 0))]⟩) [0, 2, 4, 5, 16] [(3, 0, 0)] g11 nodraw ?_; refine ⟨_, by (simp [*, F23, F24, F25, pMsg, msgCells, szsL, tP, encB_cons, range5, flg]; exact Is.mk), ?_⟩)
      | (refine tri_step (id := 3) (C := ⟨[], [], [(2, (3, 0, 0))]⟩) [2, 3] [(3, 0, 0)] g11 nodraw ?_; refine ⟨_, by (simp [*, F23, F24, F25, pMsg, msgCells, szsL, tP, encB_cons, range5, flg]; exact Is.mk), ?_⟩)
      | (refine tri_last (id := 3) (C := ⟨[], [], [(2, (3, 0, 0))]⟩) [2, 3] [(3, 0, 0)] g11 nodraw ?_; refine ⟨_, by (simp [*, F23, F24, F25, pMsg, msgCells, szsL, tP, encB_cons, range5, flg]; exact Is.mk), ?_⟩)
      | (refine tri_step (id := 4) (C := ⟨[], [], [(2, (3, 0, 0))]⟩) [2, 4, 21] [(3, 0, 0)] g11 nodraw ?_; refine ⟨_, by (simp [*, F23, F24, F25, pMsg, msgCells, szsL, tP, encB_cons, range5, flg]; exact Is.mk), ?_⟩)
      | (refine tri_last (id := 4) (C := ⟨[], [], [(2, (3, 0, 0))]⟩) [2, 4, 21] [(3, 0, 0)] g11 nodraw ?_; refine ⟨_, by (simp [*, F23, F24, F25, pMsg, msgCells, szsL, tP, encB_cons, range5, flg]; exact Is.mk), ?_⟩)
      | (refine tri_step (id := 5) (C := ⟨[], [], [(2, (3, 0, 0))]⟩) [2, 3] [(3, 0, 0)] g11 nodraw ?_; refine ⟨_, by (simp [*, F23, F24, F25, pMsg, msgCells, szsL, tP, encB_cons, range5, flg]; exact Is.mk), ?_⟩)
      | (refine tri_last (id := 5) (C := ⟨[], [], [(2, (3, 0, 0))]⟩) [2, 3] [(3, 0, 0)] g11 nodraw ?_; refine ⟨_, by (simp [*, F23, F24, F25, pMsg, msgCells, szsL, tP, encB_cons, range5, flg]; exact Is.mk), ?_⟩)
      | (refine tri_stepG (id := 6) (C := ⟨[], [], [(2, (3, 0, 0))]⟩) [2, 4, 27] [(3, 0, 0)] g11 (fun _ => ⟨q_mixed, by kernel_rfl⟩) ?_; refine ⟨_, (run_split 0 8 35 (by simp [*, F23, F24, F25, pMsg, msgCells, szsL, tP, encB_cons, range5, flg]; exact Is.mk) (by simp; exact IsB.mk) (run_split 8 9 44 (by simp [*, F23, F24, F25, pMsg, msgCells, szsL, tP, encB_cons, range5, flg]; exact Is.mk) (by simp; exact IsB.mk) (run_split 17 13 57 (by simp [*, F23, F24, F25, pMsg, msgCells, szsL, tP, encB_cons, range5, flg]; exact Is.mk) (by simp; exact IsB.mk) (by simp [*, F23, F24, F25, pMsg, msgCells, szsL, tP, encB_cons, range5, flg]; exact IsK.mk) (by simp [*, F23, F24, F25, pMsg, msgCells, szsL, tP, encB_cons, range5, flg]; exact IsK.mk) (by simp; exact IsK.mk)) (run_split 17 13 57 (by simp [*, F23, F24, F25, pMsg, msgCells, szsL, tP, encB_cons, range5, flg]; exact Is.mk) (by simp; exact IsB.mk) (by simp [*, F23, F24, F25, pMsg, msgCells, szsL, tP, encB_cons, range5, flg]; exact IsK.mk) (by simp [*, F23, F24, F25, pMsg, msgCells, szsL, tP, encB_cons, range5, flg]; exact IsK.mk) (by simp; exact IsK.mk)) (by simp; exact IsK.mk)) (run_split 8 9 44 (by simp [*, F23, F24, F25, pMsg, msgCells, szsL, tP, encB_cons, range5, flg]; exact Is.mk) (by simp; exact IsB.mk) (run_split 17 13 57 (by simp [*, F23, F24, F25, pMsg, msgCells, szsL, tP, encB_cons, range5, flg]; exact Is.mk) (by simp; exact IsB.mk) (by simp [*, F23, F24, F25, pMsg, msgCells, szsL, tP, encB_cons, range5, flg]; exact IsK.mk) (by simp [*, F23, F24, F25, pMsg, msgCells, szsL, tP, encB_cons, range5, flg]; exact IsK.mk) (by simp; exact IsK.mk)) (run_split 17 13 57 (by simp [*, F23, F24, F25, pMsg, msgCells, szsL, tP, encB_cons, range5, flg]; exact Is.mk) (by simp; exact IsB.mk) (by simp [*, F23, F24, F25, pMsg, msgCells, szsL, tP, encB_cons, range5, flg]; exact IsK.mk) (by simp [*, F23, F24, F25, pMsg, msgCells, szsL, tP, encB_cons, range5, flg]; exact IsK.mk) (by simp; exact IsK.mk)) (by simp; exact IsK.mk)) (by simp; exact IsK.mk)), ?_⟩)
      | (refine tri_lastG (id := 6) (C := ⟨[], [], [(2, (3, 0, 0))]⟩) [2, 4, 27] [(3, 0, 0)] g11 (fun _ => ⟨q_mixed, by kernel_rfl⟩) ?_; refine ⟨_, (run_split 0 8 35 (by simp [*, F23, F24, F25, pMsg, msgCells, szsL, tP, encB_cons, range5, flg]; exact Is.mk) (by simp; exact IsB.mk) (run_split 8 9 44 (by simp [*, F23, F24, F25, pMsg, msgCells, szsL, tP, encB_cons, range5, flg]; exact Is.mk) (by simp; exact IsB.mk) (run_split 17 13 57 (by simp [*, F23, F24, F25, pMsg, msgCells, szsL, tP, encB_cons, range5, flg]; exact Is.mk) (by simp; exact IsB.mk) (by simp [*, F23, F24, F25, pMsg, msgCells, szsL, tP, encB_cons, range5, flg]; exact IsK.mk) (by simp [*, F23, F24, F25, pMsg, msgCells, szsL, tP, encB_cons, range5, flg]; exact IsK.mk) (by simp; exact IsK.mk)) (run_split 17 13 57 (by simp [*, F23, F24, F25, pMsg, msgCells, szsL, tP, encB_cons, range5, flg]; exact Is.mk) (by simp; exact IsB.mk) (by simp [*, F23, F24, F25, pMsg, msgCells, szsL, tP, encB_cons, range5, flg]; exact IsK.mk) (by simp [*, F23, F24, F25, pMsg, msgCells, szsL, tP, encB_cons, range5, flg]; exact IsK.mk) (by simp; exact IsK.mk)) (by simp; exact IsK.mk)) (run_split 8 9 44 (by simp [*, F23, F24, F25, pMsg, msgCells, szsL, tP, encB_cons, range5, flg]; exact Is.mk) (by simp; exact IsB.mk) (run_split 17 13 57 (by simp [*, F23, F24, F25, pMsg, msgCells, szsL, tP, encB_cons, range5, flg]; exact Is.mk) (by simp; exact IsB.mk) (by simp [*, F23, F24, F25, pMsg, msgCells, szsL, tP, encB_cons, range5, flg]; exact IsK.mk) (by simp [*, F23, F24, F25, pMsg, msgCells, szsL, tP, encB_cons, range5, flg]; exact IsK.mk) (by simp; exact IsK.mk)) (run_split 17 13 57 (by simp [*, F23, F24, F25, pMsg, msgCells, szsL, tP, encB_cons, range5, flg]; exact Is.mk) (by simp; exact IsB.mk) (by simp [*, F23, F24, F25, pMsg, msgCells, szsL, tP, encB_cons, range5, flg]; exact IsK.mk) (by simp [*, F23, F24, F25, pMsg, msgCells, szsL, tP, encB_cons, range5, flg]; exact IsK.mk) (by simp; exact IsK.mk)) (by simp; exact IsK.mk)) (by simp; exact IsK.mk)), ?_⟩)
      | (refine tri_step (id := 7) (C := ⟨[], [], [(2, (3, 0, 0))]⟩) [2, 3] [(3, 0, 0)] g11 nodraw ?_; refine ⟨_, by (simp [*, F23, F24, F25, pMsg, msgCells, szsL, tP, encB_cons, range5, flg]; exact Is.mk), ?_⟩)
      | (refine tri_last (id := 7) (C := ⟨[], [], [(2, (3, 0, 0))]⟩) [2, 3] [(3, 0, 0)] g11 nodraw ?_; refine ⟨_, by (simp [*, F23, F24, F25, pMsg, msgCells, szsL, tP, encB_cons, range5, flg]; exact Is.mk), ?_⟩)
      | (refine tri_step (id := 8) (C := ⟨[], [], [(2, (3, 0, 0))]⟩) [2, 4, 6] [(3, 0, 0)] g11 nodraw ?_; refine ⟨_, by (simp [*, F23, F24, F25, pMsg, msgCells, szsL, tP, encB_cons, range5, flg]; exact Is.mk), ?_⟩)
      | (refine tri_last (id := 8) (C := ⟨[], [], [(2, (3, 0, 0))]⟩) [2, 4, 6] [(3, 0, 0)] g11 nodraw ?_; refine ⟨_, by (simp [*, F23, F24, F25, pMsg, msgCells, szsL, tP, encB_cons, range5, flg]; exact Is.mk), ?_⟩)
      | (refine tri_step (id := 9) (C := ⟨[], [], [(2, (3, 0, 0))]⟩) [2, 4, 6, 8] [(3, 0, 0)] g11 nodraw ?_; refine ⟨_, by (simp [*, F23, F24, F25, pMsg, msgCells, szsL, tP, encB_cons, range5, flg]; exact Is.mk), ?_⟩)
      | (refine tri_last (id := 9) (C := ⟨[], [], [(2, (3, 0, 0))]⟩) [2, 4, 6, 8] [(3, 0, 0)] g11 nodraw ?_; refine ⟨_, by (simp [*, F23, F24, F25, pMsg, msgCells, szsL, tP, encB_cons, range5, flg]; exact Is.mk), ?_⟩)
      | (refine tri_step (id := 10) (C := ⟨[], [], [(2, (3, 0, 0))]⟩) [2, 3] [(3, 0, 0)] g11 (fun _ => ⟨q_mixed, by kernel_rfl⟩) ?_; refine ⟨_, by (simp [*, F23, F24, F25, pMsg, msgCells, szsL, tP, encB_cons, range5, flg]; exact Is.mk), ?_⟩)
      | (refine tri_last (id := 10) (C := ⟨[], [], [(2, (3, 0, 0))]⟩) [2, 3] [(3, 0, 0)] g11 (fun _ => ⟨q_mixed, by kernel_rfl⟩) ?_; refine ⟨_, by (simp [*, F23, F24, F25, pMsg, msgCells, szsL, tP, encB_cons, range5, flg]; exact Is.mk), ?_⟩)
      | (refine tri_cond (c := .tmp 16) (b_true (by simp; exact IsB.mk)) (fun hc => ?_) (fun hc => ?_))
      | (refine tri_cond (c := .tmp 21) (b_true (by simp; exact IsB.mk)) (fun hc => ?_) (fun hc => ?_))
      | (refine tri_cond (c := .tmp 27) (b_true (by simp; exact IsB.mk)) (fun hc => ?_) (fun hc => ?_))
      | (refine to_mk (by simp; exact IsK.mk))
      | (refine imp_ ?_)
      | ((simp; exact IsK.mk))
      | (refine tri_seq ?_)
      ))
      all_goals (refine post_plainV (P := Tryz.prog) (fn := Tryz.f11) (by simp; exact IsV.mk) rfl ?_)
      all_goals (simp [q3, msgCells]; done)
open Classical in
noncomputable def F11 : Fn1
  | [x0] => (decB x0).bind fun b => if u8L b ∧ b.length ≤ 400 then some ((.tup [.agg (msgCells (openF b).1), .v (.int .i64 (openF b).2)]), none) else none
  | _ => none
theorem spec11 : Spec1 Tryz.prog 11 F11 := spec_of fun ys r o h => by
  unfold F11 at h
  split at h
  case h_2 => cases h
  obtain ⟨b, k0, h1⟩ := bind_some h
  obtain ⟨hpre, hz⟩ := ite_some h1
  cases hz
  exact ⟨_, at11 b hpre, rfl, le_plain ⟨decB_coA k0, trivial⟩ (by simp only [List.all_cons, List.all_nil, Bool.not_false, Bool.and_self, notRefB (decB_coA k0) rfl (by simp)]) rfl⟩
theorem en11 : Enters Tryz.prog 11 := enters_of Tryz.func11 (by kernel_rfl) rfl

end Go.Proofs.YtljlhooodbfpiaaGreatDoor

