import Derived.Test.YtljlhooodbfpiaaGreatDoorK8
import Derived.Test.YtljlhooodbfpiaaGreatDoorK17
import Derived.Test.YtljlhooodbfpiaaGreatDoorK18
import Derived.Test.YtljlhooodbfpiaaGreatDoorK22
import Derived.Test.YtljlhooodbfpiaaGreatDoorK23
import Derived.Test.YtljlhooodbfpiaaGreatDoorK24
set_option linter.all false
-- Printed by genwalk.py.
namespace Go.Proofs.YtljlhooodbfpiaaGreatDoor
open Go Go.RowKit Caw
set_option linter.unusedSimpArgs false
set_option linter.unusedVariables false
set_option maxRecDepth 100000

-- caravel/caravellaw24.CarryPacks
theorem g5 : GOk1 Tryz.prog (ctxOf [(6, F6), (14, F14), (15, F15), (11, F11), (13, F13)]) := gok_cons spec6 en6 (gok_cons spec14 en14 (gok_cons spec15 en15 (gok_cons spec11 en11 (gok_cons spec13 en13 (gok_nil)))))
set_option maxHeartbeats 4000000 in
theorem at5 (m : Caw.Msg) (hpre : MsgOk m) : SpecAt Tryz.prog 5 [.agg (msgCells m)] (.v (.bool true)) none := by
  obtain ⟨k1, k2, k3⟩ := hpre
  obtain ⟨p1, p2⟩ := packed_facts k3
  obtain ⟨kd, rn, nm, dt⟩ := m
  refine specAt_of_tri Tryz.func5 rfl (Nat.le_of_ble_eq_true rfl) ?_
  by_cases hn : dt.length ≤ 400
  · have h1 : ¬ (400 : Int) < (dt.length : Nat) := by omega
    have hP : MsgP ⟨kd, rn, nm, dt⟩ := ⟨k1, k2, k3, hn⟩
    by_cases h0 : (packF ⟨kd, rn, nm, dt⟩).2 = 0
    · have ho := open_pack k3 k1 k2 h0
      all_goals (repeat' (first
      | (refine tri_condT (b_true (by simp; with_reducible exact IsB.mk)) ?_)
      | (refine tri_condF (b_true (by simp; with_reducible exact IsB.mk)) ?_)
      | (refine tri_skipT ?_)
      | (refine tri_skip ?_)
      | (refine then_to ?_)
      | (refine th_n ?_)
      | (refine in_n ?_)
      | (refine in_e ?_)
      | (refine in_x rfl ?_)
      | (refine th_e ?_)
      | (refine th_r ?_)
      | (refine in_r ?_)
      | (refine tri_ret ?_)
      | (refine tri_exit ?_)
      | (refine tri_block ?_)
      | (refine tri_step (id := 0) (C := ⟨[1], [], []⟩) [1] [] g5 nodraw ?_; refine ⟨_, by (simp [*, F6, F14, F15, F11, F13, pMsg, msgCells, zs8_of, flg]; exact Is.mk), ?_⟩)
      | (refine tri_last (id := 0) (C := ⟨[1], [], []⟩) [1] [] g5 nodraw ?_; refine ⟨_, by (simp [*, F6, F14, F15, F11, F13, pMsg, msgCells, zs8_of, flg]; exact Is.mk), ?_⟩)
      | (refine tri_stepG (id := 1) (C := ⟨[1], [], []⟩) [1, 16] [] g5 nodraw ?_; refine ⟨_, (run_split 0 3 11 (by simp [*, F6, F14, F15, F11, F13, pMsg, msgCells, zs8_of, flg]; exact Is.mk) (by simp; exact IsB.mk) (by simp [*, F6, F14, F15, F11, F13, pMsg, msgCells, zs8_of, flg]; exact IsK.mk) (by simp [*, F6, F14, F15, F11, F13, pMsg, msgCells, zs8_of, flg]; exact IsK.mk) (by simp; exact IsK.mk)), ?_⟩)
      | (refine tri_lastG (id := 1) (C := ⟨[1], [], []⟩) [1, 16] [] g5 nodraw ?_; refine ⟨_, (run_split 0 3 11 (by simp [*, F6, F14, F15, F11, F13, pMsg, msgCells, zs8_of, flg]; exact Is.mk) (by simp; exact IsB.mk) (by simp [*, F6, F14, F15, F11, F13, pMsg, msgCells, zs8_of, flg]; exact IsK.mk) (by simp [*, F6, F14, F15, F11, F13, pMsg, msgCells, zs8_of, flg]; exact IsK.mk) (by simp; exact IsK.mk)), ?_⟩)
      | (refine tri_step (id := 2) (C := ⟨[1], [], []⟩) [2] [] g5 nodraw ?_; refine ⟨_, by (simp [*, F6, F14, F15, F11, F13, pMsg, msgCells, zs8_of, flg]; exact Is.mk), ?_⟩)
      | (refine tri_last (id := 2) (C := ⟨[1], [], []⟩) [2] [] g5 nodraw ?_; refine ⟨_, by (simp [*, F6, F14, F15, F11, F13, pMsg, msgCells, zs8_of, flg]; exact Is.mk), ?_⟩)
      | (refine tri_step (id := 3) (C := ⟨[1], [], []⟩) [1, 3, 4] [] g5 nodraw ?_; refine ⟨_, by (simp [*, F6, F14, F15, F11, F13, pMsg, msgCells, zs8_of, flg]; exact Is.mk), ?_⟩)
      | (refine tri_last (id := 3) (C := ⟨[1], [], []⟩) [1, 3, 4] [] g5 nodraw ?_; refine ⟨_, by (simp [*, F6, F14, F15, F11, F13, pMsg, msgCells, zs8_of, flg]; exact Is.mk), ?_⟩)
      | (refine tri_step (id := 4) (C := ⟨[1], [], []⟩) [1, 3, 4, 5, 6] [] g5 nodraw ?_; refine ⟨_, by (simp [*, F6, F14, F15, F11, F13, pMsg, msgCells, zs8_of, flg]; exact Is.mk), ?_⟩)
      | (refine tri_last (id := 4) (C := ⟨[1], [], []⟩) [1, 3, 4, 5, 6] [] g5 nodraw ?_; refine ⟨_, by (simp [*, F6, F14, F15, F11, F13, pMsg, msgCells, zs8_of, flg]; exact Is.mk), ?_⟩)
      | (refine tri_step (id := 5) (C := ⟨[1], [], []⟩) [1, 3, 4, 5, 6, 7, 8] [(8, 0, 0)] g5 nodraw ?_; refine ⟨_, by (simp [*, F6, F14, F15, F11, F13, pMsg, msgCells, zs8_of, flg]; exact Is.mk), ?_⟩)
      | (refine tri_last (id := 5) (C := ⟨[1], [], []⟩) [1, 3, 4, 5, 6, 7, 8] [(8, 0, 0)] g5 nodraw ?_; refine ⟨_, by (simp [*, F6, F14, F15, F11, F13, pMsg, msgCells, zs8_of, flg]; exact Is.mk), ?_⟩)
      | (refine tri_step (id := 6) (C := ⟨[1], [], []⟩) [2] [] g5 nodraw ?_; refine ⟨_, by (simp [*, F6, F14, F15, F11, F13, pMsg, msgCells, zs8_of, flg]; exact Is.mk), ?_⟩)
      | (refine tri_last (id := 6) (C := ⟨[1], [], []⟩) [2] [] g5 nodraw ?_; refine ⟨_, by (simp [*, F6, F14, F15, F11, F13, pMsg, msgCells, zs8_of, flg]; exact Is.mk), ?_⟩)
      | (refine tri_cond (c := .tmp 16) (b_true (by simp; exact IsB.mk)) (fun hc => ?_) (fun hc => ?_))
      | (refine to_mk (by simp; exact IsK.mk))
      | (refine imp_ ?_)
      | ((simp; exact IsK.mk))
      | (refine tri_seq ?_)
      ))
      all_goals (refine post_plainV (P := Tryz.prog) (fn := Tryz.f5) (by simp; exact IsV.mk) rfl ?_)
      all_goals (simp; done)
    · have h2 : ((packF ⟨kd, rn, nm, dt⟩).2 != 0) = true := by simpa using h0
      all_goals (repeat' (first
      | (refine tri_condT (b_true (by simp; with_reducible exact IsB.mk)) ?_)
      | (refine tri_condF (b_true (by simp; with_reducible exact IsB.mk)) ?_)
      | (refine tri_skipT ?_)
      | (refine tri_skip ?_)
      | (refine then_to ?_)
      | (refine th_n ?_)
      | (refine in_n ?_)
      | (refine in_e ?_)
      | (refine in_x rfl ?_)
      | (refine th_e ?_)
      | (refine th_r ?_)
      | (refine in_r ?_)
      | (refine tri_ret ?_)
      | (refine tri_exit ?_)
      | (refine tri_block ?_)
      | (refine tri_step (id := 0) (C := ⟨[1], [], []⟩) [1] [] g5 nodraw ?_; refine ⟨_, by (simp [*, F6, F14, F15, F11, F13, pMsg, msgCells, zs8_of, flg]; exact Is.mk), ?_⟩)
      | (refine tri_last (id := 0) (C := ⟨[1], [], []⟩) [1] [] g5 nodraw ?_; refine ⟨_, by (simp [*, F6, F14, F15, F11, F13, pMsg, msgCells, zs8_of, flg]; exact Is.mk), ?_⟩)
      | (refine tri_stepG (id := 1) (C := ⟨[1], [], []⟩) [1, 16] [] g5 nodraw ?_; refine ⟨_, (run_split 0 3 11 (by simp [*, F6, F14, F15, F11, F13, pMsg, msgCells, zs8_of, flg]; exact Is.mk) (by simp; exact IsB.mk) (by simp [*, F6, F14, F15, F11, F13, pMsg, msgCells, zs8_of, flg]; exact IsK.mk) (by simp [*, F6, F14, F15, F11, F13, pMsg, msgCells, zs8_of, flg]; exact IsK.mk) (by simp; exact IsK.mk)), ?_⟩)
      | (refine tri_lastG (id := 1) (C := ⟨[1], [], []⟩) [1, 16] [] g5 nodraw ?_; refine ⟨_, (run_split 0 3 11 (by simp [*, F6, F14, F15, F11, F13, pMsg, msgCells, zs8_of, flg]; exact Is.mk) (by simp; exact IsB.mk) (by simp [*, F6, F14, F15, F11, F13, pMsg, msgCells, zs8_of, flg]; exact IsK.mk) (by simp [*, F6, F14, F15, F11, F13, pMsg, msgCells, zs8_of, flg]; exact IsK.mk) (by simp; exact IsK.mk)), ?_⟩)
      | (refine tri_step (id := 2) (C := ⟨[1], [], []⟩) [2] [] g5 nodraw ?_; refine ⟨_, by (simp [*, F6, F14, F15, F11, F13, pMsg, msgCells, zs8_of, flg]; exact Is.mk), ?_⟩)
      | (refine tri_last (id := 2) (C := ⟨[1], [], []⟩) [2] [] g5 nodraw ?_; refine ⟨_, by (simp [*, F6, F14, F15, F11, F13, pMsg, msgCells, zs8_of, flg]; exact Is.mk), ?_⟩)
      | (refine tri_step (id := 3) (C := ⟨[1], [], []⟩) [1, 3, 4] [] g5 nodraw ?_; refine ⟨_, by (simp [*, F6, F14, F15, F11, F13, pMsg, msgCells, zs8_of, flg]; exact Is.mk), ?_⟩)
      | (refine tri_last (id := 3) (C := ⟨[1], [], []⟩) [1, 3, 4] [] g5 nodraw ?_; refine ⟨_, by (simp [*, F6, F14, F15, F11, F13, pMsg, msgCells, zs8_of, flg]; exact Is.mk), ?_⟩)
      | (refine tri_step (id := 4) (C := ⟨[1], [], []⟩) [1, 3, 4, 5, 6] [] g5 nodraw ?_; refine ⟨_, by (simp [*, F6, F14, F15, F11, F13, pMsg, msgCells, zs8_of, flg]; exact Is.mk), ?_⟩)
      | (refine tri_last (id := 4) (C := ⟨[1], [], []⟩) [1, 3, 4, 5, 6] [] g5 nodraw ?_; refine ⟨_, by (simp [*, F6, F14, F15, F11, F13, pMsg, msgCells, zs8_of, flg]; exact Is.mk), ?_⟩)
      | (refine tri_step (id := 5) (C := ⟨[1], [], []⟩) [1, 3, 4, 5, 6, 7, 8] [(8, 0, 0)] g5 nodraw ?_; refine ⟨_, by (simp [*, F6, F14, F15, F11, F13, pMsg, msgCells, zs8_of, flg]; exact Is.mk), ?_⟩)
      | (refine tri_last (id := 5) (C := ⟨[1], [], []⟩) [1, 3, 4, 5, 6, 7, 8] [(8, 0, 0)] g5 nodraw ?_; refine ⟨_, by (simp [*, F6, F14, F15, F11, F13, pMsg, msgCells, zs8_of, flg]; exact Is.mk), ?_⟩)
      | (refine tri_step (id := 6) (C := ⟨[1], [], []⟩) [2] [] g5 nodraw ?_; refine ⟨_, by (simp [*, F6, F14, F15, F11, F13, pMsg, msgCells, zs8_of, flg]; exact Is.mk), ?_⟩)
      | (refine tri_last (id := 6) (C := ⟨[1], [], []⟩) [2] [] g5 nodraw ?_; refine ⟨_, by (simp [*, F6, F14, F15, F11, F13, pMsg, msgCells, zs8_of, flg]; exact Is.mk), ?_⟩)
      | (refine tri_cond (c := .tmp 16) (b_true (by simp; exact IsB.mk)) (fun hc => ?_) (fun hc => ?_))
      | (refine to_mk (by simp; exact IsK.mk))
      | (refine imp_ ?_)
      | ((simp; exact IsK.mk))
      | (refine tri_seq ?_)
      ))
      all_goals (refine post_plainV (P := Tryz.prog) (fn := Tryz.f5) (by simp; exact IsV.mk) rfl ?_)
      all_goals (simp; done)
  · have h1 : (400 : Int) < (dt.length : Nat) := by omega
    all_goals (repeat' (first
      | (refine tri_condT (b_true (by simp; with_reducible exact IsB.mk)) ?_)
      | (refine tri_condF (b_true (by simp; with_reducible exact IsB.mk)) ?_)
      | (refine tri_skipT ?_)
      | (refine tri_skip ?_)
      | (refine then_to ?_)
      | (refine th_n ?_)
      | (refine in_n ?_)
      | (refine in_e ?_)
      | (refine in_x rfl ?_)
      | (refine th_e ?_)
      | (refine th_r ?_)
      | (refine in_r ?_)
      | (refine tri_ret ?_)
      | (refine tri_exit ?_)
      | (refine tri_block ?_)
      | (refine tri_step (id := 0) (C := ⟨[1], [], []⟩) [1] [] g5 nodraw ?_; refine ⟨_, by (simp [*, F6, F14, F15, F11, F13, pMsg, msgCells, zs8_of, flg]; exact Is.mk), ?_⟩)
      | (refine tri_last (id := 0) (C := ⟨[1], [], []⟩) [1] [] g5 nodraw ?_; refine ⟨_, by (simp [*, F6, F14, F15, F11, F13, pMsg, msgCells, zs8_of, flg]; exact Is.mk), ?_⟩)
      | (refine tri_stepG (id := 1) (C := ⟨[1], [], []⟩) [1, 16] [] g5 nodraw ?_; refine ⟨_, (run_split 0 3 11 (by simp [*, F6, F14, F15, F11, F13, pMsg, msgCells, zs8_of, flg]; exact Is.mk) (by simp; exact IsB.mk) (by simp [*, F6, F14, F15, F11, F13, pMsg, msgCells, zs8_of, flg]; exact IsK.mk) (by simp [*, F6, F14, F15, F11, F13, pMsg, msgCells, zs8_of, flg]; exact IsK.mk) (by simp; exact IsK.mk)), ?_⟩)
      | (refine tri_lastG (id := 1) (C := ⟨[1], [], []⟩) [1, 16] [] g5 nodraw ?_; refine ⟨_, (run_split 0 3 11 (by simp [*, F6, F14, F15, F11, F13, pMsg, msgCells, zs8_of, flg]; exact Is.mk) (by simp; exact IsB.mk) (by simp [*, F6, F14, F15, F11, F13, pMsg, msgCells, zs8_of, flg]; exact IsK.mk) (by simp [*, F6, F14, F15, F11, F13, pMsg, msgCells, zs8_of, flg]; exact IsK.mk) (by simp; exact IsK.mk)), ?_⟩)
      | (refine tri_step (id := 2) (C := ⟨[1], [], []⟩) [2] [] g5 nodraw ?_; refine ⟨_, by (simp [*, F6, F14, F15, F11, F13, pMsg, msgCells, zs8_of, flg]; exact Is.mk), ?_⟩)
      | (refine tri_last (id := 2) (C := ⟨[1], [], []⟩) [2] [] g5 nodraw ?_; refine ⟨_, by (simp [*, F6, F14, F15, F11, F13, pMsg, msgCells, zs8_of, flg]; exact Is.mk), ?_⟩)
      | (refine tri_step (id := 3) (C := ⟨[1], [], []⟩) [1, 3, 4] [] g5 nodraw ?_; refine ⟨_, by (simp [*, F6, F14, F15, F11, F13, pMsg, msgCells, zs8_of, flg]; exact Is.mk), ?_⟩)
      | (refine tri_last (id := 3) (C := ⟨[1], [], []⟩) [1, 3, 4] [] g5 nodraw ?_; refine ⟨_, by (simp [*, F6, F14, F15, F11, F13, pMsg, msgCells, zs8_of, flg]; exact Is.mk), ?_⟩)
      | (refine tri_step (id := 4) (C := ⟨[1], [], []⟩) [1, 3, 4, 5, 6] [] g5 nodraw ?_; refine ⟨_, by (simp [*, F6, F14, F15, F11, F13, pMsg, msgCells, zs8_of, flg]; exact Is.mk), ?_⟩)
      | (refine tri_last (id := 4) (C := ⟨[1], [], []⟩) [1, 3, 4, 5, 6] [] g5 nodraw ?_; refine ⟨_, by (simp [*, F6, F14, F15, F11, F13, pMsg, msgCells, zs8_of, flg]; exact Is.mk), ?_⟩)
      | (refine tri_step (id := 5) (C := ⟨[1], [], []⟩) [1, 3, 4, 5, 6, 7, 8] [(8, 0, 0)] g5 nodraw ?_; refine ⟨_, by (simp [*, F6, F14, F15, F11, F13, pMsg, msgCells, zs8_of, flg]; exact Is.mk), ?_⟩)
      | (refine tri_last (id := 5) (C := ⟨[1], [], []⟩) [1, 3, 4, 5, 6, 7, 8] [(8, 0, 0)] g5 nodraw ?_; refine ⟨_, by (simp [*, F6, F14, F15, F11, F13, pMsg, msgCells, zs8_of, flg]; exact Is.mk), ?_⟩)
      | (refine tri_step (id := 6) (C := ⟨[1], [], []⟩) [2] [] g5 nodraw ?_; refine ⟨_, by (simp [*, F6, F14, F15, F11, F13, pMsg, msgCells, zs8_of, flg]; exact Is.mk), ?_⟩)
      | (refine tri_last (id := 6) (C := ⟨[1], [], []⟩) [2] [] g5 nodraw ?_; refine ⟨_, by (simp [*, F6, F14, F15, F11, F13, pMsg, msgCells, zs8_of, flg]; exact Is.mk), ?_⟩)
      | (refine tri_cond (c := .tmp 16) (b_true (by simp; exact IsB.mk)) (fun hc => ?_) (fun hc => ?_))
      | (refine to_mk (by simp; exact IsK.mk))
      | (refine imp_ ?_)
      | ((simp; exact IsK.mk))
      | (refine tri_seq ?_)
      ))
    all_goals (refine post_plainV (P := Tryz.prog) (fn := Tryz.f5) (by simp; exact IsV.mk) rfl ?_)
    all_goals (simp; done)
open Classical in
noncomputable def F5 : Fn1
  | [x0] => (whole pMsg x0).bind fun m => if MsgOk m then some ((.v (.bool true)), none) else none
  | _ => none
theorem spec5 : Spec1 Tryz.prog 5 F5 := spec_of fun ys r o h => by
  unfold F5 at h
  split at h
  case h_2 => cases h
  obtain ⟨m, k0, h1⟩ := bind_some h
  obtain ⟨hpre, hz⟩ := ite_some h1
  cases hz
  exact ⟨_, at5 m hpre, rfl, le_plain ⟨whole_co pMsg_snd k0, trivial⟩ (by simp only [List.all_cons, List.all_nil, Bool.not_false, Bool.and_self, notRefB (whole_co pMsg_snd k0) rfl (by simp)]) rfl⟩
theorem en5 : Enters Tryz.prog 5 := enters_of Tryz.func5 (by kernel_rfl) rfl

end Go.Proofs.YtljlhooodbfpiaaGreatDoor

