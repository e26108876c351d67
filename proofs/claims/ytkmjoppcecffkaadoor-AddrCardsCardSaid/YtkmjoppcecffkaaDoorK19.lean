import Derived.Test.YtkmjoppcecffkaaDoorK14
import Derived.Test.YtkmjoppcecffkaaDoorK16
import Derived.Test.YtkmjoppcecffkaaDoorK18
import Derived.Test.YtkmjoppcecffkaaDoorK15
set_option linter.all false
-- Printed by genwalk.py.
namespace Go.Proofs.YtkmjoppcecffkaaDoor
open Go Go.RowKit Caw
set_option linter.unusedSimpArgs false
set_option linter.unusedVariables false
set_option maxRecDepth 100000

-- caravel/caravellaw04.AddrCards
theorem g6 : GOk1 Tryd.prog (ctxOf [(9, F9), (20, F20), (21, F21), (22, F22), (23, F23), (24, F24)]) := gok_cons spec9 en9 (gok_cons spec20 en20 (gok_cons spec21 en21 (gok_cons spec22 en22 (gok_cons spec23 en23 (gok_cons spec24 en24 (gok_nil))))))
set_option maxHeartbeats 8000000 in
theorem at6 (a : Caw.Mac) (s : ByteArray) (hpre : MacOk a) : SpecAt Tryd.prog 6 [.agg (macCells a), .v (.string s)] (.v (.bool true)) none := by
  have pm : pMac [AV.v (.int .u8 a.a), .v (.int .u8 a.b), .v (.int .u8 a.c), .v (.int .u8 a.d), .v (.int .u8 a.e), .v (.int .u8 a.f)] = some (a, []) := pMac_all a
  by_cases hl : 100 < ((s.size : Nat) : Int)
  · refine specAt_of_tri Tryd.func6 rfl (Nat.le_of_ble_eq_true rfl) ?_
    all_goals (repeat' (first
      | (refine tri_condT (b_true (by simp; with_reducible exact IsB.mk)) ?_)
      | (refine tri_condF (b_true (by simp; with_reducible exact IsB.mk)) ?_)
      | (refine tri_skipT ?_)
      | (refine tri_skip ?_)
      | (refine then_to ?_)
      | (refine th_n ?_)
      | (refine in_n ?_)
      | (refine in_e ?_)
      | (refine in_x rfl ?_)
      | (refine th_e ?_)
      | (refine th_r ?_)
      | (refine in_r ?_)
      | (refine tri_ret ?_)
      | (refine tri_exit ?_)
      | (refine tri_block ?_)
      | (refine tri_step (id := 0) (C := ⟨[], [], [(2, (3, 0, 0)), (5, (6, 0, 0)), (7, (8, 0, 0))]⟩) [1, 2] [(3, 0, 0)] g6 nodraw ?_; refine ⟨_, by (simp [*, F9, F20, F21, F22, F23, F24, encMac, macAll, flg]; exact Is.mk), ?_⟩)
      | (refine tri_last (id := 0) (C := ⟨[], [], [(2, (3, 0, 0)), (5, (6, 0, 0)), (7, (8, 0, 0))]⟩) [1, 2] [(3, 0, 0)] g6 nodraw ?_; refine ⟨_, by (simp [*, F9, F20, F21, F22, F23, F24, encMac, macAll, flg]; exact Is.mk), ?_⟩)
      | (refine tri_stepG (id := 1) (C := ⟨[], [], [(2, (3, 0, 0)), (5, (6, 0, 0)), (7, (8, 0, 0))]⟩) [1, 2, 15] [(3, 0, 0)] g6 nodraw ?_; refine ⟨_, (by repeat' (first | refine go_T ?_ | refine go_F ?_ | apply go_S | (refine run_go 0 3 11 (by simp [*, F9, F20, F21, F22, F23, F24, encMac, macAll, flg]; exact Is.mk) (by simp [*]; exact IsB.mk) ?_) | (simp [*, F9, F20, F21, F22, F23, F24, encMac, macAll, flg]; exact IsK.mk))), ?_⟩)
      | (refine tri_lastG (id := 1) (C := ⟨[], [], [(2, (3, 0, 0)), (5, (6, 0, 0)), (7, (8, 0, 0))]⟩) [1, 2, 15] [(3, 0, 0)] g6 nodraw ?_; refine ⟨_, (by repeat' (first | refine go_T ?_ | refine go_F ?_ | apply go_S | (refine run_go 0 3 11 (by simp [*, F9, F20, F21, F22, F23, F24, encMac, macAll, flg]; exact Is.mk) (by simp [*]; exact IsB.mk) ?_) | (simp [*, F9, F20, F21, F22, F23, F24, encMac, macAll, flg]; exact IsK.mk))), ?_⟩)
      | (refine tri_step (id := 2) (C := ⟨[], [], [(2, (3, 0, 0)), (5, (6, 0, 0)), (7, (8, 0, 0))]⟩) [4] [] g6 nodraw ?_; refine ⟨_, by (simp [*, F9, F20, F21, F22, F23, F24, encMac, macAll, flg]; exact Is.mk), ?_⟩)
      | (refine tri_last (id := 2) (C := ⟨[], [], [(2, (3, 0, 0)), (5, (6, 0, 0)), (7, (8, 0, 0))]⟩) [4] [] g6 nodraw ?_; refine ⟨_, by (simp [*, F9, F20, F21, F22, F23, F24, encMac, macAll, flg]; exact Is.mk), ?_⟩)
      | (refine tri_step (id := 3) (C := ⟨[], [], [(2, (3, 0, 0)), (5, (6, 0, 0)), (7, (8, 0, 0))]⟩) [1, 2, 5, 6] [(3, 0, 0), (6, 0, 0)] g6 nodraw ?_; refine ⟨_, by (simp [*, F9, F20, F21, F22, F23, F24, encMac, macAll, flg]; exact Is.mk), ?_⟩)
      | (refine tri_last (id := 3) (C := ⟨[], [], [(2, (3, 0, 0)), (5, (6, 0, 0)), (7, (8, 0, 0))]⟩) [1, 2, 5, 6] [(3, 0, 0), (6, 0, 0)] g6 nodraw ?_; refine ⟨_, by (simp [*, F9, F20, F21, F22, F23, F24, encMac, macAll, flg]; exact Is.mk), ?_⟩)
      | (refine tri_step (id := 4) (C := ⟨[], [], [(2, (3, 0, 0)), (5, (6, 0, 0)), (7, (8, 0, 0))]⟩) [2, 5, 6, 7, 8] [(3, 0, 0), (6, 0, 0), (8, 0, 0)] g6 nodraw ?_; refine ⟨_, by (simp [*, F9, F20, F21, F22, F23, F24, encMac, macAll, flg]; exact Is.mk), ?_⟩)
      | (refine tri_last (id := 4) (C := ⟨[], [], [(2, (3, 0, 0)), (5, (6, 0, 0)), (7, (8, 0, 0))]⟩) [2, 5, 6, 7, 8] [(3, 0, 0), (6, 0, 0), (8, 0, 0)] g6 nodraw ?_; refine ⟨_, by (simp [*, F9, F20, F21, F22, F23, F24, encMac, macAll, flg]; exact Is.mk), ?_⟩)
      | (refine tri_stepG (id := 5) (C := ⟨[], [], [(2, (3, 0, 0)), (5, (6, 0, 0)), (7, (8, 0, 0))]⟩) [4] [] g6 (fun _ => ⟨q_mixed, by kernel_rfl⟩) ?_; refine ⟨_, (by repeat' (first | refine go_T ?_ | refine go_F ?_ | apply go_S | (refine run_go 0 6 32 (by simp [*, F9, F20, F21, F22, F23, F24, encMac, macAll, flg]; exact Is.mk) (by simp [*]; exact IsB.mk) ?_) | (refine run_go 0 11 37 (by simp [*, F9, F20, F21, F22, F23, F24, encMac, macAll, flg]; exact Is.mk) (by simp [*]; exact IsB.mk) ?_) | (refine run_go 0 16 42 (by simp [*, F9, F20, F21, F22, F23, F24, encMac, macAll, flg]; exact Is.mk) (by simp [*]; exact IsB.mk) ?_) | (refine run_go 6 5 37 (by simp [*, F9, F20, F21, F22, F23, F24, encMac, macAll, flg]; exact Is.mk) (by simp [*]; exact IsB.mk) ?_) | (refine run_go 6 10 42 (by simp [*, F9, F20, F21, F22, F23, F24, encMac, macAll, flg]; exact Is.mk) (by simp [*]; exact IsB.mk) ?_) | (refine run_go 11 5 42 (by simp [*, F9, F20, F21, F22, F23, F24, encMac, macAll, flg]; exact Is.mk) (by simp [*]; exact IsB.mk) ?_) | (simp [*, F9, F20, F21, F22, F23, F24, encMac, macAll, flg]; exact IsK.mk))), ?_⟩)
      | (refine tri_lastG (id := 5) (C := ⟨[], [], [(2, (3, 0, 0)), (5, (6, 0, 0)), (7, (8, 0, 0))]⟩) [4] [] g6 (fun _ => ⟨q_mixed, by kernel_rfl⟩) ?_; refine ⟨_, (by repeat' (first | refine go_T ?_ | refine go_F ?_ | apply go_S | (refine run_go 0 6 32 (by simp [*, F9, F20, F21, F22, F23, F24, encMac, macAll, flg]; exact Is.mk) (by simp [*]; exact IsB.mk) ?_) | (refine run_go 0 11 37 (by simp [*, F9, F20, F21, F22, F23, F24, encMac, macAll, flg]; exact Is.mk) (by simp [*]; exact IsB.mk) ?_) | (refine run_go 0 16 42 (by simp [*, F9, F20, F21, F22, F23, F24, encMac, macAll, flg]; exact Is.mk) (by simp [*]; exact IsB.mk) ?_) | (refine run_go 6 5 37 (by simp [*, F9, F20, F21, F22, F23, F24, encMac, macAll, flg]; exact Is.mk) (by simp [*]; exact IsB.mk) ?_) | (refine run_go 6 10 42 (by simp [*, F9, F20, F21, F22, F23, F24, encMac, macAll, flg]; exact Is.mk) (by simp [*]; exact IsB.mk) ?_) | (refine run_go 11 5 42 (by simp [*, F9, F20, F21, F22, F23, F24, encMac, macAll, flg]; exact Is.mk) (by simp [*]; exact IsB.mk) ?_) | (simp [*, F9, F20, F21, F22, F23, F24, encMac, macAll, flg]; exact IsK.mk))), ?_⟩)
      | (refine tri_cond (c := .tmp 15) (b_true (by simp; exact IsB.mk)) (fun hc => ?_) (fun hc => ?_))
      | (refine to_mk (by simp; exact IsK.mk))
      | (refine imp_ ?_)
      | ((simp; exact IsK.mk))
      | (refine tri_seq ?_)
      ))
    all_goals (refine post_plainV (P := Tryd.prog) (fn := Tryd.f6) (by simp; exact IsV.mk) rfl ?_)
    all_goals (first | (simp [F9, F20, F21, F22, F23, F24, encMac, macAll, flg]; done) | (simp [*, F9, F20, F21, F22, F23, F24, encMac, macAll, flg]; done) | (simp_all [F9, F20, F21, F22, F23, F24, encMac, macAll, flg]; done) | (simp [F9, F20, F21, F22, F23, F24, encMac, macAll, flg] <;> (repeat' split) <;> simp_all; done) | (simp [F9, F20, F21, F22, F23, F24, encMac, macAll, flg] <;> (repeat' split) <;> simp_all [Bool.and_assoc] <;> grind [List.length_eq_zero_iff, sendCells_co, recvCells_co, pieceCells_co, connCells_co, segCells_co, clockCells_co]))
  · have hs : s.size ≤ 100000 := by omega
    generalize hr : readMAC s = r at *
    obtain ⟨m, e⟩ := r
    refine specAt_of_tri Tryd.func6 rfl (Nat.le_of_ble_eq_true rfl) ?_
    all_goals (repeat' (first
      | (refine tri_condT (b_true (by simp; with_reducible exact IsB.mk)) ?_)
      | (refine tri_condF (b_true (by simp; with_reducible exact IsB.mk)) ?_)
      | (refine tri_skipT ?_)
      | (refine tri_skip ?_)
      | (refine then_to ?_)
      | (refine th_n ?_)
      | (refine in_n ?_)
      | (refine in_e ?_)
      | (refine in_x rfl ?_)
      | (refine th_e ?_)
      | (refine th_r ?_)
      | (refine in_r ?_)
      | (refine tri_ret ?_)
      | (refine tri_exit ?_)
      | (refine tri_block ?_)
      | (refine tri_step (id := 0) (C := ⟨[], [], [(2, (3, 0, 0)), (5, (6, 0, 0)), (7, (8, 0, 0))]⟩) [1, 2] [(3, 0, 0)] g6 nodraw ?_; refine ⟨_, by (simp [*, F9, F20, F21, F22, F23, F24, encMac, macAll, flg]; exact Is.mk), ?_⟩)
      | (refine tri_last (id := 0) (C := ⟨[], [], [(2, (3, 0, 0)), (5, (6, 0, 0)), (7, (8, 0, 0))]⟩) [1, 2] [(3, 0, 0)] g6 nodraw ?_; refine ⟨_, by (simp [*, F9, F20, F21, F22, F23, F24, encMac, macAll, flg]; exact Is.mk), ?_⟩)
      | (refine tri_stepG (id := 1) (C := ⟨[], [], [(2, (3, 0, 0)), (5, (6, 0, 0)), (7, (8, 0, 0))]⟩) [1, 2, 15] [(3, 0, 0)] g6 nodraw ?_; refine ⟨_, (by repeat' (first | refine go_T ?_ | refine go_F ?_ | apply go_S | (refine run_go 0 3 11 (by simp [*, F9, F20, F21, F22, F23, F24, encMac, macAll, flg]; exact Is.mk) (by simp [*]; exact IsB.mk) ?_) | (simp [*, F9, F20, F21, F22, F23, F24, encMac, macAll, flg]; exact IsK.mk))), ?_⟩)
      | (refine tri_lastG (id := 1) (C := ⟨[], [], [(2, (3, 0, 0)), (5, (6, 0, 0)), (7, (8, 0, 0))]⟩) [1, 2, 15] [(3, 0, 0)] g6 nodraw ?_; refine ⟨_, (by repeat' (first | refine go_T ?_ | refine go_F ?_ | apply go_S | (refine run_go 0 3 11 (by simp [*, F9, F20, F21, F22, F23, F24, encMac, macAll, flg]; exact Is.mk) (by simp [*]; exact IsB.mk) ?_) | (simp [*, F9, F20, F21, F22, F23, F24, encMac, macAll, flg]; exact IsK.mk))), ?_⟩)
      | (refine tri_step (id := 2) (C := ⟨[], [], [(2, (3, 0, 0)), (5, (6, 0, 0)), (7, (8, 0, 0))]⟩) [4] [] g6 nodraw ?_; refine ⟨_, by (simp [*, F9, F20, F21, F22, F23, F24, encMac, macAll, flg]; exact Is.mk), ?_⟩)
      | (refine tri_last (id := 2) (C := ⟨[], [], [(2, (3, 0, 0)), (5, (6, 0, 0)), (7, (8, 0, 0))]⟩) [4] [] g6 nodraw ?_; refine ⟨_, by (simp [*, F9, F20, F21, F22, F23, F24, encMac, macAll, flg]; exact Is.mk), ?_⟩)
      | (refine tri_step (id := 3) (C := ⟨[], [], [(2, (3, 0, 0)), (5, (6, 0, 0)), (7, (8, 0, 0))]⟩) [1, 2, 5, 6] [(3, 0, 0), (6, 0, 0)] g6 nodraw ?_; refine ⟨_, by (simp [*, F9, F20, F21, F22, F23, F24, encMac, macAll, flg]; exact Is.mk), ?_⟩)
      | (refine tri_last (id := 3) (C := ⟨[], [], [(2, (3, 0, 0)), (5, (6, 0, 0)), (7, (8, 0, 0))]⟩) [1, 2, 5, 6] [(3, 0, 0), (6, 0, 0)] g6 nodraw ?_; refine ⟨_, by (simp [*, F9, F20, F21, F22, F23, F24, encMac, macAll, flg]; exact Is.mk), ?_⟩)
      | (refine tri_step (id := 4) (C := ⟨[], [], [(2, (3, 0, 0)), (5, (6, 0, 0)), (7, (8, 0, 0))]⟩) [2, 5, 6, 7, 8] [(3, 0, 0), (6, 0, 0), (8, 0, 0)] g6 nodraw ?_; refine ⟨_, by (simp [*, F9, F20, F21, F22, F23, F24, encMac, macAll, flg]; exact Is.mk), ?_⟩)
      | (refine tri_last (id := 4) (C := ⟨[], [], [(2, (3, 0, 0)), (5, (6, 0, 0)), (7, (8, 0, 0))]⟩) [2, 5, 6, 7, 8] [(3, 0, 0), (6, 0, 0), (8, 0, 0)] g6 nodraw ?_; refine ⟨_, by (simp [*, F9, F20, F21, F22, F23, F24, encMac, macAll, flg]; exact Is.mk), ?_⟩)
      | (refine tri_stepG (id := 5) (C := ⟨[], [], [(2, (3, 0, 0)), (5, (6, 0, 0)), (7, (8, 0, 0))]⟩) [4] [] g6 (fun _ => ⟨q_mixed, by kernel_rfl⟩) ?_; refine ⟨_, (by repeat' (first | refine go_T ?_ | refine go_F ?_ | apply go_S | (refine run_go 0 6 32 (by simp [*, F9, F20, F21, F22, F23, F24, encMac, macAll, flg]; exact Is.mk) (by simp [*]; exact IsB.mk) ?_) | (refine run_go 0 11 37 (by simp [*, F9, F20, F21, F22, F23, F24, encMac, macAll, flg]; exact Is.mk) (by simp [*]; exact IsB.mk) ?_) | (refine run_go 0 16 42 (by simp [*, F9, F20, F21, F22, F23, F24, encMac, macAll, flg]; exact Is.mk) (by simp [*]; exact IsB.mk) ?_) | (refine run_go 6 5 37 (by simp [*, F9, F20, F21, F22, F23, F24, encMac, macAll, flg]; exact Is.mk) (by simp [*]; exact IsB.mk) ?_) | (refine run_go 6 10 42 (by simp [*, F9, F20, F21, F22, F23, F24, encMac, macAll, flg]; exact Is.mk) (by simp [*]; exact IsB.mk) ?_) | (refine run_go 11 5 42 (by simp [*, F9, F20, F21, F22, F23, F24, encMac, macAll, flg]; exact Is.mk) (by simp [*]; exact IsB.mk) ?_) | (simp [*, F9, F20, F21, F22, F23, F24, encMac, macAll, flg]; exact IsK.mk))), ?_⟩)
      | (refine tri_lastG (id := 5) (C := ⟨[], [], [(2, (3, 0, 0)), (5, (6, 0, 0)), (7, (8, 0, 0))]⟩) [4] [] g6 (fun _ => ⟨q_mixed, by kernel_rfl⟩) ?_; refine ⟨_, (by repeat' (first | refine go_T ?_ | refine go_F ?_ | apply go_S | (refine run_go 0 6 32 (by simp [*, F9, F20, F21, F22, F23, F24, encMac, macAll, flg]; exact Is.mk) (by simp [*]; exact IsB.mk) ?_) | (refine run_go 0 11 37 (by simp [*, F9, F20, F21, F22, F23, F24, encMac, macAll, flg]; exact Is.mk) (by simp [*]; exact IsB.mk) ?_) | (refine run_go 0 16 42 (by simp [*, F9, F20, F21, F22, F23, F24, encMac, macAll, flg]; exact Is.mk) (by simp [*]; exact IsB.mk) ?_) | (refine run_go 6 5 37 (by simp [*, F9, F20, F21, F22, F23, F24, encMac, macAll, flg]; exact Is.mk) (by simp [*]; exact IsB.mk) ?_) | (refine run_go 6 10 42 (by simp [*, F9, F20, F21, F22, F23, F24, encMac, macAll, flg]; exact Is.mk) (by simp [*]; exact IsB.mk) ?_) | (refine run_go 11 5 42 (by simp [*, F9, F20, F21, F22, F23, F24, encMac, macAll, flg]; exact Is.mk) (by simp [*]; exact IsB.mk) ?_) | (simp [*, F9, F20, F21, F22, F23, F24, encMac, macAll, flg]; exact IsK.mk))), ?_⟩)
      | (refine tri_cond (c := .tmp 15) (b_true (by simp; exact IsB.mk)) (fun hc => ?_) (fun hc => ?_))
      | (refine to_mk (by simp; exact IsK.mk))
      | (refine imp_ ?_)
      | ((simp; exact IsK.mk))
      | (refine tri_seq ?_)
      ))
    all_goals (refine post_plainV (P := Tryd.prog) (fn := Tryd.f6) (by simp; exact IsV.mk) rfl ?_)
    all_goals (first | (simp [F9, F20, F21, F22, F23, F24, encMac, macAll, flg]; done) | (simp [*, F9, F20, F21, F22, F23, F24, encMac, macAll, flg]; done) | (simp_all [F9, F20, F21, F22, F23, F24, encMac, macAll, flg]; done) | (simp [F9, F20, F21, F22, F23, F24, encMac, macAll, flg] <;> (repeat' split) <;> simp_all; done) | (simp [F9, F20, F21, F22, F23, F24, encMac, macAll, flg] <;> (repeat' split) <;> simp_all [Bool.and_assoc] <;> grind [List.length_eq_zero_iff, sendCells_co, recvCells_co, pieceCells_co, connCells_co, segCells_co, clockCells_co]))
open Classical in
noncomputable def F6 : Fn1
  | [x0, x1] => (whole pMac x0).bind fun a => (dZ x1).bind fun s => if MacOk a then some ((.v (.bool true)), none) else none
  | _ => none
theorem spec6 : Spec1 Tryd.prog 6 F6 := spec_of fun ys r o h => by
  unfold F6 at h
  split at h
  case h_2 => cases h
  obtain ⟨a, k0, h1⟩ := bind_some h
  obtain ⟨s, k1, h2⟩ := bind_some h1
  obtain ⟨hpre, hz⟩ := ite_some h2
  cases hz
  exact ⟨_, at6 a s hpre, rfl, le_plain ⟨whole_co pMac_snd k0, ⟨dZ_co k1, trivial⟩⟩ (by simp only [List.all_cons, List.all_nil, Bool.not_false, Bool.and_self, notRefB (whole_co pMac_snd k0) rfl (by simp), notRefB (dZ_co k1) rfl (by simp)]) rfl⟩
theorem en6 : Enters Tryd.prog 6 := enters_of Tryd.func6 (by kernel_rfl) rfl

end Go.Proofs.YtkmjoppcecffkaaDoor

