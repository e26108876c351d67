import Derived.Test.YtljlhooodbfpiaaGreatDoorK8
import Derived.Test.YtljlhooodbfpiaaGreatDoorK17
import Derived.Test.YtljlhooodbfpiaaGreatDoorK18
set_option linter.all false
-- Printed by genwalk.py.
namespace Go.Proofs.YtljlhooodbfpiaaGreatDoor
open Go Go.RowKit Caw
set_option linter.unusedSimpArgs false
set_option linter.unusedVariables false
set_option maxRecDepth 100000

-- caravel/caravellaw24.CarryOpens
theorem g4 : GOk1 Tryz.prog (ctxOf [(6, F6), (11, F11), (12, F12), (13, F13)]) := gok_cons spec6 en6 (gok_cons spec11 en11 (gok_cons spec12 en12 (gok_cons spec13 en13 (gok_nil))))
set_option maxHeartbeats 4000000 in
theorem at4 (b : List Int) (hpre : u8L b) : SpecAt Tryz.prog 4 [.sl 1 (encB b) none] (.v (.bool true)) none := by
  have hz := zb_str hpre
  refine specAt_of_tri Tryz.func4 rfl (Nat.le_of_ble_eq_true rfl) ?_
  by_cases hn : b.length ≤ 400
  · have h1 : ¬ (400 : Int) < (b.length : Nat) := by omega
    have hsz : (⟨(b.map fun n => UInt8.ofNat n.toNat).toArray⟩ : ByteArray).size ≤ 400 := by
      show (b.map fun n => UInt8.ofNat n.toNat).toArray.size ≤ 400
      simpa using hn
    all_goals (repeat' (first
      | (refine tri_condT (b_true (by simp; with_reducible exact IsB.mk)) ?_)
      | (refine tri_condF (b_true (by simp; with_reducible exact IsB.mk)) ?_)
      | (refine tri_skipT ?_)
      | (refine tri_skip ?_)
      | (refine then_to ?_)
      | (refine th_n ?_)
      | (refine in_n ?_)
      | (refine in_e ?_)
      | (refine in_x rfl ?_)
      | (refine th_e ?_)
      | (refine th_r ?_)
      | (refine in_r ?_)
      | (refine tri_ret ?_)
      | (refine tri_exit ?_)
      | (refine tri_block ?_)
      | (refine tri_step (id := 0) (C := ⟨[], [], []⟩) [0] [] g4 nodraw ?_; refine ⟨_, by (simp [*, F6, F11, F12, F13, pMsg, msgCells, flg]; exact Is.mk), ?_⟩)
      | (refine tri_last (id := 0) (C := ⟨[], [], []⟩) [0] [] g4 nodraw ?_; refine ⟨_, by (simp [*, F6, F11, F12, F13, pMsg, msgCells, flg]; exact Is.mk), ?_⟩)
      | (refine tri_stepG (id := 1) (C := ⟨[], [], []⟩) [0, 13] [] g4 nodraw ?_; refine ⟨_, (run_split 0 3 9 (by simp [*, F6, F11, F12, F13, pMsg, msgCells, flg]; exact Is.mk) (by simp; exact IsB.mk) (by simp [*, F6, F11, F12, F13, pMsg, msgCells, flg]; exact IsK.mk) (by simp [*, F6, F11, F12, F13, pMsg, msgCells, flg]; exact IsK.mk) (by simp; exact IsK.mk)), ?_⟩)
      | (refine tri_lastG (id := 1) (C := ⟨[], [], []⟩) [0, 13] [] g4 nodraw ?_; refine ⟨_, (run_split 0 3 9 (by simp [*, F6, F11, F12, F13, pMsg, msgCells, flg]; exact Is.mk) (by simp; exact IsB.mk) (by simp [*, F6, F11, F12, F13, pMsg, msgCells, flg]; exact IsK.mk) (by simp [*, F6, F11, F12, F13, pMsg, msgCells, flg]; exact IsK.mk) (by simp; exact IsK.mk)), ?_⟩)
      | (refine tri_step (id := 2) (C := ⟨[], [], []⟩) [2] [] g4 nodraw ?_; refine ⟨_, by (simp [*, F6, F11, F12, F13, pMsg, msgCells, flg]; exact Is.mk), ?_⟩)
      | (refine tri_last (id := 2) (C := ⟨[], [], []⟩) [2] [] g4 nodraw ?_; refine ⟨_, by (simp [*, F6, F11, F12, F13, pMsg, msgCells, flg]; exact Is.mk), ?_⟩)
      | (refine tri_step (id := 3) (C := ⟨[], [], []⟩) [0, 3, 4] [(4, 0, 0)] g4 nodraw ?_; refine ⟨_, by (simp [*, F6, F11, F12, F13, pMsg, msgCells, flg]; exact Is.mk), ?_⟩)
      | (refine tri_last (id := 3) (C := ⟨[], [], []⟩) [0, 3, 4] [(4, 0, 0)] g4 nodraw ?_; refine ⟨_, by (simp [*, F6, F11, F12, F13, pMsg, msgCells, flg]; exact Is.mk), ?_⟩)
      | (refine tri_step (id := 4) (C := ⟨[], [], []⟩) [3, 4, 5, 6] [(4, 0, 0), (6, 0, 0)] g4 nodraw ?_; refine ⟨_, by (simp [*, F6, F11, F12, F13, pMsg, msgCells, flg]; exact Is.mk), ?_⟩)
      | (refine tri_last (id := 4) (C := ⟨[], [], []⟩) [3, 4, 5, 6] [(4, 0, 0), (6, 0, 0)] g4 nodraw ?_; refine ⟨_, by (simp [*, F6, F11, F12, F13, pMsg, msgCells, flg]; exact Is.mk), ?_⟩)
      | (refine tri_stepG (id := 5) (C := ⟨[], [], []⟩) [2] [] g4 nodraw ?_; refine ⟨_, (run_split 0 4 29 (by simp [*, F6, F11, F12, F13, pMsg, msgCells, flg]; exact Is.mk) (by simp; exact IsB.mk) (by simp [*, F6, F11, F12, F13, pMsg, msgCells, flg]; exact IsK.mk) (by simp [*, F6, F11, F12, F13, pMsg, msgCells, flg]; exact IsK.mk) (by simp; exact IsK.mk)), ?_⟩)
      | (refine tri_lastG (id := 5) (C := ⟨[], [], []⟩) [2] [] g4 nodraw ?_; refine ⟨_, (run_split 0 4 29 (by simp [*, F6, F11, F12, F13, pMsg, msgCells, flg]; exact Is.mk) (by simp; exact IsB.mk) (by simp [*, F6, F11, F12, F13, pMsg, msgCells, flg]; exact IsK.mk) (by simp [*, F6, F11, F12, F13, pMsg, msgCells, flg]; exact IsK.mk) (by simp; exact IsK.mk)), ?_⟩)
      | (refine tri_cond (c := .tmp 13) (b_true (by simp; exact IsB.mk)) (fun hc => ?_) (fun hc => ?_))
      | (refine to_mk (by simp; exact IsK.mk))
      | (refine imp_ ?_)
      | ((simp; exact IsK.mk))
      | (refine tri_seq ?_)
      ))
    all_goals (refine post_plainV (P := Tryz.prog) (fn := Tryz.f4) (by simp; exact IsV.mk) rfl ?_)
    all_goals (simp; done)
  · have h1 : (400 : Int) < (b.length : Nat) := by omega
    all_goals (repeat' (first
      | (refine tri_condT (b_true (by simp; with_reducible exact IsB.mk)) ?_)
      | (refine tri_condF (b_true (by simp; with_reducible exact IsB.mk)) ?_)
      | (refine tri_skipT ?_)
      | (refine tri_skip ?_)
      | (refine then_to ?_)
      | (refine th_n ?_)
      | (refine in_n ?_)
      | (refine in_e ?_)
      | (refine in_x rfl ?_)
      | (refine th_e ?_)
      | (refine th_r ?_)
      | (refine in_r ?_)
      | (refine tri_ret ?_)
      | (refine tri_exit ?_)
      | (refine tri_block ?_)
      | (refine tri_step (id := 0) (C := ⟨[], [], []⟩) [0] [] g4 nodraw ?_; refine ⟨_, by (simp [*, F6, F11, F12, F13, pMsg, msgCells, flg]; exact Is.mk), ?_⟩)
      | (refine tri_last (id := 0) (C := ⟨[], [], []⟩) [0] [] g4 nodraw ?_; refine ⟨_, by (simp [*, F6, F11, F12, F13, pMsg, msgCells, flg]; exact Is.mk), ?_⟩)
      | (refine tri_stepG (id := 1) (C := ⟨[], [], []⟩) [0, 13] [] g4 nodraw ?_; refine ⟨_, (run_split 0 3 9 (by simp [*, F6, F11, F12, F13, pMsg, msgCells, flg]; exact Is.mk) (by simp; exact IsB.mk) (by simp [*, F6, F11, F12, F13, pMsg, msgCells, flg]; exact IsK.mk) (by simp [*, F6, F11, F12, F13, pMsg, msgCells, flg]; exact IsK.mk) (by simp; exact IsK.mk)), ?_⟩)
      | (refine tri_lastG (id := 1) (C := ⟨[], [], []⟩) [0, 13] [] g4 nodraw ?_; refine ⟨_, (run_split 0 3 9 (by simp [*, F6, F11, F12, F13, pMsg, msgCells, flg]; exact Is.mk) (by simp; exact IsB.mk) (by simp [*, F6, F11, F12, F13, pMsg, msgCells, flg]; exact IsK.mk) (by simp [*, F6, F11, F12, F13, pMsg, msgCells, flg]; exact IsK.mk) (by simp; exact IsK.mk)), ?_⟩)
      | (refine tri_step (id := 2) (C := ⟨[], [], []⟩) [2] [] g4 nodraw ?_; refine ⟨_, by (simp [*, F6, F11, F12, F13, pMsg, msgCells, flg]; exact Is.mk), ?_⟩)
      | (refine tri_last (id := 2) (C := ⟨[], [], []⟩) [2] [] g4 nodraw ?_; refine ⟨_, by (simp [*, F6, F11, F12, F13, pMsg, msgCells, flg]; exact Is.mk), ?_⟩)
      | (refine tri_step (id := 3) (C := ⟨[], [], []⟩) [0, 3, 4] [(4, 0, 0)] g4 nodraw ?_; refine ⟨_, by (simp [*, F6, F11, F12, F13, pMsg, msgCells, flg]; exact Is.mk), ?_⟩)
      | (refine tri_last (id := 3) (C := ⟨[], [], []⟩) [0, 3, 4] [(4, 0, 0)] g4 nodraw ?_; refine ⟨_, by (simp [*, F6, F11, F12, F13, pMsg, msgCells, flg]; exact Is.mk), ?_⟩)
      | (refine tri_step (id := 4) (C := ⟨[], [], []⟩) [3, 4, 5, 6] [(4, 0, 0), (6, 0, 0)] g4 nodraw ?_; refine ⟨_, by (simp [*, F6, F11, F12, F13, pMsg, msgCells, flg]; exact Is.mk), ?_⟩)
      | (refine tri_last (id := 4) (C := ⟨[], [], []⟩) [3, 4, 5, 6] [(4, 0, 0), (6, 0, 0)] g4 nodraw ?_; refine ⟨_, by (simp [*, F6, F11, F12, F13, pMsg, msgCells, flg]; exact Is.mk), ?_⟩)
      | (refine tri_stepG (id := 5) (C := ⟨[], [], []⟩) [2] [] g4 nodraw ?_; refine ⟨_, (run_split 0 4 29 (by simp [*, F6, F11, F12, F13, pMsg, msgCells, flg]; exact Is.mk) (by simp; exact IsB.mk) (by simp [*, F6, F11, F12, F13, pMsg, msgCells, flg]; exact IsK.mk) (by simp [*, F6, F11, F12, F13, pMsg, msgCells, flg]; exact IsK.mk) (by simp; exact IsK.mk)), ?_⟩)
      | (refine tri_lastG (id := 5) (C := ⟨[], [], []⟩) [2] [] g4 nodraw ?_; refine ⟨_, (run_split 0 4 29 (by simp [*, F6, F11, F12, F13, pMsg, msgCells, flg]; exact Is.mk) (by simp; exact IsB.mk) (by simp [*, F6, F11, F12, F13, pMsg, msgCells, flg]; exact IsK.mk) (by simp [*, F6, F11, F12, F13, pMsg, msgCells, flg]; exact IsK.mk) (by simp; exact IsK.mk)), ?_⟩)
      | (refine tri_cond (c := .tmp 13) (b_true (by simp; exact IsB.mk)) (fun hc => ?_) (fun hc => ?_))
      | (refine to_mk (by simp; exact IsK.mk))
      | (refine imp_ ?_)
      | ((simp; exact IsK.mk))
      | (refine tri_seq ?_)
      ))
    all_goals (refine post_plainV (P := Tryz.prog) (fn := Tryz.f4) (by simp; exact IsV.mk) rfl ?_)
    all_goals (simp; done)
open Classical in
noncomputable def F4 : Fn1
  | [x0] => (decB x0).bind fun b => if u8L b then some ((.v (.bool true)), none) else none
  | _ => none
theorem spec4 : Spec1 Tryz.prog 4 F4 := spec_of fun ys r o h => by
  unfold F4 at h
  split at h
  case h_2 => cases h
  obtain ⟨b, k0, h1⟩ := bind_some h
  obtain ⟨hpre, hz⟩ := ite_some h1
  cases hz
  exact ⟨_, at4 b hpre, rfl, le_plain ⟨decB_coA k0, trivial⟩ (by simp only [List.all_cons, List.all_nil, Bool.not_false, Bool.and_self, notRefB (decB_coA k0) rfl (by simp)]) rfl⟩
theorem en4 : Enters Tryz.prog 4 := enters_of Tryz.func4 (by kernel_rfl) rfl

end Go.Proofs.YtljlhooodbfpiaaGreatDoor

