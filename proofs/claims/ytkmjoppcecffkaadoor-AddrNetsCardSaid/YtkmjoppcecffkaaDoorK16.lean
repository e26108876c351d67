import Derived.Test.YtkmjoppcecffkaaDoorK10
import Derived.Test.YtkmjoppcecffkaaDoorK15
set_option linter.all false
-- Printed by genwalk.py.
namespace Go.Proofs.YtkmjoppcecffkaaDoor
open Go Go.RowKit Caw
set_option linter.unusedSimpArgs false
set_option linter.unusedVariables false
set_option maxRecDepth 100000

-- caravel/caravellaw04.AddrNets
theorem g5 : GOk1 Tryd.prog (ctxOf [(9, F9), (18, F18)]) := gok_cons spec9 en9 (gok_cons spec18 en18 (gok_nil))
set_option maxHeartbeats 4000000 in
theorem at5 (l : Caw.Nets) (bits : Int) (more : Int) (hpre : Nets8 l) : SpecAt Tryd.prog 5 [.agg (netsCells l), .v (.int .i64 bits), .v (.int .i64 more)] (.v (.bool true)) none := by
  obtain ⟨k, n, k0, k1, k2, k3, e1, e2, e3, e4, e5, e6⟩ := nets_facts bits more
  have s1 := nets_self hpre (n := n) (by omega) k3
  have s2 := nets_far l more
  have s3 := nets_trans hpre k0 k1
  have s4 := nets_mono hpre k0 k2 k3
  clear k0 k1 k2 k3
  refine specAt_of_tri Tryd.func5 rfl (Nat.le_of_ble_eq_true rfl) ?_
  cases c1 : within l.a l.b k <;> cases c2 : within l.b l.c k <;> cases c3 : within l.a l.c k <;> cases c4 : within l.a l.b n
  all_goals first
    | (exfalso; have := s3 c1 c2; rw [c3] at this; exact absurd this Bool.false_ne_true)
    | (exfalso; have := s4 c4; rw [c1] at this; exact absurd this Bool.false_ne_true)
    | skip
  all_goals (clear s3 s4 hpre)
  all_goals (repeat' (first
      | (refine tri_condT (b_true (by simp; with_reducible exact IsB.mk)) ?_)
      | (refine tri_condF (b_true (by simp; with_reducible exact IsB.mk)) ?_)
      | (refine tri_skipT ?_)
      | (refine tri_skip ?_)
      | (refine then_to ?_)
      | (refine th_n ?_)
      | (refine in_n ?_)
      | (refine in_e ?_)
      | (refine in_x rfl ?_)
      | (refine th_e ?_)
      | (refine th_r ?_)
      | (refine in_r ?_)
      | (refine tri_ret ?_)
      | (refine tri_exit ?_)
      | (refine tri_block ?_)
      | (refine tri_step (id := 0) (C := ⟨[], [], []⟩) [1, 2, 3] [(4, 0, 0)] g5 nodraw ?_; refine ⟨_, by (simp [*, F9, F18, flg]; exact Is.mk), ?_⟩)
      | (refine tri_last (id := 0) (C := ⟨[], [], []⟩) [1, 2, 3] [(4, 0, 0)] g5 nodraw ?_; refine ⟨_, by (simp [*, F9, F18, flg]; exact Is.mk), ?_⟩)
      | (refine tri_step (id := 1) (C := ⟨[], [], []⟩) [1, 2, 3, 10] [(4, 0, 0)] g5 nodraw ?_; refine ⟨_, by (simp [*, F9, F18, flg]; exact Is.mk), ?_⟩)
      | (refine tri_last (id := 1) (C := ⟨[], [], []⟩) [1, 2, 3, 10] [(4, 0, 0)] g5 nodraw ?_; refine ⟨_, by (simp [*, F9, F18, flg]; exact Is.mk), ?_⟩)
      | (refine tri_step (id := 2) (C := ⟨[], [], []⟩) [6] [] g5 nodraw ?_; refine ⟨_, by (simp [*, F9, F18, flg]; exact Is.mk), ?_⟩)
      | (refine tri_last (id := 2) (C := ⟨[], [], []⟩) [6] [] g5 nodraw ?_; refine ⟨_, by (simp [*, F9, F18, flg]; exact Is.mk), ?_⟩)
      | (refine tri_step (id := 3) (C := ⟨[], [], []⟩) [2, 3, 7] [(4, 0, 0)] g5 nodraw ?_; refine ⟨_, by (simp [*, F9, F18, flg]; exact Is.mk), ?_⟩)
      | (refine tri_last (id := 3) (C := ⟨[], [], []⟩) [2, 3, 7] [(4, 0, 0)] g5 nodraw ?_; refine ⟨_, by (simp [*, F9, F18, flg]; exact Is.mk), ?_⟩)
      | (refine tri_step (id := 4) (C := ⟨[], [], []⟩) [2, 3, 7, 8] [(4, 0, 0)] g5 nodraw ?_; refine ⟨_, by (simp [*, F9, F18, flg]; exact Is.mk), ?_⟩)
      | (refine tri_last (id := 4) (C := ⟨[], [], []⟩) [2, 3, 7, 8] [(4, 0, 0)] g5 nodraw ?_; refine ⟨_, by (simp [*, F9, F18, flg]; exact Is.mk), ?_⟩)
      | (refine tri_stepG (id := 5) (C := ⟨[], [], []⟩) [2, 3, 7, 8, 46] [(4, 0, 0)] g5 nodraw ?_; refine ⟨_, (run_split 0 7 30 (by simp [*, F9, F18, flg]; exact Is.mk) (by simp; exact IsB.mk) (run_split 7 8 38 (by simp [*, F9, F18, flg]; exact Is.mk) (by simp; exact IsB.mk) (by simp [*, F9, F18, flg]; exact IsK.mk) (by simp [*, F9, F18, flg]; exact IsK.mk) (by simp; exact IsK.mk)) (run_split 7 8 38 (by simp [*, F9, F18, flg]; exact Is.mk) (by simp; exact IsB.mk) (by simp [*, F9, F18, flg]; exact IsK.mk) (by simp [*, F9, F18, flg]; exact IsK.mk) (by simp; exact IsK.mk)) (by simp; exact IsK.mk)), ?_⟩)
      | (refine tri_lastG (id := 5) (C := ⟨[], [], []⟩) [2, 3, 7, 8, 46] [(4, 0, 0)] g5 nodraw ?_; refine ⟨_, (run_split 0 7 30 (by simp [*, F9, F18, flg]; exact Is.mk) (by simp; exact IsB.mk) (run_split 7 8 38 (by simp [*, F9, F18, flg]; exact Is.mk) (by simp; exact IsB.mk) (by simp [*, F9, F18, flg]; exact IsK.mk) (by simp [*, F9, F18, flg]; exact IsK.mk) (by simp; exact IsK.mk)) (run_split 7 8 38 (by simp [*, F9, F18, flg]; exact Is.mk) (by simp; exact IsB.mk) (by simp [*, F9, F18, flg]; exact IsK.mk) (by simp [*, F9, F18, flg]; exact IsK.mk) (by simp; exact IsK.mk)) (by simp; exact IsK.mk)), ?_⟩)
      | (refine tri_step (id := 6) (C := ⟨[], [], []⟩) [6] [] g5 nodraw ?_; refine ⟨_, by (simp [*, F9, F18, flg]; exact Is.mk), ?_⟩)
      | (refine tri_last (id := 6) (C := ⟨[], [], []⟩) [6] [] g5 nodraw ?_; refine ⟨_, by (simp [*, F9, F18, flg]; exact Is.mk), ?_⟩)
      | (refine tri_stepG (id := 7) (C := ⟨[], [], []⟩) [6] [] g5 nodraw ?_; refine ⟨_, (run_split 0 8 54 (by simp [*, F9, F18, flg]; exact Is.mk) (by simp; exact IsB.mk) (run_split 8 8 62 (by simp [*, F9, F18, flg]; exact Is.mk) (by simp; exact IsB.mk) (run_split 16 8 70 (by simp [*, F9, F18, flg]; exact Is.mk) (by simp; exact IsB.mk) (by simp [*, F9, F18, flg]; exact IsK.mk) (by simp [*, F9, F18, flg]; exact IsK.mk) (by simp; exact IsK.mk)) (run_split 16 8 70 (by simp [*, F9, F18, flg]; exact Is.mk) (by simp; exact IsB.mk) (by simp [*, F9, F18, flg]; exact IsK.mk) (by simp [*, F9, F18, flg]; exact IsK.mk) (by simp; exact IsK.mk)) (by simp; exact IsK.mk)) (run_split 8 8 62 (by simp [*, F9, F18, flg]; exact Is.mk) (by simp; exact IsB.mk) (run_split 16 8 70 (by simp [*, F9, F18, flg]; exact Is.mk) (by simp; exact IsB.mk) (by simp [*, F9, F18, flg]; exact IsK.mk) (by simp [*, F9, F18, flg]; exact IsK.mk) (by simp; exact IsK.mk)) (run_split 16 8 70 (by simp [*, F9, F18, flg]; exact Is.mk) (by simp; exact IsB.mk) (by simp [*, F9, F18, flg]; exact IsK.mk) (by simp [*, F9, F18, flg]; exact IsK.mk) (by simp; exact IsK.mk)) (by simp; exact IsK.mk)) (by simp; exact IsK.mk)), ?_⟩)
      | (refine tri_lastG (id := 7) (C := ⟨[], [], []⟩) [6] [] g5 nodraw ?_; refine ⟨_, (run_split 0 8 54 (by simp [*, F9, F18, flg]; exact Is.mk) (by simp; exact IsB.mk) (run_split 8 8 62 (by simp [*, F9, F18, flg]; exact Is.mk) (by simp; exact IsB.mk) (run_split 16 8 70 (by simp [*, F9, F18, flg]; exact Is.mk) (by simp; exact IsB.mk) (by simp [*, F9, F18, flg]; exact IsK.mk) (by simp [*, F9, F18, flg]; exact IsK.mk) (by simp; exact IsK.mk)) (run_split 16 8 70 (by simp [*, F9, F18, flg]; exact Is.mk) (by simp; exact IsB.mk) (by simp [*, F9, F18, flg]; exact IsK.mk) (by simp [*, F9, F18, flg]; exact IsK.mk) (by simp; exact IsK.mk)) (by simp; exact IsK.mk)) (run_split 8 8 62 (by simp [*, F9, F18, flg]; exact Is.mk) (by simp; exact IsB.mk) (run_split 16 8 70 (by simp [*, F9, F18, flg]; exact Is.mk) (by simp; exact IsB.mk) (by simp [*, F9, F18, flg]; exact IsK.mk) (by simp [*, F9, F18, flg]; exact IsK.mk) (by simp; exact IsK.mk)) (run_split 16 8 70 (by simp [*, F9, F18, flg]; exact Is.mk) (by simp; exact IsB.mk) (by simp [*, F9, F18, flg]; exact IsK.mk) (by simp [*, F9, F18, flg]; exact IsK.mk) (by simp; exact IsK.mk)) (by simp; exact IsK.mk)) (by simp; exact IsK.mk)), ?_⟩)
      | (refine tri_cond (c := .tmp 10) (b_true (by simp; exact IsB.mk)) (fun hc => ?_) (fun hc => ?_))
      | (refine tri_cond (c := .tmp 46) (b_true (by simp; exact IsB.mk)) (fun hc => ?_) (fun hc => ?_))
      | (refine to_mk (by simp; exact IsK.mk))
      | (refine imp_ ?_)
      | ((simp; exact IsK.mk))
      | (refine tri_seq ?_)
      ))
  all_goals (refine post_plainV (P := Tryd.prog) (fn := Tryd.f5) (by simp; exact IsV.mk) rfl ?_)
  all_goals (first | (simp [F9, F18, flg]; done) | (simp [*, F9, F18, flg]; done) | (simp_all [F9, F18, flg]; done) | (simp [F9, F18, flg] <;> (repeat' split) <;> simp_all; done) | (simp [F9, F18, flg] <;> (repeat' split) <;> simp_all [Bool.and_assoc] <;> grind [List.length_eq_zero_iff, sendCells_co, recvCells_co, pieceCells_co, connCells_co, segCells_co, clockCells_co]))
open Classical in
noncomputable def F5 : Fn1
  | [x0, x1, x2] => (whole pNets x0).bind fun l => (dI .i64 x1).bind fun bits => (dI .i64 x2).bind fun more => if Nets8 l then some ((.v (.bool true)), none) else none
  | _ => none
theorem spec5 : Spec1 Tryd.prog 5 F5 := spec_of fun ys r o h => by
  unfold F5 at h
  split at h
  case h_2 => cases h
  obtain ⟨l, k0, h1⟩ := bind_some h
  obtain ⟨bits, k1, h2⟩ := bind_some h1
  obtain ⟨more, k2, h3⟩ := bind_some h2
  obtain ⟨hpre, hz⟩ := ite_some h3
  cases hz
  exact ⟨_, at5 l bits more hpre, rfl, le_plain ⟨whole_co pNets_snd k0, ⟨dI_co k1, ⟨dI_co k2, trivial⟩⟩⟩ (by simp only [List.all_cons, List.all_nil, Bool.not_false, Bool.and_self, notRefB (whole_co pNets_snd k0) rfl (by simp), notRefB (dI_co k1) rfl (by simp), notRefB (dI_co k2) rfl (by simp)]) rfl⟩
theorem en5 : Enters Tryd.prog 5 := enters_of Tryd.func5 (by kernel_rfl) rfl

end Go.Proofs.YtkmjoppcecffkaaDoor

