import Derived.Test.YtkjodjaamjnejaaP4
import Derived.Test.YtkjodjaamjnejaaK7
set_option linter.all false
-- Printed by genwalk.py.
namespace Go.Proofs.Ytkjodjaamjnejaa
open Go Go.RowKit Caw
set_option linter.unusedSimpArgs false
set_option linter.unusedVariables false
set_option maxRecDepth 100000

-- caravel/recvq.Read
theorem g65 : GOk1 Try.prog (ctxOf [(41, F41), (69, F69)]) := gok_cons spec41 en41 (gok_cons spec69 en69 (gok_nil))
set_option maxHeartbeats 400000 in
theorem at65 (q : Caw.Recv) (n : Int) (hpre : q.sm) : SpecAt Try.prog 65 [.agg (recvCells q), .v (.int .i64 n)] (.tup [.agg (recvCells (recvRead q n).1), .sl 1 (encB (recvRead q n).2) none]) none := by
  obtain ⟨h2, h3⟩ := readN_ok q n
  have h4 : q.data.length ≤ 4096 := hpre.1
  have h5 : Sm (q.data.take (readN q n).toNat) := by unfold Sm; simp; omega
  all_goals refine specAt_of_tri Try.func65 rfl (Nat.le_of_ble_eq_true rfl) ?_
  all_goals (repeat' (first
    | (refine tri_ret ?_)
    | (refine tri_step (id := 0) (C := ⟨[2], [], [(4, (5, 0, 0)), (6, (7, 0, 0)), (22, (3, 0, 0))]⟩) [1, 2, 4] [(5, 0, 0)] g65 nodraw ?_; refine ⟨_, by (simp [*, F41, F69, readN_fold, flg]; exact Is.mk), ?_⟩)
    | (refine tri_step (id := 1) (C := ⟨[2], [], [(4, (5, 0, 0)), (6, (7, 0, 0)), (22, (3, 0, 0))]⟩) [1, 2, 4, 6] [(5, 0, 0), (7, 0, 0)] g65 nodraw ?_; refine ⟨_, by (simp [*, F41, F69, readN_fold, flg]; exact Is.mk), ?_⟩)
    | (refine tri_step (id := 2) (C := ⟨[2], [], [(4, (5, 0, 0)), (6, (7, 0, 0)), (22, (3, 0, 0))]⟩) [2, 4, 6, 7] [(5, 0, 0), (7, 0, 0)] g65 nodraw ?_; refine ⟨_, by (simp [*, F41, F69, readN_fold, flg]; exact Is.mk), ?_⟩)
    | (refine tri_step (id := 3) (C := ⟨[2], [], [(4, (5, 0, 0)), (6, (7, 0, 0)), (22, (3, 0, 0))]⟩) [2, 4, 6, 7] [(5, 0, 0), (7, 0, 0)] g65 nodraw ?_; refine ⟨_, by (simp [*, F41, F69, readN_fold, flg]; exact Is.mk), ?_⟩)
    | (refine tri_step (id := 4) (C := ⟨[2], [], [(4, (5, 0, 0)), (6, (7, 0, 0)), (22, (3, 0, 0))]⟩) [4, 5] [(5, 0, 0)] g65 (fun _ => ⟨q_mixed, by kernel_rfl⟩) ?_; refine ⟨_, by (simp [*, F41, F69, readN_fold, flg]; exact Is.mk), ?_⟩)
    ))
  all_goals (refine post_plainV (P := Try.prog) (fn := Try.f65) (by simp; exact IsV.mk) rfl ?_)
  all_goals (first | (simp [F41, F69, readN_fold, flg, recvRead]; done) | (simp [*, F41, F69, readN_fold, flg, recvRead]; done) | (simp_all [F41, F69, readN_fold, flg, recvRead]; done) | (simp [F41, F69, readN_fold, flg, recvRead] <;> (repeat' split) <;> simp_all; done) | (simp [F41, F69, readN_fold, flg, recvRead] <;> (repeat' split) <;> simp_all [Bool.and_assoc] <;> grind [List.length_eq_zero_iff, sendCells_co, recvCells_co, pieceCells_co, connCells_co, segCells_co, clockCells_co]))
open Classical in
noncomputable def F65 : Fn1
  | [x0, x1] => (whole pRecv x0).bind fun q => (dI .i64 x1).bind fun n => if q.sm then some ((.tup [.agg (recvCells (recvRead q n).1), .sl 1 (encB (recvRead q n).2) none]), none) else none
  | _ => none
theorem spec65 : Spec1 Try.prog 65 F65 := spec_of fun ys r o h => by
  unfold F65 at h
  split at h
  case h_2 => cases h
  obtain ⟨q, k0, h1⟩ := bind_some h
  obtain ⟨n, k1, h2⟩ := bind_some h1
  obtain ⟨hpre, hz⟩ := ite_some h2
  cases hz
  exact ⟨_, at65 q n hpre, rfl, le_plain ⟨whole_co pRecv_snd k0, ⟨dI_co k1, trivial⟩⟩ (by simp only [List.all_cons, List.all_nil, Bool.not_false, Bool.and_self, notRefB (whole_co pRecv_snd k0) rfl (by simp), notRefB (dI_co k1) rfl (by simp)]) rfl⟩
theorem en65 : Enters Try.prog 65 := enters_of Try.func65 (by kernel_rfl) (by kernel_rfl)

-- caravel/recvq.Right
theorem g52 : GOk1 Try.prog (ctxOf [(54, F54), (77, F77), (45, F45)]) := gok_cons spec54 en54 (gok_cons spec77 en77 (gok_cons spec45 en45 (gok_nil)))
set_option maxHeartbeats 2000000 in
theorem at52 (q : Caw.Recv) (hpre : q.sm) : SpecAt Try.prog 52 [.agg (recvCells q)] (.v (.bool (recvRight q))) none := by
  have hq2 : q.ahead.length ≤ 4096 := hpre.2.1
  refine specAt_of_tri Try.func52 rfl (Nat.le_of_ble_eq_true rfl) ?_
  all_goals (repeat' (first
      | (refine tri_skipT ?_)
      | (refine th_r ?_)
      | (refine tri_ret ?_)
      | (refine tri_block ?_)
      | (refine tri_step (id := 0) (C := ⟨[1], [], [(1, (2, 0, 0)), (8, (2, 0, 0)), (13, (2, 0, 0)), (19, (2, 0, 0)), (22, (2, 0, 0)), (26, (2, 0, 0)), (32, (2, 0, 0)), (34, (2, 0, 0)), (42, (2, 0, 0)), (46, (2, 0, 0)), (67, (6, 0, 0)), (74, (6, 0, 0))]⟩) [1] [] g52 nodraw ?_; refine ⟨_, by (simp [*, F54, F77, F45, flg]; exact Is.mk), ?_⟩)
      | (refine tri_stepG (id := 1) (C := ⟨[1], [], [(1, (2, 0, 0)), (8, (2, 0, 0)), (13, (2, 0, 0)), (19, (2, 0, 0)), (22, (2, 0, 0)), (26, (2, 0, 0)), (32, (2, 0, 0)), (34, (2, 0, 0)), (42, (2, 0, 0)), (46, (2, 0, 0)), (67, (6, 0, 0)), (74, (6, 0, 0))]⟩) [1, 50] [] g52 (fun _ => ⟨q_mixed, by kernel_rfl⟩) ?_; refine ⟨_, (run_split 0 5 12 (by simp [*, F54, F77, F45, flg]; exact Is.mk) (by simp; exact IsB.mk) (run_split 5 6 18 (by simp [*, F54, F77, F45, flg]; exact Is.mk) (by simp; exact IsB.mk) (run_split 11 23 41 (by simp [*, F54, F77, F45, flg]; exact Is.mk) (by simp; exact IsB.mk) (by simp [*, F54, F77, F45, flg]; exact IsK.mk) (run_split 34 4 45 (by simp [*, F54, F77, F45, flg]; exact Is.mk) (by simp; exact IsB.mk) (by simp [*, F54, F77, F45, flg]; exact IsK.mk) (by simp [*, F54, F77, F45, flg]; exact IsK.mk) (by simp; exact IsK.mk)) (by simp; exact IsK.mk)) (run_split 11 3 21 (by simp [*, F54, F77, F45, flg]; exact Is.mk) (by simp; exact IsB.mk) (run_split 14 4 25 (by simp [*, F54, F77, F45, flg]; exact Is.mk) (by simp; exact IsB.mk) (run_split 18 6 31 (by simp [*, F54, F77, F45, flg]; exact Is.mk) (by simp; exact IsB.mk) (run_split 24 10 41 (by simp [*, F54, F77, F45, flg]; exact Is.mk) (by simp; exact IsB.mk) (by simp [*, F54, F77, F45, flg]; exact IsK.mk) (run_split 34 4 45 (by simp [*, F54, F77, F45, flg]; exact Is.mk) (by simp; exact IsB.mk) (by simp [*, F54, F77, F45, flg]; exact IsK.mk) (by simp [*, F54, F77, F45, flg]; exact IsK.mk) (by simp; exact IsK.mk)) (by simp; exact IsK.mk)) (run_split 24 10 41 (by simp [*, F54, F77, F45, flg]; exact Is.mk) (by simp; exact IsB.mk) (by simp [*, F54, F77, F45, flg]; exact IsK.mk) (run_split 34 4 45 (by simp [*, F54, F77, F45, flg]; exact Is.mk) (by simp; exact IsB.mk) (by simp [*, F54, F77, F45, flg]; exact IsK.mk) (by simp [*, F54, F77, F45, flg]; exact IsK.mk) (by simp; exact IsK.mk)) (by simp; exact IsK.mk)) (by simp; exact IsK.mk)) (run_split 18 6 31 (by simp [*, F54, F77, F45, flg]; exact Is.mk) (by simp; exact IsB.mk) (run_split 24 10 41 (by simp [*, F54, F77, F45, flg]; exact Is.mk) (by simp; exact IsB.mk) (by simp [*, F54, F77, F45, flg]; exact IsK.mk) (run_split 34 4 45 (by simp [*, F54, F77, F45, flg]; exact Is.mk) (by simp; exact IsB.mk) (by simp [*, F54, F77, F45, flg]; exact IsK.mk) (by simp [*, F54, F77, F45, flg]; exact IsK.mk) (by simp; exact IsK.mk)) (by simp; exact IsK.mk)) (run_split 24 10 41 (by simp [*, F54, F77, F45, flg]; exact Is.mk) (by simp; exact IsB.mk) (by simp [*, F54, F77, F45, flg]; exact IsK.mk) (run_split 34 4 45 (by simp [*, F54, F77, F45, flg]; exact Is.mk) (by simp; exact IsB.mk) (by simp [*, F54, F77, F45, flg]; exact IsK.mk) (by simp [*, F54, F77, F45, flg]; exact IsK.mk) (by simp; exact IsK.mk)) (by simp; exact IsK.mk)) (by simp; exact IsK.mk)) (by simp; exact IsK.mk)) (run_split 14 20 41 (by simp [*, F54, F77, F45, flg]; exact Is.mk) (by simp; exact IsB.mk) (by simp [*, F54, F77, F45, flg]; exact IsK.mk) (run_split 34 4 45 (by simp [*, F54, F77, F45, flg]; exact Is.mk) (by simp; exact IsB.mk) (by simp [*, F54, F77, F45, flg]; exact IsK.mk) (by simp [*, F54, F77, F45, flg]; exact IsK.mk) (by simp; exact IsK.mk)) (by simp; exact IsK.mk)) (by simp; exact IsK.mk)) (by simp; exact IsK.mk)) (run_split 5 6 18 (by simp [*, F54, F77, F45, flg]; exact Is.mk) (by simp; exact IsB.mk) (run_split 11 23 41 (by simp [*, F54, F77, F45, flg]; exact Is.mk) (by simp; exact IsB.mk) (by simp [*, F54, F77, F45, flg]; exact IsK.mk) (run_split 34 4 45 (by simp [*, F54, F77, F45, flg]; exact Is.mk) (by simp; exact IsB.mk) (by simp [*, F54, F77, F45, flg]; exact IsK.mk) (by simp [*, F54, F77, F45, flg]; exact IsK.mk) (by simp; exact IsK.mk)) (by simp; exact IsK.mk)) (run_split 11 3 21 (by simp [*, F54, F77, F45, flg]; exact Is.mk) (by simp; exact IsB.mk) (run_split 14 4 25 (by simp [*, F54, F77, F45, flg]; exact Is.mk) (by simp; exact IsB.mk) (run_split 18 6 31 (by simp [*, F54, F77, F45, flg]; exact Is.mk) (by simp; exact IsB.mk) (run_split 24 10 41 (by simp [*, F54, F77, F45, flg]; exact Is.mk) (by simp; exact IsB.mk) (by simp [*, F54, F77, F45, flg]; exact IsK.mk) (run_split 34 4 45 (by simp [*, F54, F77, F45, flg]; exact Is.mk) (by simp; exact IsB.mk) (by simp [*, F54, F77, F45, flg]; exact IsK.mk) (by simp [*, F54, F77, F45, flg]; exact IsK.mk) (by simp; exact IsK.mk)) (by simp; exact IsK.mk)) (run_split 24 10 41 (by simp [*, F54, F77, F45, flg]; exact Is.mk) (by simp; exact IsB.mk) (by simp [*, F54, F77, F45, flg]; exact IsK.mk) (run_split 34 4 45 (by simp [*, F54, F77, F45, flg]; exact Is.mk) (by simp; exact IsB.mk) (by simp [*, F54, F77, F45, flg]; exact IsK.mk) (by simp [*, F54, F77, F45, flg]; exact IsK.mk) (by simp; exact IsK.mk)) (by simp; exact IsK.mk)) (by simp; exact IsK.mk)) (run_split 18 6 31 (by simp [*, F54, F77, F45, flg]; exact Is.mk) (by simp; exact IsB.mk) (run_split 24 10 41 (by simp [*, F54, F77, F45, flg]; exact Is.mk) (by simp; exact IsB.mk) (by simp [*, F54, F77, F45, flg]; exact IsK.mk) (run_split 34 4 45 (by simp [*, F54, F77, F45, flg]; exact Is.mk) (by simp; exact IsB.mk) (by simp [*, F54, F77, F45, flg]; exact IsK.mk) (by simp [*, F54, F77, F45, flg]; exact IsK.mk) (by simp; exact IsK.mk)) (by simp; exact IsK.mk)) (run_split 24 10 41 (by simp [*, F54, F77, F45, flg]; exact Is.mk) (by simp; exact IsB.mk) (by simp [*, F54, F77, F45, flg]; exact IsK.mk) (run_split 34 4 45 (by simp [*, F54, F77, F45, flg]; exact Is.mk) (by simp; exact IsB.mk) (by simp [*, F54, F77, F45, flg]; exact IsK.mk) (by simp [*, F54, F77, F45, flg]; exact IsK.mk) (by simp; exact IsK.mk)) (by simp; exact IsK.mk)) (by simp; exact IsK.mk)) (by simp; exact IsK.mk)) (run_split 14 20 41 (by simp [*, F54, F77, F45, flg]; exact Is.mk) (by simp; exact IsB.mk) (by simp [*, F54, F77, F45, flg]; exact IsK.mk) (run_split 34 4 45 (by simp [*, F54, F77, F45, flg]; exact Is.mk) (by simp; exact IsB.mk) (by simp [*, F54, F77, F45, flg]; exact IsK.mk) (by simp [*, F54, F77, F45, flg]; exact IsK.mk) (by simp; exact IsK.mk)) (by simp; exact IsK.mk)) (by simp; exact IsK.mk)) (by simp; exact IsK.mk)) (by simp; exact IsK.mk)), ?_⟩)
      | (refine tri_step (id := 2) (C := ⟨[1], [], [(1, (2, 0, 0)), (8, (2, 0, 0)), (13, (2, 0, 0)), (19, (2, 0, 0)), (22, (2, 0, 0)), (26, (2, 0, 0)), (32, (2, 0, 0)), (34, (2, 0, 0)), (42, (2, 0, 0)), (46, (2, 0, 0)), (67, (6, 0, 0)), (74, (6, 0, 0))]⟩) [2] [] g52 nodraw ?_; refine ⟨_, by (simp [*, F54, F77, F45, flg]; exact Is.mk), ?_⟩)
      | (refine tri_step (id := 3) (C := ⟨[1], [], [(1, (2, 0, 0)), (8, (2, 0, 0)), (13, (2, 0, 0)), (19, (2, 0, 0)), (22, (2, 0, 0)), (26, (2, 0, 0)), (32, (2, 0, 0)), (34, (2, 0, 0)), (42, (2, 0, 0)), (46, (2, 0, 0)), (67, (6, 0, 0)), (74, (6, 0, 0))]⟩) [1, 3] [] g52 nodraw ?_; refine ⟨_, by (simp [*, F54, F77, F45, flg]; exact Is.mk), ?_⟩)
      | (refine tri_step (id := 4) (C := ⟨[1], [], [(1, (2, 0, 0)), (8, (2, 0, 0)), (13, (2, 0, 0)), (19, (2, 0, 0)), (22, (2, 0, 0)), (26, (2, 0, 0)), (32, (2, 0, 0)), (34, (2, 0, 0)), (42, (2, 0, 0)), (46, (2, 0, 0)), (67, (6, 0, 0)), (74, (6, 0, 0))]⟩) [1, 3, 52, 53, 54] [] g52 nodraw ?_; refine ⟨_, by (simp [*, F54, F77, F45, flg]; exact Is.mk), ?_⟩)
      | (refine tri_cond (c := .tmp 50) (b_true (by simp; exact IsB.mk)) (fun hc => ?_) (fun hc => ?_))
      | (refine tri_seq ?_)
      ))
  any_goals (refine tri_loop (fun n s => ∃ i d r t, At q.ahead d r i ∧ n = r.length ∧ recvAt q q.ahead 0 = recvAt q r t ∧ s = mkSt [(1, (AV.agg (recvCells q)).rptr 0), (3, .v (.int .i64 t)), (52, .sl 2 (encS pieceCells q.ahead) none), (53, .v (.int .i64 q.ahead.length)), (54, .v (.int .i64 i))] []) q.ahead.length _ (Le.refl _) ⟨0, [], q.ahead, 0, .start _, rfl, rfl, rfl⟩ ?_)
  · all_goals (refine post_plainV (P := Try.prog) (fn := Try.f52) (by simp; exact IsV.mk) rfl ?_)
    all_goals (first | (simp [recvRight, *]; done) | (simp [recvRight, *]; grind [List.length_eq_zero_iff]) | (simp_all [recvRight]; grind [List.length_eq_zero_iff]))
  rintro n s ⟨i, d, r, t, hl, hn, hx, rfl⟩
  cases r with
  | nil =>
    have hlt := hl.ge
    have hx2 : recvAt q q.ahead 0 = some t := hx
    clear hx hl
    all_goals (repeat' (first
      | (refine tri_condF (b_true (by simp; with_reducible exact IsB.mk)) ?_)
      | (refine tri_skipT ?_)
      | (refine th_n ?_)
      | (refine in_e ?_)
      | (refine th_e ?_)
      | (refine th_r ?_)
      | (refine tri_ret ?_)
      | (refine tri_exit ?_)
      | (refine tri_step (id := 5) (C := ⟨[1], [], [(1, (2, 0, 0)), (8, (2, 0, 0)), (13, (2, 0, 0)), (19, (2, 0, 0)), (22, (2, 0, 0)), (26, (2, 0, 0)), (32, (2, 0, 0)), (34, (2, 0, 0)), (42, (2, 0, 0)), (46, (2, 0, 0)), (67, (6, 0, 0)), (74, (6, 0, 0))]⟩) [1, 3, 52, 53, 54, 55] [] g52 nodraw ?_; refine ⟨_, by (simp [*, F54, F77, F45, flg]; exact Is.mk), ?_⟩)
      | (refine tri_stepG (id := 12) (C := ⟨[1], [], [(1, (2, 0, 0)), (8, (2, 0, 0)), (13, (2, 0, 0)), (19, (2, 0, 0)), (22, (2, 0, 0)), (26, (2, 0, 0)), (32, (2, 0, 0)), (34, (2, 0, 0)), (42, (2, 0, 0)), (46, (2, 0, 0)), (67, (6, 0, 0)), (74, (6, 0, 0))]⟩) [1, 3, 94] [] g52 nodraw ?_; refine ⟨_, (run_split 0 4 91 (by simp [*, F54, F77, F45, flg]; exact Is.mk) (by simp; exact IsB.mk) (by simp [*, F54, F77, F45, flg]; exact IsK.mk) (by simp [*, F54, F77, F45, flg]; exact IsK.mk) (by simp; exact IsK.mk)), ?_⟩)
      | (refine tri_step (id := 13) (C := ⟨[1], [], [(1, (2, 0, 0)), (8, (2, 0, 0)), (13, (2, 0, 0)), (19, (2, 0, 0)), (22, (2, 0, 0)), (26, (2, 0, 0)), (32, (2, 0, 0)), (34, (2, 0, 0)), (42, (2, 0, 0)), (46, (2, 0, 0)), (67, (6, 0, 0)), (74, (6, 0, 0))]⟩) [2] [] g52 nodraw ?_; refine ⟨_, by (simp [*, F54, F77, F45, flg]; exact Is.mk), ?_⟩)
      | (refine tri_step (id := 14) (C := ⟨[1], [], [(1, (2, 0, 0)), (8, (2, 0, 0)), (13, (2, 0, 0)), (19, (2, 0, 0)), (22, (2, 0, 0)), (26, (2, 0, 0)), (32, (2, 0, 0)), (34, (2, 0, 0)), (42, (2, 0, 0)), (46, (2, 0, 0)), (67, (6, 0, 0)), (74, (6, 0, 0))]⟩) [1, 3, 7] [] g52 nodraw ?_; refine ⟨_, by (simp [*, F54, F77, F45, flg]; exact Is.mk), ?_⟩)
      | (refine tri_stepG (id := 15) (C := ⟨[1], [], [(1, (2, 0, 0)), (8, (2, 0, 0)), (13, (2, 0, 0)), (19, (2, 0, 0)), (22, (2, 0, 0)), (26, (2, 0, 0)), (32, (2, 0, 0)), (34, (2, 0, 0)), (42, (2, 0, 0)), (46, (2, 0, 0)), (67, (6, 0, 0)), (74, (6, 0, 0))]⟩) [2] [] g52 nodraw ?_; refine ⟨_, (run_split 0 3 102 (by simp [*, F54, F77, F45, flg]; exact Is.mk) (by simp; exact IsB.mk) (run_split 3 5 107 (by simp [*, F54, F77, F45, flg]; exact Is.mk) (by simp; exact IsB.mk) (by simp [*, F54, F77, F45, flg]; exact IsK.mk) (by simp [*, F54, F77, F45, flg]; exact IsK.mk) (by simp; exact IsK.mk)) (run_split 3 5 107 (by simp [*, F54, F77, F45, flg]; exact Is.mk) (by simp; exact IsB.mk) (by simp [*, F54, F77, F45, flg]; exact IsK.mk) (by simp [*, F54, F77, F45, flg]; exact IsK.mk) (by simp; exact IsK.mk)) (by simp; exact IsK.mk)), ?_⟩)
      | (refine tri_cond (c := .tmp 94) (b_true (by simp; exact IsB.mk)) (fun hc => ?_) (fun hc => ?_))
      | (refine tri_seq ?_)
      ))
    all_goals (refine post_plainV (P := Try.prog) (fn := Try.f52) (by simp; exact IsV.mk) rfl ?_)
    all_goals (first | (simp [recvRight, *]; done) | (simp [recvRight, *]; grind [List.length_eq_zero_iff]) | (simp_all [recvRight]; grind [List.length_eq_zero_iff]))
  | cons x r =>
    have hlt := hl.lt
    have hget := hl.get
    have hw := hl.wi (by omega)
    simp only [recvAt] at hx
    all_goals (repeat' (first
      | (refine tri_condT (b_true (by simp; with_reducible exact IsB.mk)) ?_)
      | (refine tri_skipT ?_)
      | (refine th_n ?_)
      | (refine in_n ?_)
      | (refine th_r ?_)
      | (refine in_r ?_)
      | (refine tri_ret ?_)
      | (refine tri_block ?_)
      | (refine tri_step (id := 5) (C := ⟨[1], [], [(1, (2, 0, 0)), (8, (2, 0, 0)), (13, (2, 0, 0)), (19, (2, 0, 0)), (22, (2, 0, 0)), (26, (2, 0, 0)), (32, (2, 0, 0)), (34, (2, 0, 0)), (42, (2, 0, 0)), (46, (2, 0, 0)), (67, (6, 0, 0)), (74, (6, 0, 0))]⟩) [1, 3, 52, 53, 54, 55] [] g52 nodraw ?_; refine ⟨_, by (simp [*, F54, F77, F45, flg]; exact Is.mk), ?_⟩)
      | (refine tri_step (id := 6) (C := ⟨[1], [], [(1, (2, 0, 0)), (8, (2, 0, 0)), (13, (2, 0, 0)), (19, (2, 0, 0)), (22, (2, 0, 0)), (26, (2, 0, 0)), (32, (2, 0, 0)), (34, (2, 0, 0)), (42, (2, 0, 0)), (46, (2, 0, 0)), (67, (6, 0, 0)), (74, (6, 0, 0))]⟩) [1, 3, 5, 52, 53, 54] [(6, 0, 0)] g52 nodraw ?_; refine ⟨_, by (simp [*, F54, F77, F45, flg]; exact Is.mk), ?_⟩)
      | (refine tri_step (id := 7) (C := ⟨[1], [], [(1, (2, 0, 0)), (8, (2, 0, 0)), (13, (2, 0, 0)), (19, (2, 0, 0)), (22, (2, 0, 0)), (26, (2, 0, 0)), (32, (2, 0, 0)), (34, (2, 0, 0)), (42, (2, 0, 0)), (46, (2, 0, 0)), (67, (6, 0, 0)), (74, (6, 0, 0))]⟩) [1, 3, 5, 6, 52, 53, 54] [(6, 0, 0)] g52 nodraw ?_; refine ⟨_, by (simp [*, F54, F77, F45, flg]; exact Is.mk), ?_⟩)
      | (refine tri_stepG (id := 8) (C := ⟨[1], [], [(1, (2, 0, 0)), (8, (2, 0, 0)), (13, (2, 0, 0)), (19, (2, 0, 0)), (22, (2, 0, 0)), (26, (2, 0, 0)), (32, (2, 0, 0)), (34, (2, 0, 0)), (42, (2, 0, 0)), (46, (2, 0, 0)), (67, (6, 0, 0)), (74, (6, 0, 0))]⟩) [1, 5, 6, 52, 53, 54, 81] [(6, 0, 0)] g52 (fun _ => ⟨q_mixed, by kernel_rfl⟩) ?_; refine ⟨_, (run_split 0 4 66 (by simp [*, F54, F77, F45, flg]; exact Is.mk) (by simp; exact IsB.mk) (run_split 4 6 72 (by simp [*, F54, F77, F45, flg]; exact Is.mk) (by simp; exact IsB.mk) (by simp [*, F54, F77, F45, flg]; exact IsK.mk) (by simp [*, F54, F77, F45, flg]; exact IsK.mk) (by simp; exact IsK.mk)) (run_split 4 6 72 (by simp [*, F54, F77, F45, flg]; exact Is.mk) (by simp; exact IsB.mk) (by simp [*, F54, F77, F45, flg]; exact IsK.mk) (by simp [*, F54, F77, F45, flg]; exact IsK.mk) (by simp; exact IsK.mk)) (by simp; exact IsK.mk)), ?_⟩)
      | (refine tri_step (id := 9) (C := ⟨[1], [], [(1, (2, 0, 0)), (8, (2, 0, 0)), (13, (2, 0, 0)), (19, (2, 0, 0)), (22, (2, 0, 0)), (26, (2, 0, 0)), (32, (2, 0, 0)), (34, (2, 0, 0)), (42, (2, 0, 0)), (46, (2, 0, 0)), (67, (6, 0, 0)), (74, (6, 0, 0))]⟩) [2] [] g52 nodraw ?_; refine ⟨_, by (simp [*, F54, F77, F45, flg]; exact Is.mk), ?_⟩)
      | (refine tri_last (id := 10) (C := ⟨[1], [], [(1, (2, 0, 0)), (8, (2, 0, 0)), (13, (2, 0, 0)), (19, (2, 0, 0)), (22, (2, 0, 0)), (26, (2, 0, 0)), (32, (2, 0, 0)), (34, (2, 0, 0)), (42, (2, 0, 0)), (46, (2, 0, 0)), (67, (6, 0, 0)), (74, (6, 0, 0))]⟩) [1, 3, 52, 53, 54] [] g52 nodraw ?_; refine ⟨_, by (simp [*, F54, F77, F45, flg]; exact Is.mk), ?_⟩)
      | (refine tri_last (id := 11) (C := ⟨[1], [], [(1, (2, 0, 0)), (8, (2, 0, 0)), (13, (2, 0, 0)), (19, (2, 0, 0)), (22, (2, 0, 0)), (26, (2, 0, 0)), (32, (2, 0, 0)), (34, (2, 0, 0)), (42, (2, 0, 0)), (46, (2, 0, 0)), (67, (6, 0, 0)), (74, (6, 0, 0))]⟩) [1, 3, 52, 53, 54] [] g52 nodraw ?_; refine ⟨_, by (simp [*, F54, F77, F45, flg]; exact Is.mk), ?_⟩)
      | (refine tri_cond (c := .tmp 81) (b_true (by simp; exact IsB.mk)) (fun hc => ?_) (fun hc => ?_))
      | (refine tri_seq ?_)
      ))
    any_goals (refine ⟨r.length, _, by simp [hn], Le.refl _, i + 1, d ++ [x], r, _, hl.next, rfl, ?_, rfl⟩)
    any_goals (rw [hx]; clear hx; split <;> first | rfl | (exfalso; simp_all; done) | (exfalso; simp at *; grind) | trace_state)
    all_goals (refine post_plainV (P := Try.prog) (fn := Try.f52) (by simp; exact IsV.mk) rfl ?_)
    all_goals (first | (simp [recvRight, *]; done) | (simp [recvRight, *]; grind [List.length_eq_zero_iff]) | (simp_all [recvRight]; grind [List.length_eq_zero_iff]))
open Classical in
noncomputable def F52 : Fn1
  | [x0] => (whole pRecv x0).bind fun q => if q.sm then some ((.v (.bool (recvRight q))), none) else none
  | _ => none
theorem spec52 : Spec1 Try.prog 52 F52 := spec_of fun ys r o h => by
  unfold F52 at h
  split at h
  case h_2 => cases h
  obtain ⟨q, k0, h1⟩ := bind_some h
  obtain ⟨hpre, hz⟩ := ite_some h1
  cases hz
  exact ⟨_, at52 q hpre, rfl, le_plain ⟨whole_co pRecv_snd k0, trivial⟩ (by simp only [List.all_cons, List.all_nil, Bool.not_false, Bool.and_self, notRefB (whole_co pRecv_snd k0) rfl (by simp)]) rfl⟩
theorem en52 : Enters Try.prog 52 := enters_of Try.func52 (by kernel_rfl) (by kernel_rfl)

end Go.Proofs.Ytkjodjaamjnejaa

