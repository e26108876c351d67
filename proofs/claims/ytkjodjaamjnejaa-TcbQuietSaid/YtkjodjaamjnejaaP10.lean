import Derived.Test.YtkjodjaamjnejaaP2
import Derived.Test.YtkjodjaamjnejaaP6
import Derived.Test.YtkjodjaamjnejaaK8
set_option linter.all false
-- Printed by genwalk.py.
namespace Go.Proofs.Ytkjodjaamjnejaa
open Go Go.RowKit Caw
set_option linter.unusedSimpArgs false
set_option linter.unusedVariables false
set_option maxRecDepth 100000

-- caravel/caravelref03.mod
set_option maxHeartbeats 400000 in
theorem at55 (n : Int) : SpecAt Try.prog 55 [.v (.int .i64 n)] (.v (.int .i64 (refMod n))) none := by
  all_goals refine specAt_of_tri Try.func55 rfl (Nat.le_of_ble_eq_true rfl) ?_
  all_goals (repeat' (first
    | (refine tri_skip ?_)
    | (refine th_n ?_)
    | (refine tri_ret ?_)
    | (refine tri_step (id := 0) (C := ⟨[], [], []⟩) [0] [] gok_nil nodraw ?_; refine ⟨_, by (simp [refMod, flg]; exact Is.mk), ?_⟩)
    | (refine tri_step (id := 1) (C := ⟨[], [], []⟩) [3] [] gok_nil nodraw ?_; refine ⟨_, by (simp [refMod, flg]; exact Is.mk), ?_⟩)
    | (refine tri_step (id := 2) (C := ⟨[], [], []⟩) [3, 7] [] gok_nil nodraw ?_; refine ⟨_, by (simp [refMod, flg]; exact Is.mk), ?_⟩)
    | (refine tri_last (id := 3) (C := ⟨[], [], []⟩) [3] [] gok_nil nodraw ?_; refine ⟨_, by (simp [refMod, flg]; exact Is.mk), ?_⟩)
    | (refine tri_step (id := 4) (C := ⟨[], [], []⟩) [2] [] gok_nil nodraw ?_; refine ⟨_, by (simp [refMod, flg]; exact Is.mk), ?_⟩)
    | (apply tri_iteTo (c := .tmp 7) [3] [] (by simp; exact IsB.mk))
    | (refine to_mk (by simp; exact IsK.mk))
    | (refine imp_ ?_)
    | ((simp; exact IsK.mk))
    | (refine tri_seq ?_)
    ))
  all_goals (refine post_plainV (P := Try.prog) (fn := Try.f55) (by simp; exact IsV.mk) rfl ?_)
  all_goals (first | (simp [refMod, flg]; done) | (simp [*, refMod, flg]; done) | (simp_all [refMod, flg]; done) | (simp [refMod, flg] <;> (repeat' split) <;> simp_all; done) | (simp [refMod, flg] <;> (repeat' split) <;> simp_all [Bool.and_assoc] <;> grind [List.length_eq_zero_iff, sendCells_co, recvCells_co, pieceCells_co, connCells_co, segCells_co, clockCells_co]))
noncomputable def F55 : Fn1
  | [x0] => (dI .i64 x0).bind fun n => some ((.v (.int .i64 (refMod n))), none)
  | _ => none
theorem spec55 : Spec1 Try.prog 55 F55 := spec_of fun ys r o h => by
  unfold F55 at h
  split at h
  case h_2 => cases h
  obtain ⟨n, k0, h1⟩ := bind_some h
  cases h1
  exact ⟨_, at55 n, rfl, le_plain ⟨dI_co k0, trivial⟩ (by simp only [List.all_cons, List.all_nil, Bool.not_false, Bool.and_self, notRefB (dI_co k0) rfl (by simp)]) rfl⟩
theorem en55 : Enters Try.prog 55 := enters_of Try.func55 (by kernel_rfl) (by kernel_rfl)

-- caravel/caravelref03.Diff
theorem g28 : GOk1 Try.prog (ctxOf [(55, F55)]) := gok_cons spec55 en55 (gok_nil)
set_option maxHeartbeats 400000 in
theorem at28 (a : Int) (b : Int) : SpecAt Try.prog 28 [.v (.int .u32 a), .v (.int .u32 b)] (.v (.int .i64 (refDiff a b))) none := by
  all_goals refine specAt_of_tri Try.func28 rfl (Nat.le_of_ble_eq_true rfl) ?_
  all_goals (repeat' (first
    | (refine tri_skip ?_)
    | (refine th_n ?_)
    | (refine tri_ret ?_)
    | (refine tri_step (id := 0) (C := ⟨[], [], []⟩) [0, 1] [] g28 nodraw ?_; refine ⟨_, by (simp [F55, flg]; exact Is.mk), ?_⟩)
    | (refine tri_step (id := 1) (C := ⟨[], [], []⟩) [5] [] g28 nodraw ?_; refine ⟨_, by (simp [F55, flg]; exact Is.mk), ?_⟩)
    | (refine tri_step (id := 2) (C := ⟨[], [], []⟩) [5, 13] [] g28 nodraw ?_; refine ⟨_, by (simp [F55, flg]; exact Is.mk), ?_⟩)
    | (refine tri_last (id := 3) (C := ⟨[], [], []⟩) [5] [] g28 nodraw ?_; refine ⟨_, by (simp [F55, flg]; exact Is.mk), ?_⟩)
    | (refine tri_step (id := 4) (C := ⟨[], [], []⟩) [4] [] g28 nodraw ?_; refine ⟨_, by (simp [F55, flg]; exact Is.mk), ?_⟩)
    | (apply tri_iteTo (c := .tmp 13) [5] [] (by simp; exact IsB.mk))
    | (refine to_mk (by simp; exact IsK.mk))
    | (refine imp_ ?_)
    | ((simp; exact IsK.mk))
    | (refine tri_seq ?_)
    ))
  all_goals (refine post_plainV (P := Try.prog) (fn := Try.f28) (by simp; exact IsV.mk) rfl ?_)
  all_goals (first | (simp [F55, flg, refDiff]; done) | (simp [*, F55, flg, refDiff]; done) | (simp_all [F55, flg, refDiff]; done) | (simp [F55, flg, refDiff] <;> (repeat' split) <;> simp_all; done) | (simp [F55, flg, refDiff] <;> (repeat' split) <;> simp_all [Bool.and_assoc] <;> grind [List.length_eq_zero_iff, sendCells_co, recvCells_co, pieceCells_co, connCells_co, segCells_co, clockCells_co]))
noncomputable def F28 : Fn1
  | [x0, x1] => (dI .u32 x0).bind fun a => (dI .u32 x1).bind fun b => some ((.v (.int .i64 (refDiff a b))), none)
  | _ => none
theorem spec28 : Spec1 Try.prog 28 F28 := spec_of fun ys r o h => by
  unfold F28 at h
  split at h
  case h_2 => cases h
  obtain ⟨a, k0, h1⟩ := bind_some h
  obtain ⟨b, k1, h2⟩ := bind_some h1
  cases h2
  exact ⟨_, at28 a b, rfl, le_plain ⟨dI_co k0, ⟨dI_co k1, trivial⟩⟩ (by simp only [List.all_cons, List.all_nil, Bool.not_false, Bool.and_self, notRefB (dI_co k0) rfl (by simp), notRefB (dI_co k1) rfl (by simp)]) rfl⟩
theorem en28 : Enters Try.prog 28 := enters_of Try.func28 (by kernel_rfl) (by kernel_rfl)

-- caravel/caravellaw19.ends
set_option maxHeartbeats 400000 in
theorem at34 : SpecAt Try.prog 34 [] (.tup [.agg (addrCells addrX), .agg (addrCells addrY)]) none := by
  all_goals refine specAt_of_tri Try.func34 rfl (Nat.le_of_ble_eq_true rfl) ?_
  all_goals (repeat' (first
    | (refine tri_ret ?_)
    | (refine tri_step (id := 0) (C := ⟨[], [], []⟩) [0, 1] [(1, 0, 0), (2, 0, 0)] gok_nil nodraw ?_; refine ⟨_, by (simp [encAddr, flg]; exact Is.mk), ?_⟩)
    | (refine tri_step (id := 1) (C := ⟨[], [], []⟩) [0, 1] [(1, 0, 0), (2, 0, 0)] gok_nil nodraw ?_; refine ⟨_, by (simp [encAddr, flg]; exact Is.mk), ?_⟩)
    ))
  all_goals (refine post_plainV (P := Try.prog) (fn := Try.f34) (by simp; exact IsV.mk) rfl ?_)
  all_goals (first | (simp [encAddr, flg, addrX, addrY, addrCells]; done) | (simp [*, encAddr, flg, addrX, addrY, addrCells]; done) | (simp_all [encAddr, flg, addrX, addrY, addrCells]; done) | (simp [encAddr, flg, addrX, addrY, addrCells] <;> (repeat' split) <;> simp_all; done) | (simp [encAddr, flg, addrX, addrY, addrCells] <;> (repeat' split) <;> simp_all [Bool.and_assoc] <;> grind [List.length_eq_zero_iff, sendCells_co, recvCells_co, pieceCells_co, connCells_co, segCells_co, clockCells_co]))
noncomputable def F34 : Fn1
  | [] => some ((.tup [.agg (addrCells addrX), .agg (addrCells addrY)]), none)
  | _ => none
theorem spec34 : Spec1 Try.prog 34 F34 := spec_of fun ys r o h => by
  unfold F34 at h
  split at h
  case h_2 => cases h
  cases h
  exact ⟨_, at34, rfl, le_plain trivial (by simp only [List.all_cons, List.all_nil, Bool.not_false, Bool.and_self]) rfl⟩
theorem en34 : Enters Try.prog 34 := enters_of Try.func34 (by kernel_rfl) (by kernel_rfl)

-- caravel/tcb.Right
theorem g24 : GOk1 Try.prog (ctxOf [(51, F51), (52, F52), (53, F53), (54, F54)]) := gok_cons spec51 en51 (gok_cons spec52 en52 (gok_cons spec53 en53 (gok_cons spec54 en54 (gok_nil))))
set_option maxHeartbeats 4000000 in
theorem at24 (c : Caw.Conn) (hpre : c.recv.sm) : SpecAt Try.prog 24 [.agg (connCells c)] (.v (.bool (connRight c))) none := by
  have hr0 := right_cases c
  rcases hr0 with h1 | ⟨h1, h2⟩ | ⟨h1, h2, h3⟩ | ⟨h1, h2, h3, h4⟩ | ⟨h1, h2, h3, h4, h5⟩ | ⟨h1, h2, h3, h4, h5, h6⟩ | ⟨h1, h2, h3, h4, h5, h6, h7⟩ | ⟨h1, h2, h3, h4, h5, h6, h7, h8⟩ | ⟨h1, h2, h3, h4, h5, h6, h7, h8, h9⟩ | ⟨h1, h2, h3, h4, h5, h6, h7, h8, h9, h10⟩ | ⟨h1, h2, h3, h4, h5, h6, h7, h8, h9, h10, h11⟩ | ⟨h1, h2, h3, h4, h5, h6, h7, h8, h9, h10, h11⟩
  all_goals refine specAt_of_tri Try.func24 rfl (Nat.le_of_ble_eq_true rfl) ?_
  all_goals (repeat' (first
    | (refine tri_condT (b_true (by simp; with_reducible exact IsB.mk)) ?_)
    | (refine tri_condF (b_true (by simp; with_reducible exact IsB.mk)) ?_)
    | (refine tri_skipT ?_)
    | (refine tri_skip ?_)
    | (refine th_n ?_)
    | (refine in_n ?_)
    | (refine th_r ?_)
    | (refine in_r ?_)
    | (refine tri_ret ?_)
    | (refine tri_block ?_)
    | (refine tri_step (id := 0) (C := ⟨[1], [], [(65, (2, 0, 0)), (67, (2, 0, 0)), (73, (2, 0, 0)), (79, (2, 0, 0)), (84, (2, 0, 0)), (89, (2, 0, 0))]⟩) [1] [] g24 nodraw ?_; refine ⟨_, by (simp [*, F51, F52, F53, F54, flg]; exact Is.mk), ?_⟩)
    | (refine tri_step (id := 1) (C := ⟨[1], [], [(65, (2, 0, 0)), (67, (2, 0, 0)), (73, (2, 0, 0)), (79, (2, 0, 0)), (84, (2, 0, 0)), (89, (2, 0, 0))]⟩) [1, 58] [] g24 nodraw ?_; refine ⟨_, by (simp [*, F51, F52, F53, F54, flg]; exact Is.mk), ?_⟩)
    | (refine tri_step (id := 2) (C := ⟨[1], [], [(65, (2, 0, 0)), (67, (2, 0, 0)), (73, (2, 0, 0)), (79, (2, 0, 0)), (84, (2, 0, 0)), (89, (2, 0, 0))]⟩) [2] [] g24 nodraw ?_; refine ⟨_, by (simp [*, F51, F52, F53, F54, flg]; exact Is.mk), ?_⟩)
    | (refine tri_step (id := 3) (C := ⟨[1], [], [(65, (2, 0, 0)), (67, (2, 0, 0)), (73, (2, 0, 0)), (79, (2, 0, 0)), (84, (2, 0, 0)), (89, (2, 0, 0))]⟩) [1, 60] [] g24 nodraw ?_; refine ⟨_, by (simp [*, F51, F52, F53, F54, flg]; exact Is.mk), ?_⟩)
    | (refine tri_step (id := 4) (C := ⟨[1], [], [(65, (2, 0, 0)), (67, (2, 0, 0)), (73, (2, 0, 0)), (79, (2, 0, 0)), (84, (2, 0, 0)), (89, (2, 0, 0))]⟩) [1, 60, 61] [] g24 nodraw ?_; refine ⟨_, by (simp [*, F51, F52, F53, F54, flg]; exact Is.mk), ?_⟩)
    | (refine tri_last (id := 5) (C := ⟨[1], [], [(65, (2, 0, 0)), (67, (2, 0, 0)), (73, (2, 0, 0)), (79, (2, 0, 0)), (84, (2, 0, 0)), (89, (2, 0, 0))]⟩) [1, 60, 61] [] g24 nodraw ?_; refine ⟨_, by (simp [*, F51, F52, F53, F54, flg]; exact Is.mk), ?_⟩)
    | (refine tri_stepG (id := 6) (C := ⟨[1], [], [(65, (2, 0, 0)), (67, (2, 0, 0)), (73, (2, 0, 0)), (79, (2, 0, 0)), (84, (2, 0, 0)), (89, (2, 0, 0))]⟩) [2] [] g24 (fun _ => ⟨q_mixed, by kernel_rfl⟩) ?_; refine ⟨_, (run_split 0 8 71 (by simp [*, F51, F52, F53, F54, flg]; exact Is.mk) (by simp; exact IsB.mk) (run_split 8 6 77 (by simp [*, F51, F52, F53, F54, flg]; exact Is.mk) (by simp; exact IsB.mk) (run_split 14 6 83 (by simp [*, F51, F52, F53, F54, flg]; exact Is.mk) (by simp; exact IsB.mk) (run_split 20 5 88 (by simp [*, F51, F52, F53, F54, flg]; exact Is.mk) (by simp; exact IsB.mk) (by simp [*, F51, F52, F53, F54, flg]; exact IsK.mk) (by simp [*, F51, F52, F53, F54, flg]; exact IsK.mk) (by simp; exact IsK.mk)) (run_split 20 5 88 (by simp [*, F51, F52, F53, F54, flg]; exact Is.mk) (by simp; exact IsB.mk) (by simp [*, F51, F52, F53, F54, flg]; exact IsK.mk) (by simp [*, F51, F52, F53, F54, flg]; exact IsK.mk) (by simp; exact IsK.mk)) (by simp; exact IsK.mk)) (run_split 14 6 83 (by simp [*, F51, F52, F53, F54, flg]; exact Is.mk) (by simp; exact IsB.mk) (run_split 20 5 88 (by simp [*, F51, F52, F53, F54, flg]; exact Is.mk) (by simp; exact IsB.mk) (by simp [*, F51, F52, F53, F54, flg]; exact IsK.mk) (by simp [*, F51, F52, F53, F54, flg]; exact IsK.mk) (by simp; exact IsK.mk)) (run_split 20 5 88 (by simp [*, F51, F52, F53, F54, flg]; exact Is.mk) (by simp; exact IsB.mk) (by simp [*, F51, F52, F53, F54, flg]; exact IsK.mk) (by simp [*, F51, F52, F53, F54, flg]; exact IsK.mk) (by simp; exact IsK.mk)) (by simp; exact IsK.mk)) (by simp; exact IsK.mk)) (run_split 8 6 77 (by simp [*, F51, F52, F53, F54, flg]; exact Is.mk) (by simp; exact IsB.mk) (run_split 14 6 83 (by simp [*, F51, F52, F53, F54, flg]; exact Is.mk) (by simp; exact IsB.mk) (run_split 20 5 88 (by simp [*, F51, F52, F53, F54, flg]; exact Is.mk) (by simp; exact IsB.mk) (by simp [*, F51, F52, F53, F54, flg]; exact IsK.mk) (by simp [*, F51, F52, F53, F54, flg]; exact IsK.mk) (by simp; exact IsK.mk)) (run_split 20 5 88 (by simp [*, F51, F52, F53, F54, flg]; exact Is.mk) (by simp; exact IsB.mk) (by simp [*, F51, F52, F53, F54, flg]; exact IsK.mk) (by simp [*, F51, F52, F53, F54, flg]; exact IsK.mk) (by simp; exact IsK.mk)) (by simp; exact IsK.mk)) (run_split 14 6 83 (by simp [*, F51, F52, F53, F54, flg]; exact Is.mk) (by simp; exact IsB.mk) (run_split 20 5 88 (by simp [*, F51, F52, F53, F54, flg]; exact Is.mk) (by simp; exact IsB.mk) (by simp [*, F51, F52, F53, F54, flg]; exact IsK.mk) (by simp [*, F51, F52, F53, F54, flg]; exact IsK.mk) (by simp; exact IsK.mk)) (run_split 20 5 88 (by simp [*, F51, F52, F53, F54, flg]; exact Is.mk) (by simp; exact IsB.mk) (by simp [*, F51, F52, F53, F54, flg]; exact IsK.mk) (by simp [*, F51, F52, F53, F54, flg]; exact IsK.mk) (by simp; exact IsK.mk)) (by simp; exact IsK.mk)) (by simp; exact IsK.mk)) (by simp; exact IsK.mk)), ?_⟩)
    | (refine tri_step (id := 7) (C := ⟨[1], [], [(65, (2, 0, 0)), (67, (2, 0, 0)), (73, (2, 0, 0)), (79, (2, 0, 0)), (84, (2, 0, 0)), (89, (2, 0, 0))]⟩) [1, 60, 93] [] g24 nodraw ?_; refine ⟨_, by (simp [*, F51, F52, F53, F54, flg]; exact Is.mk), ?_⟩)
    | (refine tri_stepG (id := 8) (C := ⟨[1], [], [(65, (2, 0, 0)), (67, (2, 0, 0)), (73, (2, 0, 0)), (79, (2, 0, 0)), (84, (2, 0, 0)), (89, (2, 0, 0))]⟩) [2] [] g24 nodraw ?_; refine ⟨_, (run_split 0 4 98 (by simp [*, F51, F52, F53, F54, flg]; exact Is.mk) (by simp; exact IsB.mk) (run_split 4 6 104 (by simp [*, F51, F52, F53, F54, flg]; exact Is.mk) (by simp; exact IsB.mk) (by simp [*, F51, F52, F53, F54, flg]; exact IsK.mk) (by simp [*, F51, F52, F53, F54, flg]; exact IsK.mk) (by simp; exact IsK.mk)) (run_split 4 6 104 (by simp [*, F51, F52, F53, F54, flg]; exact Is.mk) (by simp; exact IsB.mk) (by simp [*, F51, F52, F53, F54, flg]; exact IsK.mk) (by simp [*, F51, F52, F53, F54, flg]; exact IsK.mk) (by simp; exact IsK.mk)) (by simp; exact IsK.mk)), ?_⟩)
    | (refine tri_step (id := 9) (C := ⟨[1], [], [(65, (2, 0, 0)), (67, (2, 0, 0)), (73, (2, 0, 0)), (79, (2, 0, 0)), (84, (2, 0, 0)), (89, (2, 0, 0))]⟩) [1, 109] [] g24 nodraw ?_; refine ⟨_, by (simp [*, F51, F52, F53, F54, flg]; exact Is.mk), ?_⟩)
    | (refine tri_stepG (id := 10) (C := ⟨[1], [], [(65, (2, 0, 0)), (67, (2, 0, 0)), (73, (2, 0, 0)), (79, (2, 0, 0)), (84, (2, 0, 0)), (89, (2, 0, 0))]⟩) [2] [] g24 nodraw ?_; refine ⟨_, (run_split 0 4 114 (by simp [*, F51, F52, F53, F54, flg]; exact Is.mk) (by simp; exact IsB.mk) (run_split 4 5 119 (by simp [*, F51, F52, F53, F54, flg]; exact Is.mk) (by simp; exact IsB.mk) (run_split 9 4 123 (by simp [*, F51, F52, F53, F54, flg]; exact Is.mk) (by simp; exact IsB.mk) (run_split 13 5 128 (by simp [*, F51, F52, F53, F54, flg]; exact Is.mk) (by simp; exact IsB.mk) (run_split 18 5 133 (by simp [*, F51, F52, F53, F54, flg]; exact Is.mk) (by simp; exact IsB.mk) (by simp [*, F51, F52, F53, F54, flg]; exact IsK.mk) (by simp [*, F51, F52, F53, F54, flg]; exact IsK.mk) (by simp; exact IsK.mk)) (run_split 18 5 133 (by simp [*, F51, F52, F53, F54, flg]; exact Is.mk) (by simp; exact IsB.mk) (by simp [*, F51, F52, F53, F54, flg]; exact IsK.mk) (by simp [*, F51, F52, F53, F54, flg]; exact IsK.mk) (by simp; exact IsK.mk)) (by simp; exact IsK.mk)) (run_split 13 5 128 (by simp [*, F51, F52, F53, F54, flg]; exact Is.mk) (by simp; exact IsB.mk) (run_split 18 5 133 (by simp [*, F51, F52, F53, F54, flg]; exact Is.mk) (by simp; exact IsB.mk) (by simp [*, F51, F52, F53, F54, flg]; exact IsK.mk) (by simp [*, F51, F52, F53, F54, flg]; exact IsK.mk) (by simp; exact IsK.mk)) (run_split 18 5 133 (by simp [*, F51, F52, F53, F54, flg]; exact Is.mk) (by simp; exact IsB.mk) (by simp [*, F51, F52, F53, F54, flg]; exact IsK.mk) (by simp [*, F51, F52, F53, F54, flg]; exact IsK.mk) (by simp; exact IsK.mk)) (by simp; exact IsK.mk)) (by simp; exact IsK.mk)) (run_split 9 4 123 (by simp [*, F51, F52, F53, F54, flg]; exact Is.mk) (by simp; exact IsB.mk) (run_split 13 5 128 (by simp [*, F51, F52, F53, F54, flg]; exact Is.mk) (by simp; exact IsB.mk) (run_split 18 5 133 (by simp [*, F51, F52, F53, F54, flg]; exact Is.mk) (by simp; exact IsB.mk) (by simp [*, F51, F52, F53, F54, flg]; exact IsK.mk) (by simp [*, F51, F52, F53, F54, flg]; exact IsK.mk) (by simp; exact IsK.mk)) (run_split 18 5 133 (by simp [*, F51, F52, F53, F54, flg]; exact Is.mk) (by simp; exact IsB.mk) (by simp [*, F51, F52, F53, F54, flg]; exact IsK.mk) (by simp [*, F51, F52, F53, F54, flg]; exact IsK.mk) (by simp; exact IsK.mk)) (by simp; exact IsK.mk)) (run_split 13 5 128 (by simp [*, F51, F52, F53, F54, flg]; exact Is.mk) (by simp; exact IsB.mk) (run_split 18 5 133 (by simp [*, F51, F52, F53, F54, flg]; exact Is.mk) (by simp; exact IsB.mk) (by simp [*, F51, F52, F53, F54, flg]; exact IsK.mk) (by simp [*, F51, F52, F53, F54, flg]; exact IsK.mk) (by simp; exact IsK.mk)) (run_split 18 5 133 (by simp [*, F51, F52, F53, F54, flg]; exact Is.mk) (by simp; exact IsB.mk) (by simp [*, F51, F52, F53, F54, flg]; exact IsK.mk) (by simp [*, F51, F52, F53, F54, flg]; exact IsK.mk) (by simp; exact IsK.mk)) (by simp; exact IsK.mk)) (by simp; exact IsK.mk)) (by simp; exact IsK.mk)) (run_split 4 5 119 (by simp [*, F51, F52, F53, F54, flg]; exact Is.mk) (by simp; exact IsB.mk) (run_split 9 4 123 (by simp [*, F51, F52, F53, F54, flg]; exact Is.mk) (by simp; exact IsB.mk) (run_split 13 5 128 (by simp [*, F51, F52, F53, F54, flg]; exact Is.mk) (by simp; exact IsB.mk) (run_split 18 5 133 (by simp [*, F51, F52, F53, F54, flg]; exact Is.mk) (by simp; exact IsB.mk) (by simp [*, F51, F52, F53, F54, flg]; exact IsK.mk) (by simp [*, F51, F52, F53, F54, flg]; exact IsK.mk) (by simp; exact IsK.mk)) (run_split 18 5 133 (by simp [*, F51, F52, F53, F54, flg]; exact Is.mk) (by simp; exact IsB.mk) (by simp [*, F51, F52, F53, F54, flg]; exact IsK.mk) (by simp [*, F51, F52, F53, F54, flg]; exact IsK.mk) (by simp; exact IsK.mk)) (by simp; exact IsK.mk)) (run_split 13 5 128 (by simp [*, F51, F52, F53, F54, flg]; exact Is.mk) (by simp; exact IsB.mk) (run_split 18 5 133 (by simp [*, F51, F52, F53, F54, flg]; exact Is.mk) (by simp; exact IsB.mk) (by simp [*, F51, F52, F53, F54, flg]; exact IsK.mk) (by simp [*, F51, F52, F53, F54, flg]; exact IsK.mk) (by simp; exact IsK.mk)) (run_split 18 5 133 (by simp [*, F51, F52, F53, F54, flg]; exact Is.mk) (by simp; exact IsB.mk) (by simp [*, F51, F52, F53, F54, flg]; exact IsK.mk) (by simp [*, F51, F52, F53, F54, flg]; exact IsK.mk) (by simp; exact IsK.mk)) (by simp; exact IsK.mk)) (by simp; exact IsK.mk)) (run_split 9 4 123 (by simp [*, F51, F52, F53, F54, flg]; exact Is.mk) (by simp; exact IsB.mk) (run_split 13 5 128 (by simp [*, F51, F52, F53, F54, flg]; exact Is.mk) (by simp; exact IsB.mk) (run_split 18 5 133 (by simp [*, F51, F52, F53, F54, flg]; exact Is.mk) (by simp; exact IsB.mk) (by simp [*, F51, F52, F53, F54, flg]; exact IsK.mk) (by simp [*, F51, F52, F53, F54, flg]; exact IsK.mk) (by simp; exact IsK.mk)) (run_split 18 5 133 (by simp [*, F51, F52, F53, F54, flg]; exact Is.mk) (by simp; exact IsB.mk) (by simp [*, F51, F52, F53, F54, flg]; exact IsK.mk) (by simp [*, F51, F52, F53, F54, flg]; exact IsK.mk) (by simp; exact IsK.mk)) (by simp; exact IsK.mk)) (run_split 13 5 128 (by simp [*, F51, F52, F53, F54, flg]; exact Is.mk) (by simp; exact IsB.mk) (run_split 18 5 133 (by simp [*, F51, F52, F53, F54, flg]; exact Is.mk) (by simp; exact IsB.mk) (by simp [*, F51, F52, F53, F54, flg]; exact IsK.mk) (by simp [*, F51, F52, F53, F54, flg]; exact IsK.mk) (by simp; exact IsK.mk)) (run_split 18 5 133 (by simp [*, F51, F52, F53, F54, flg]; exact Is.mk) (by simp; exact IsB.mk) (by simp [*, F51, F52, F53, F54, flg]; exact IsK.mk) (by simp [*, F51, F52, F53, F54, flg]; exact IsK.mk) (by simp; exact IsK.mk)) (by simp; exact IsK.mk)) (by simp; exact IsK.mk)) (by simp; exact IsK.mk)) (by simp; exact IsK.mk)), ?_⟩)
    | (refine tri_stepG (id := 11) (C := ⟨[1], [], [(65, (2, 0, 0)), (67, (2, 0, 0)), (73, (2, 0, 0)), (79, (2, 0, 0)), (84, (2, 0, 0)), (89, (2, 0, 0))]⟩) [2] [] g24 nodraw ?_; refine ⟨_, (run_split 0 4 141 (by simp [*, F51, F52, F53, F54, flg]; exact Is.mk) (by simp; exact IsB.mk) (by simp [*, F51, F52, F53, F54, flg]; exact IsK.mk) (by simp [*, F51, F52, F53, F54, flg]; exact IsK.mk) (by simp; exact IsK.mk)), ?_⟩)
    | (refine tri_cond (c := .tmp 61) (b_true (by simp; exact IsB.mk)) (fun hc => ?_) (fun hc => ?_))
    | (refine tri_cond (c := .tmp 93) (b_true (by simp; exact IsB.mk)) (fun hc => ?_) (fun hc => ?_))
    | (refine tri_cond (c := .tmp 109) (b_true (by simp; exact IsB.mk)) (fun hc => ?_) (fun hc => ?_))
    | (refine tri_seq ?_)
    ))
  all_goals (refine post_plainV (P := Try.prog) (fn := Try.f24) (by simp; exact IsV.mk) rfl ?_)
  all_goals (first | (simp [F51, F52, F53, F54, flg, connRight, connOdd, connFine]; done) | (simp [*, F51, F52, F53, F54, flg, connRight, connOdd, connFine]; done) | (simp_all [F51, F52, F53, F54, flg, connRight, connOdd, connFine]; done) | (simp [F51, F52, F53, F54, flg, connRight, connOdd, connFine] <;> (repeat' split) <;> simp_all; done) | (simp [F51, F52, F53, F54, flg, connRight, connOdd, connFine] <;> (repeat' split) <;> simp_all [Bool.and_assoc] <;> grind [List.length_eq_zero_iff, sendCells_co, recvCells_co, pieceCells_co, connCells_co, segCells_co, clockCells_co]))
open Classical in
noncomputable def F24 : Fn1
  | [x0] => (whole pConn x0).bind fun c => if c.recv.sm then some ((.v (.bool (connRight c))), none) else none
  | _ => none
theorem spec24 : Spec1 Try.prog 24 F24 := spec_of fun ys r o h => by
  unfold F24 at h
  split at h
  case h_2 => cases h
  obtain ⟨c, k0, h1⟩ := bind_some h
  obtain ⟨hpre, hz⟩ := ite_some h1
  cases hz
  exact ⟨_, at24 c hpre, rfl, le_plain ⟨whole_co pConn_snd k0, trivial⟩ (by simp only [List.all_cons, List.all_nil, Bool.not_false, Bool.and_self, notRefB (whole_co pConn_snd k0) rfl (by simp)]) rfl⟩
theorem en24 : Enters Try.prog 24 := enters_of Try.func24 (by kernel_rfl) (by kernel_rfl)

end Go.Proofs.Ytkjodjaamjnejaa

