import Derived.Test.YtkjodjaamjnejaaP13
import Derived.Test.YtkjodjaamjnejaaK11
import Derived.Test.YtkjodjaamjnejaaP9
set_option linter.all false
-- Printed by genwalk.py.
namespace Go.Proofs.Ytkjodjaamjnejaa
open Go Go.RowKit Caw
set_option linter.unusedSimpArgs false
set_option linter.unusedVariables false
set_option maxRecDepth 100000

-- (*caravel/caravellaw19.talk).step!e
theorem g17e : GOk1 Try.prog (ctxOf [(38, F38)]) := gok_cons spec38 en38 (gok_nil)
set_option maxHeartbeats 4000000 in
theorem at17e (t0 : Caw.Talk) (s : Caw.Stp) (hpre : stepE t0 s) : SpecAt Try.prog 17 [.ref (talkCells t0), .agg (stpCells s)] (.tup []) (some (talkCells (ticks t0 (tickN s)))) := by
  obtain ⟨h1, h2⟩ := hpre
  simp only [kindOf, tickN] at h1 h2 ⊢
  all_goals refine specAt_of_tri Try.func17 rfl (Nat.le_of_ble_eq_true rfl) ?_
  all_goals (repeat' (first
    | (refine tri_condT (b_true (by simp; with_reducible exact IsB.mk)) ?_)
    | (refine tri_condF (b_true (by simp; with_reducible exact IsB.mk)) ?_)
    | (refine tri_skipT ?_)
    | (refine in_n ?_)
    | (refine tri_block ?_)
    | (refine tri_step (id := 0) (C := ⟨[3], [38], [(9, (10, 0, 0)), (63, (0, 1, 0)), (130, (0, 1, 0)), (134, (0, 1, 0)), (144, (0, 1, 0))]⟩) [0, 3] [(0, 1, 0)] g17e nodraw ?_; refine ⟨_, by (simp [*, F38, flg]; exact Is.mk), ?_⟩)
    | (refine tri_step (id := 1) (C := ⟨[3], [38], [(9, (10, 0, 0)), (63, (0, 1, 0)), (130, (0, 1, 0)), (134, (0, 1, 0)), (144, (0, 1, 0))]⟩) [0, 3, 4] [(0, 1, 0)] g17e nodraw ?_; refine ⟨_, by (simp [*, F38, flg]; exact Is.mk), ?_⟩)
    | (refine tri_step (id := 2) (C := ⟨[3], [38], [(9, (10, 0, 0)), (63, (0, 1, 0)), (130, (0, 1, 0)), (134, (0, 1, 0)), (144, (0, 1, 0))]⟩) [0, 3, 4, 5] [(0, 1, 0)] g17e nodraw ?_; refine ⟨_, by (simp [*, F38, flg]; exact Is.mk), ?_⟩)
    | (refine tri_stepG (id := 3) (C := ⟨[3], [38], [(9, (10, 0, 0)), (63, (0, 1, 0)), (130, (0, 1, 0)), (134, (0, 1, 0)), (144, (0, 1, 0))]⟩) [0, 3, 4, 5, 25] [(0, 1, 0)] g17e nodraw ?_; refine ⟨_, (run_split 0 3 22 (by simp [*, F38, flg]; exact Is.mk) (by simp; exact IsB.mk) (by simp [*, F38, flg]; exact IsK.mk) (by simp [*, F38, flg]; exact IsK.mk) (by simp; exact IsK.mk)), ?_⟩)
    | (refine tri_step (id := 12) (C := ⟨[3], [38], [(9, (10, 0, 0)), (63, (0, 1, 0)), (130, (0, 1, 0)), (134, (0, 1, 0)), (144, (0, 1, 0))]⟩) [0, 3, 4, 70] [(0, 1, 0)] g17e nodraw ?_; refine ⟨_, by (simp [*, F38, flg]; exact Is.mk), ?_⟩)
    | (refine tri_step (id := 14) (C := ⟨[3], [38], [(9, (10, 0, 0)), (63, (0, 1, 0)), (130, (0, 1, 0)), (134, (0, 1, 0)), (144, (0, 1, 0))]⟩) [0, 3, 4, 70, 76] [(0, 1, 0)] g17e nodraw ?_; refine ⟨_, by (simp [*, F38, flg]; exact Is.mk), ?_⟩)
    | (refine tri_last (id := 15) (C := ⟨[3], [38], [(9, (10, 0, 0)), (63, (0, 1, 0)), (130, (0, 1, 0)), (134, (0, 1, 0)), (144, (0, 1, 0))]⟩) [] [(0, 1, 0)] g17e nodraw ?_; refine ⟨_, by (simp [*, F38, flg]; exact Is.mk), ?_⟩)
    | (refine tri_seq ?_)
    ))
  all_goals (refine post_obj [] trivial _ rfl rfl (by simp) rfl ?_)
  all_goals (rw [talkCells_name])
  all_goals (refine talkCells_coE ?_)
  all_goals (first | (simp []; done) | (simp [*, ]; done) | (simp_all []; done) | trace_state)
end Go.Proofs.Ytkjodjaamjnejaa

-- Printed by genwalk.py.
namespace Go.Proofs.Ytkjodjaamjnejaa
open Go Go.RowKit Caw
set_option linter.unusedSimpArgs false
set_option linter.unusedVariables false
set_option maxRecDepth 100000

-- (*caravel/caravellaw19.talk).step!h
theorem g17h : GOk1 Try.prog (ctxOf [(13, F13)]) := gok_cons spec13 en13 (gok_nil)
set_option maxHeartbeats 4000000 in
theorem at17h (t0 : Caw.Talk) (s : Caw.Stp) (hpre : stepH t0 s) : SpecAt Try.prog 17 [.ref (talkCells t0), .agg (stpCells s)] (.tup []) (some (talkCells (writes t0 (sideOf s) s.data))) := by
  obtain ⟨h1, h2⟩ := hpre
  simp only [kindOf, sideOf] at h1 h2 ⊢
  rcases h1 with h1 | h1
  all_goals refine specAt_of_tri Try.func17 rfl (Nat.le_of_ble_eq_true rfl) ?_
  all_goals (repeat' (first
    | (refine tri_condF (b_true (by simp; with_reducible exact IsB.mk)) ?_)
    | (refine tri_skipT ?_)
    | (refine in_n ?_)
    | (refine tri_block ?_)
    | (refine tri_step (id := 0) (C := ⟨[3], [13], [(9, (10, 0, 0)), (63, (0, 1, 0)), (130, (0, 1, 0)), (134, (0, 1, 0)), (144, (0, 1, 0))]⟩) [0, 3] [(0, 1, 0)] g17h nodraw ?_; refine ⟨_, by (simp [*, F13, flg]; exact Is.mk), ?_⟩)
    | (refine tri_step (id := 1) (C := ⟨[3], [13], [(9, (10, 0, 0)), (63, (0, 1, 0)), (130, (0, 1, 0)), (134, (0, 1, 0)), (144, (0, 1, 0))]⟩) [0, 3, 4] [(0, 1, 0)] g17h nodraw ?_; refine ⟨_, by (simp [*, F13, flg]; exact Is.mk), ?_⟩)
    | (refine tri_step (id := 2) (C := ⟨[3], [13], [(9, (10, 0, 0)), (63, (0, 1, 0)), (130, (0, 1, 0)), (134, (0, 1, 0)), (144, (0, 1, 0))]⟩) [0, 3, 4, 5] [(0, 1, 0)] g17h nodraw ?_; refine ⟨_, by (simp [*, F13, flg]; exact Is.mk), ?_⟩)
    | (refine tri_stepG (id := 3) (C := ⟨[3], [13], [(9, (10, 0, 0)), (63, (0, 1, 0)), (130, (0, 1, 0)), (134, (0, 1, 0)), (144, (0, 1, 0))]⟩) [0, 3, 4, 5, 25] [(0, 1, 0)] g17h nodraw ?_; refine ⟨_, (run_split 0 3 22 (by simp [*, F13, flg]; exact Is.mk) (by simp; exact IsB.mk) (by simp [*, F13, flg]; exact IsK.mk) (by simp [*, F13, flg]; exact IsK.mk) (by simp; exact IsK.mk)), ?_⟩)
    | (refine tri_step (id := 12) (C := ⟨[3], [13], [(9, (10, 0, 0)), (63, (0, 1, 0)), (130, (0, 1, 0)), (134, (0, 1, 0)), (144, (0, 1, 0))]⟩) [0, 3, 4, 70] [(0, 1, 0)] g17h nodraw ?_; refine ⟨_, by (simp [*, F13, flg]; exact Is.mk), ?_⟩)
    | (refine tri_last (id := 13) (C := ⟨[3], [13], [(9, (10, 0, 0)), (63, (0, 1, 0)), (130, (0, 1, 0)), (134, (0, 1, 0)), (144, (0, 1, 0))]⟩) [] [(0, 1, 0)] g17h nodraw ?_; refine ⟨_, by (simp [*, F13, flg]; exact Is.mk), ?_⟩)
    | (refine tri_step (id := 14) (C := ⟨[3], [13], [(9, (10, 0, 0)), (63, (0, 1, 0)), (130, (0, 1, 0)), (134, (0, 1, 0)), (144, (0, 1, 0))]⟩) [0, 3, 4, 70, 76] [(0, 1, 0)] g17h nodraw ?_; refine ⟨_, by (simp [*, F13, flg]; exact Is.mk), ?_⟩)
    | (refine tri_step (id := 16) (C := ⟨[3], [13], [(9, (10, 0, 0)), (63, (0, 1, 0)), (130, (0, 1, 0)), (134, (0, 1, 0)), (144, (0, 1, 0))]⟩) [0, 3, 4, 70, 85] [(0, 1, 0)] g17h nodraw ?_; refine ⟨_, by (simp [*, F13, flg]; exact Is.mk), ?_⟩)
    | (refine tri_step (id := 19) (C := ⟨[3], [13], [(9, (10, 0, 0)), (63, (0, 1, 0)), (130, (0, 1, 0)), (134, (0, 1, 0)), (144, (0, 1, 0))]⟩) [0, 3, 4, 102] [(0, 1, 0)] g17h nodraw ?_; refine ⟨_, by (simp [*, F13, flg]; exact Is.mk), ?_⟩)
    | (refine tri_seq ?_)
    ))
  all_goals (refine post_obj [] trivial _ rfl rfl (by simp) rfl ?_)
  all_goals (rw [talkCells_name])
  all_goals (refine talkCells_coE ?_)
  all_goals (first | (simp []; done) | (simp [*, ]; done) | (simp_all []; done) | trace_state)
end Go.Proofs.Ytkjodjaamjnejaa

-- Printed by genwalk.py.
namespace Go.Proofs.Ytkjodjaamjnejaa
open Go Go.RowKit Caw
set_option linter.unusedSimpArgs false
set_option linter.unusedVariables false
set_option maxRecDepth 100000

-- (*caravel/caravellaw19.talk).step!r
theorem g17r : GOk1 Try.prog (ctxOf [(15, F15)]) := gok_cons spec15 en15 (gok_nil)
set_option maxHeartbeats 4000000 in
theorem at17r (t0 : Caw.Talk) (s : Caw.Stp) (hpre : stepR0 t0 s) : SpecAt Try.prog 17 [.ref (talkCells t0), .agg (stpCells s)] (.tup []) (some (talkCells (reads t0 0 (readN2 s)))) := by
  obtain ⟨h1, h2, h3, h4⟩ := hpre
  simp only [kindOf, sideOf, readN2] at h1 h2 h4 ⊢
  all_goals refine specAt_of_tri Try.func17 rfl (Nat.le_of_ble_eq_true rfl) ?_
  all_goals (repeat' (first
    | (refine tri_condT (b_true (by simp; with_reducible exact IsB.mk)) ?_)
    | (refine tri_condF (b_true (by simp; with_reducible exact IsB.mk)) ?_)
    | (refine tri_skipT ?_)
    | (refine in_n ?_)
    | (refine tri_block ?_)
    | (refine tri_step (id := 0) (C := ⟨[3], [15], [(9, (10, 0, 0)), (63, (0, 1, 0)), (130, (0, 1, 0)), (134, (0, 1, 0)), (144, (0, 1, 0))]⟩) [0, 3] [(0, 1, 0)] g17r nodraw ?_; refine ⟨_, by (simp [*, F15, flg]; exact Is.mk), ?_⟩)
    | (refine tri_step (id := 1) (C := ⟨[3], [15], [(9, (10, 0, 0)), (63, (0, 1, 0)), (130, (0, 1, 0)), (134, (0, 1, 0)), (144, (0, 1, 0))]⟩) [0, 3, 4] [(0, 1, 0)] g17r nodraw ?_; refine ⟨_, by (simp [*, F15, flg]; exact Is.mk), ?_⟩)
    | (refine tri_step (id := 2) (C := ⟨[3], [15], [(9, (10, 0, 0)), (63, (0, 1, 0)), (130, (0, 1, 0)), (134, (0, 1, 0)), (144, (0, 1, 0))]⟩) [0, 3, 4, 5] [(0, 1, 0)] g17r nodraw ?_; refine ⟨_, by (simp [*, F15, flg]; exact Is.mk), ?_⟩)
    | (refine tri_stepG (id := 3) (C := ⟨[3], [15], [(9, (10, 0, 0)), (63, (0, 1, 0)), (130, (0, 1, 0)), (134, (0, 1, 0)), (144, (0, 1, 0))]⟩) [0, 3, 4, 5, 25] [(0, 1, 0)] g17r nodraw ?_; refine ⟨_, (run_split 0 3 22 (by simp [*, F15, flg]; exact Is.mk) (by simp; exact IsB.mk) (by simp [*, F15, flg]; exact IsK.mk) (by simp [*, F15, flg]; exact IsK.mk) (by simp; exact IsK.mk)), ?_⟩)
    | (refine tri_step (id := 12) (C := ⟨[3], [15], [(9, (10, 0, 0)), (63, (0, 1, 0)), (130, (0, 1, 0)), (134, (0, 1, 0)), (144, (0, 1, 0))]⟩) [0, 3, 4, 70] [(0, 1, 0)] g17r nodraw ?_; refine ⟨_, by (simp [*, F15, flg]; exact Is.mk), ?_⟩)
    | (refine tri_step (id := 14) (C := ⟨[3], [15], [(9, (10, 0, 0)), (63, (0, 1, 0)), (130, (0, 1, 0)), (134, (0, 1, 0)), (144, (0, 1, 0))]⟩) [0, 3, 4, 70, 76] [(0, 1, 0)] g17r nodraw ?_; refine ⟨_, by (simp [*, F15, flg]; exact Is.mk), ?_⟩)
    | (refine tri_step (id := 16) (C := ⟨[3], [15], [(9, (10, 0, 0)), (63, (0, 1, 0)), (130, (0, 1, 0)), (134, (0, 1, 0)), (144, (0, 1, 0))]⟩) [0, 3, 4, 70, 85] [(0, 1, 0)] g17r nodraw ?_; refine ⟨_, by (simp [*, F15, flg]; exact Is.mk), ?_⟩)
    | (refine tri_step (id := 17) (C := ⟨[3], [15], [(9, (10, 0, 0)), (63, (0, 1, 0)), (130, (0, 1, 0)), (134, (0, 1, 0)), (144, (0, 1, 0))]⟩) [0, 3, 4, 92] [(0, 1, 0)] g17r nodraw ?_; refine ⟨_, by (simp [*, F15, flg]; exact Is.mk), ?_⟩)
    | (refine tri_last (id := 18) (C := ⟨[3], [15], [(9, (10, 0, 0)), (63, (0, 1, 0)), (130, (0, 1, 0)), (134, (0, 1, 0)), (144, (0, 1, 0))]⟩) [] [(0, 1, 0)] g17r nodraw ?_; refine ⟨_, by (simp [*, F15, flg]; exact Is.mk), ?_⟩)
    | (refine tri_seq ?_)
    ))
  all_goals (refine post_obj [] trivial _ rfl rfl (by simp) rfl ?_)
  all_goals (rw [talkCells_name])
  all_goals (refine talkCells_coE ?_)
  all_goals (first | (simp []; done) | (simp [*, ]; done) | (simp_all []; done) | trace_state)
end Go.Proofs.Ytkjodjaamjnejaa

-- Printed by genwalk.py.
namespace Go.Proofs.Ytkjodjaamjnejaa
open Go Go.RowKit Caw
set_option linter.unusedSimpArgs false
set_option linter.unusedVariables false
set_option maxRecDepth 100000

-- (*caravel/caravellaw19.talk).step!s
theorem g17s : GOk1 Try.prog (ctxOf [(15, F15)]) := gok_cons spec15 en15 (gok_nil)
set_option maxHeartbeats 4000000 in
theorem at17s (t0 : Caw.Talk) (s : Caw.Stp) (hpre : stepR1 t0 s) : SpecAt Try.prog 17 [.ref (talkCells t0), .agg (stpCells s)] (.tup []) (some (talkCells (if t0.is1 = true then reads t0 1 (readN2 s) else t0))) := by
  obtain ⟨h1, h2, h3⟩ := hpre
  simp only [kindOf, sideOf] at h1 h2
  rcases h3 with h3 | ⟨h3, h4⟩
  all_goals (first | rw [if_pos h3] | rw [if_neg (not_yes h3)])
  all_goals (try simp only [readN2] at h4 ⊢)
  all_goals refine specAt_of_tri Try.func17 rfl (Nat.le_of_ble_eq_true rfl) ?_
  all_goals (repeat' (first
    | (refine tri_condT (b_true (by simp; with_reducible exact IsB.mk)) ?_)
    | (refine tri_condF (b_true (by simp; with_reducible exact IsB.mk)) ?_)
    | (refine tri_skipT ?_)
    | (refine tri_skip ?_)
    | (refine in_n ?_)
    | (refine tri_block ?_)
    | (refine tri_step (id := 0) (C := ⟨[3], [15], [(9, (10, 0, 0)), (63, (0, 1, 0)), (130, (0, 1, 0)), (134, (0, 1, 0)), (144, (0, 1, 0))]⟩) [0, 3] [(0, 1, 0)] g17s nodraw ?_; refine ⟨_, by (simp [*, F15, flg]; exact Is.mk), ?_⟩)
    | (refine tri_step (id := 1) (C := ⟨[3], [15], [(9, (10, 0, 0)), (63, (0, 1, 0)), (130, (0, 1, 0)), (134, (0, 1, 0)), (144, (0, 1, 0))]⟩) [0, 3, 4] [(0, 1, 0)] g17s nodraw ?_; refine ⟨_, by (simp [*, F15, flg]; exact Is.mk), ?_⟩)
    | (refine tri_step (id := 2) (C := ⟨[3], [15], [(9, (10, 0, 0)), (63, (0, 1, 0)), (130, (0, 1, 0)), (134, (0, 1, 0)), (144, (0, 1, 0))]⟩) [0, 3, 4, 5] [(0, 1, 0)] g17s nodraw ?_; refine ⟨_, by (simp [*, F15, flg]; exact Is.mk), ?_⟩)
    | (refine tri_stepG (id := 3) (C := ⟨[3], [15], [(9, (10, 0, 0)), (63, (0, 1, 0)), (130, (0, 1, 0)), (134, (0, 1, 0)), (144, (0, 1, 0))]⟩) [0, 3, 4, 5, 25] [(0, 1, 0)] g17s nodraw ?_; refine ⟨_, (run_split 0 3 22 (by simp [*, F15, flg]; exact Is.mk) (by simp; exact IsB.mk) (by simp [*, F15, flg]; exact IsK.mk) (by simp [*, F15, flg]; exact IsK.mk) (by simp; exact IsK.mk)), ?_⟩)
    | (refine tri_step (id := 12) (C := ⟨[3], [15], [(9, (10, 0, 0)), (63, (0, 1, 0)), (130, (0, 1, 0)), (134, (0, 1, 0)), (144, (0, 1, 0))]⟩) [0, 3, 4, 70] [(0, 1, 0)] g17s nodraw ?_; refine ⟨_, by (simp [*, F15, flg]; exact Is.mk), ?_⟩)
    | (refine tri_step (id := 14) (C := ⟨[3], [15], [(9, (10, 0, 0)), (63, (0, 1, 0)), (130, (0, 1, 0)), (134, (0, 1, 0)), (144, (0, 1, 0))]⟩) [0, 3, 4, 70, 76] [(0, 1, 0)] g17s nodraw ?_; refine ⟨_, by (simp [*, F15, flg]; exact Is.mk), ?_⟩)
    | (refine tri_step (id := 16) (C := ⟨[3], [15], [(9, (10, 0, 0)), (63, (0, 1, 0)), (130, (0, 1, 0)), (134, (0, 1, 0)), (144, (0, 1, 0))]⟩) [0, 3, 4, 70, 85] [(0, 1, 0)] g17s nodraw ?_; refine ⟨_, by (simp [*, F15, flg]; exact Is.mk), ?_⟩)
    | (refine tri_step (id := 17) (C := ⟨[3], [15], [(9, (10, 0, 0)), (63, (0, 1, 0)), (130, (0, 1, 0)), (134, (0, 1, 0)), (144, (0, 1, 0))]⟩) [0, 3, 4, 92] [(0, 1, 0)] g17s nodraw ?_; refine ⟨_, by (simp [*, F15, flg]; exact Is.mk), ?_⟩)
    | (refine tri_last (id := 18) (C := ⟨[3], [15], [(9, (10, 0, 0)), (63, (0, 1, 0)), (130, (0, 1, 0)), (134, (0, 1, 0)), (144, (0, 1, 0))]⟩) [] [(0, 1, 0)] g17s nodraw ?_; refine ⟨_, by (simp [*, F15, flg]; exact Is.mk), ?_⟩)
    | (refine tri_seq ?_)
    ))
  all_goals (refine post_obj [] trivial _ rfl rfl (by simp) rfl ?_)
  all_goals (rw [talkCells_name])
  all_goals (refine talkCells_coE ?_)
  all_goals (first | (simp []; done) | (simp [*, ]; done) | (simp_all []; done) | trace_state)
end Go.Proofs.Ytkjodjaamjnejaa

-- Printed by genwalk.py.
namespace Go.Proofs.Ytkjodjaamjnejaa
open Go Go.RowKit Caw
set_option linter.unusedSimpArgs false
set_option linter.unusedVariables false
set_option maxRecDepth 100000

-- (*caravel/caravellaw19.talk).step!c
theorem g17c : GOk1 Try.prog (ctxOf [(31, F31), (37, F37)]) := gok_cons spec31 en31 (gok_cons spec37 en37 (gok_nil))
set_option maxHeartbeats 4000000 in
theorem at17c (t0 : Caw.Talk) (s : Caw.Stp) (hpre : stepC0 t0 s) : SpecAt Try.prog 17 [.ref (talkCells t0), .agg (stpCells s)] (.tup []) (some (talkCells (closes t0 0))) := by
  obtain ⟨h1, h2, h3⟩ := hpre
  simp only [kindOf, sideOf] at h1 h2
  rcases h3 with ⟨-, h3⟩ | ⟨-, h3, h4⟩ | ⟨-, h3, h4, h5, h6⟩ | ⟨h3, -⟩ | ⟨h3, -⟩ | ⟨h3, -⟩
  all_goals (try (exact absurd h3 (by omega)))
  all_goals (try have h7 := bne_true h4)
  all_goals (try have h7 := bne_false h4)
  all_goals (try clear h4)
  all_goals (try simp only [close0, h3] at h6)
  all_goals refine specAt_of_tri Try.func17 rfl (Nat.le_of_ble_eq_true rfl) ?_
  all_goals (repeat' (first
    | (refine tri_condT (b_true (by simp; with_reducible exact IsB.mk)) ?_)
    | (refine tri_condF (b_true (by simp; with_reducible exact IsB.mk)) ?_)
    | (refine tri_skipT ?_)
    | (refine tri_skip ?_)
    | (refine in_n ?_)
    | (refine tri_block ?_)
    | (refine tri_step (id := 0) (C := ⟨[3], [37], [(9, (10, 0, 0)), (63, (0, 1, 0)), (130, (0, 1, 0)), (134, (0, 1, 0)), (144, (0, 1, 0))]⟩) [0, 3] [(0, 1, 0)] g17c nodraw ?_; refine ⟨_, by (simp [*, F31, F37, flg]; exact Is.mk), ?_⟩)
    | (refine tri_step (id := 1) (C := ⟨[3], [37], [(9, (10, 0, 0)), (63, (0, 1, 0)), (130, (0, 1, 0)), (134, (0, 1, 0)), (144, (0, 1, 0))]⟩) [0, 3, 4] [(0, 1, 0)] g17c nodraw ?_; refine ⟨_, by (simp [*, F31, F37, flg]; exact Is.mk), ?_⟩)
    | (refine tri_step (id := 2) (C := ⟨[3], [37], [(9, (10, 0, 0)), (63, (0, 1, 0)), (130, (0, 1, 0)), (134, (0, 1, 0)), (144, (0, 1, 0))]⟩) [0, 3, 4, 5] [(0, 1, 0)] g17c nodraw ?_; refine ⟨_, by (simp [*, F31, F37, flg]; exact Is.mk), ?_⟩)
    | (refine tri_stepG (id := 3) (C := ⟨[3], [37], [(9, (10, 0, 0)), (63, (0, 1, 0)), (130, (0, 1, 0)), (134, (0, 1, 0)), (144, (0, 1, 0))]⟩) [0, 3, 4, 5, 25] [(0, 1, 0)] g17c nodraw ?_; refine ⟨_, (run_split 0 3 22 (by simp [*, F31, F37, flg]; exact Is.mk) (by simp; exact IsB.mk) (by simp [*, F31, F37, flg]; exact IsK.mk) (by simp [*, F31, F37, flg]; exact IsK.mk) (by simp; exact IsK.mk)), ?_⟩)
    | (refine tri_step (id := 12) (C := ⟨[3], [37], [(9, (10, 0, 0)), (63, (0, 1, 0)), (130, (0, 1, 0)), (134, (0, 1, 0)), (144, (0, 1, 0))]⟩) [0, 3, 4, 70] [(0, 1, 0)] g17c nodraw ?_; refine ⟨_, by (simp [*, F31, F37, flg]; exact Is.mk), ?_⟩)
    | (refine tri_step (id := 14) (C := ⟨[3], [37], [(9, (10, 0, 0)), (63, (0, 1, 0)), (130, (0, 1, 0)), (134, (0, 1, 0)), (144, (0, 1, 0))]⟩) [0, 3, 4, 70, 76] [(0, 1, 0)] g17c nodraw ?_; refine ⟨_, by (simp [*, F31, F37, flg]; exact Is.mk), ?_⟩)
    | (refine tri_step (id := 16) (C := ⟨[3], [37], [(9, (10, 0, 0)), (63, (0, 1, 0)), (130, (0, 1, 0)), (134, (0, 1, 0)), (144, (0, 1, 0))]⟩) [0, 3, 4, 70, 85] [(0, 1, 0)] g17c nodraw ?_; refine ⟨_, by (simp [*, F31, F37, flg]; exact Is.mk), ?_⟩)
    | (refine tri_step (id := 19) (C := ⟨[3], [37], [(9, (10, 0, 0)), (63, (0, 1, 0)), (130, (0, 1, 0)), (134, (0, 1, 0)), (144, (0, 1, 0))]⟩) [0, 3, 4, 102] [(0, 1, 0)] g17c nodraw ?_; refine ⟨_, by (simp [*, F31, F37, flg]; exact Is.mk), ?_⟩)
    | (refine tri_stepG (id := 20) (C := ⟨[3], [37], [(9, (10, 0, 0)), (63, (0, 1, 0)), (130, (0, 1, 0)), (134, (0, 1, 0)), (144, (0, 1, 0))]⟩) [0, 4, 119] [(0, 1, 0)] g17c nodraw ?_; refine ⟨_, (run_split 0 7 110 (by simp [*, F31, F37, flg]; exact Is.mk) (by simp; exact IsB.mk) (by simp [*, F31, F37, flg]; exact IsK.mk) (by simp [*, F31, F37, flg]; exact IsK.mk) (by simp; exact IsK.mk)), ?_⟩)
    | (refine tri_step (id := 21) (C := ⟨[3], [37], [(9, (10, 0, 0)), (63, (0, 1, 0)), (130, (0, 1, 0)), (134, (0, 1, 0)), (144, (0, 1, 0))]⟩) [0, 4] [(0, 1, 0)] g17c nodraw ?_; refine ⟨_, by (simp [*, F31, F37, flg]; exact Is.mk), ?_⟩)
    | (refine tri_step (id := 22) (C := ⟨[3], [37], [(9, (10, 0, 0)), (63, (0, 1, 0)), (130, (0, 1, 0)), (134, (0, 1, 0)), (144, (0, 1, 0))]⟩) [0, 4, 9, 10] [(0, 1, 0), (10, 0, 0)] g17c (fun _ => ⟨q_mixed, by kernel_rfl⟩) ?_; refine ⟨_, by (simp [*, F31, F37, flg]; exact Is.mk), ?_⟩)
    | (refine tri_step (id := 23) (C := ⟨[3], [37], [(9, (10, 0, 0)), (63, (0, 1, 0)), (130, (0, 1, 0)), (134, (0, 1, 0)), (144, (0, 1, 0))]⟩) [0, 4, 10] [(0, 1, 0)] g17c (fun _ => ⟨q_mixed, by kernel_rfl⟩) ?_; refine ⟨_, by (simp [*, F31, F37, flg]; exact Is.mk), ?_⟩)
    | (refine tri_last (id := 24) (C := ⟨[3], [37], [(9, (10, 0, 0)), (63, (0, 1, 0)), (130, (0, 1, 0)), (134, (0, 1, 0)), (144, (0, 1, 0))]⟩) [] [(0, 1, 0)] g17c nodraw ?_; refine ⟨_, by (simp [*, F31, F37, flg]; exact Is.mk), ?_⟩)
    | (refine tri_seq ?_)
    ))
  all_goals (refine post_obj [] trivial _ rfl rfl (by simp) rfl ?_)
  all_goals (rw [talkCells_name])
  all_goals (refine talkCells_coE ?_)
  all_goals (first | (simp [closes, close0, close1]; done) | (simp [*, closes, close0, close1]; done) | (simp_all [closes, close0, close1]; done) | trace_state)
end Go.Proofs.Ytkjodjaamjnejaa

-- Printed by genwalk.py.
namespace Go.Proofs.Ytkjodjaamjnejaa
open Go Go.RowKit Caw
set_option linter.unusedSimpArgs false
set_option linter.unusedVariables false
set_option maxRecDepth 100000

-- (*caravel/caravellaw19.talk).step!d
theorem g17d : GOk1 Try.prog (ctxOf [(31, F31), (37, F37)]) := gok_cons spec31 en31 (gok_cons spec37 en37 (gok_nil))
set_option maxHeartbeats 4000000 in
theorem at17d (t0 : Caw.Talk) (s : Caw.Stp) (hpre : stepC1 t0 s) : SpecAt Try.prog 17 [.ref (talkCells t0), .agg (stpCells s)] (.tup []) (some (talkCells (closes t0 1))) := by
  obtain ⟨h1, h2, h3⟩ := hpre
  simp only [kindOf, sideOf] at h1 h2
  rcases h3 with ⟨h3, -⟩ | ⟨h3, -⟩ | ⟨h3, -⟩ | ⟨-, h3⟩ | ⟨-, h3, h4⟩ | ⟨-, h3, h4, h5, h6⟩
  all_goals (try (exact absurd h3 (by omega)))
  all_goals (try have h7 := bne_true h4)
  all_goals (try have h7 := bne_false h4)
  all_goals (try clear h4)
  all_goals (try simp only [close1, h3] at h6)
  all_goals refine specAt_of_tri Try.func17 rfl (Nat.le_of_ble_eq_true rfl) ?_
  all_goals (repeat' (first
    | (refine tri_condT (b_true (by simp; with_reducible exact IsB.mk)) ?_)
    | (refine tri_condF (b_true (by simp; with_reducible exact IsB.mk)) ?_)
    | (refine tri_skipT ?_)
    | (refine tri_skip ?_)
    | (refine in_n ?_)
    | (refine tri_block ?_)
    | (refine tri_step (id := 0) (C := ⟨[3], [37], [(9, (10, 0, 0)), (63, (0, 1, 0)), (130, (0, 1, 0)), (134, (0, 1, 0)), (144, (0, 1, 0))]⟩) [0, 3] [(0, 1, 0)] g17d nodraw ?_; refine ⟨_, by (simp [*, F31, F37, flg]; exact Is.mk), ?_⟩)
    | (refine tri_step (id := 1) (C := ⟨[3], [37], [(9, (10, 0, 0)), (63, (0, 1, 0)), (130, (0, 1, 0)), (134, (0, 1, 0)), (144, (0, 1, 0))]⟩) [0, 3, 4] [(0, 1, 0)] g17d nodraw ?_; refine ⟨_, by (simp [*, F31, F37, flg]; exact Is.mk), ?_⟩)
    | (refine tri_step (id := 2) (C := ⟨[3], [37], [(9, (10, 0, 0)), (63, (0, 1, 0)), (130, (0, 1, 0)), (134, (0, 1, 0)), (144, (0, 1, 0))]⟩) [0, 3, 4, 5] [(0, 1, 0)] g17d nodraw ?_; refine ⟨_, by (simp [*, F31, F37, flg]; exact Is.mk), ?_⟩)
    | (refine tri_stepG (id := 3) (C := ⟨[3], [37], [(9, (10, 0, 0)), (63, (0, 1, 0)), (130, (0, 1, 0)), (134, (0, 1, 0)), (144, (0, 1, 0))]⟩) [0, 3, 4, 5, 25] [(0, 1, 0)] g17d nodraw ?_; refine ⟨_, (run_split 0 3 22 (by simp [*, F31, F37, flg]; exact Is.mk) (by simp; exact IsB.mk) (by simp [*, F31, F37, flg]; exact IsK.mk) (by simp [*, F31, F37, flg]; exact IsK.mk) (by simp; exact IsK.mk)), ?_⟩)
    | (refine tri_step (id := 12) (C := ⟨[3], [37], [(9, (10, 0, 0)), (63, (0, 1, 0)), (130, (0, 1, 0)), (134, (0, 1, 0)), (144, (0, 1, 0))]⟩) [0, 3, 4, 70] [(0, 1, 0)] g17d nodraw ?_; refine ⟨_, by (simp [*, F31, F37, flg]; exact Is.mk), ?_⟩)
    | (refine tri_step (id := 14) (C := ⟨[3], [37], [(9, (10, 0, 0)), (63, (0, 1, 0)), (130, (0, 1, 0)), (134, (0, 1, 0)), (144, (0, 1, 0))]⟩) [0, 3, 4, 70, 76] [(0, 1, 0)] g17d nodraw ?_; refine ⟨_, by (simp [*, F31, F37, flg]; exact Is.mk), ?_⟩)
    | (refine tri_step (id := 16) (C := ⟨[3], [37], [(9, (10, 0, 0)), (63, (0, 1, 0)), (130, (0, 1, 0)), (134, (0, 1, 0)), (144, (0, 1, 0))]⟩) [0, 3, 4, 70, 85] [(0, 1, 0)] g17d nodraw ?_; refine ⟨_, by (simp [*, F31, F37, flg]; exact Is.mk), ?_⟩)
    | (refine tri_step (id := 19) (C := ⟨[3], [37], [(9, (10, 0, 0)), (63, (0, 1, 0)), (130, (0, 1, 0)), (134, (0, 1, 0)), (144, (0, 1, 0))]⟩) [0, 3, 4, 102] [(0, 1, 0)] g17d nodraw ?_; refine ⟨_, by (simp [*, F31, F37, flg]; exact Is.mk), ?_⟩)
    | (refine tri_stepG (id := 20) (C := ⟨[3], [37], [(9, (10, 0, 0)), (63, (0, 1, 0)), (130, (0, 1, 0)), (134, (0, 1, 0)), (144, (0, 1, 0))]⟩) [0, 4, 119] [(0, 1, 0)] g17d nodraw ?_; refine ⟨_, (run_split 0 7 110 (by simp [*, F31, F37, flg]; exact Is.mk) (by simp; exact IsB.mk) (by simp [*, F31, F37, flg]; exact IsK.mk) (by simp [*, F31, F37, flg]; exact IsK.mk) (by simp; exact IsK.mk)), ?_⟩)
    | (refine tri_step (id := 21) (C := ⟨[3], [37], [(9, (10, 0, 0)), (63, (0, 1, 0)), (130, (0, 1, 0)), (134, (0, 1, 0)), (144, (0, 1, 0))]⟩) [0, 4] [(0, 1, 0)] g17d nodraw ?_; refine ⟨_, by (simp [*, F31, F37, flg]; exact Is.mk), ?_⟩)
    | (refine tri_step (id := 22) (C := ⟨[3], [37], [(9, (10, 0, 0)), (63, (0, 1, 0)), (130, (0, 1, 0)), (134, (0, 1, 0)), (144, (0, 1, 0))]⟩) [0, 4, 9, 10] [(0, 1, 0), (10, 0, 0)] g17d (fun _ => ⟨q_mixed, by kernel_rfl⟩) ?_; refine ⟨_, by (simp [*, F31, F37, flg]; exact Is.mk), ?_⟩)
    | (refine tri_step (id := 23) (C := ⟨[3], [37], [(9, (10, 0, 0)), (63, (0, 1, 0)), (130, (0, 1, 0)), (134, (0, 1, 0)), (144, (0, 1, 0))]⟩) [0, 4, 10] [(0, 1, 0)] g17d (fun _ => ⟨q_mixed, by kernel_rfl⟩) ?_; refine ⟨_, by (simp [*, F31, F37, flg]; exact Is.mk), ?_⟩)
    | (refine tri_last (id := 24) (C := ⟨[3], [37], [(9, (10, 0, 0)), (63, (0, 1, 0)), (130, (0, 1, 0)), (134, (0, 1, 0)), (144, (0, 1, 0))]⟩) [] [(0, 1, 0)] g17d nodraw ?_; refine ⟨_, by (simp [*, F31, F37, flg]; exact Is.mk), ?_⟩)
    | (refine tri_seq ?_)
    ))
  all_goals (refine post_obj [] trivial _ rfl rfl (by simp) rfl ?_)
  all_goals (rw [talkCells_name])
  all_goals (refine talkCells_coE ?_)
  all_goals (first | (simp [closes, close0, close1]; done) | (simp [*, closes, close0, close1]; done) | (simp_all [closes, close0, close1]; done) | trace_state)
end Go.Proofs.Ytkjodjaamjnejaa

