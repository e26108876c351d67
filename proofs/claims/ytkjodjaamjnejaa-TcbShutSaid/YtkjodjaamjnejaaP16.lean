import Derived.Test.YtkjodjaamjnejaaP13
import Derived.Test.YtkjodjaamjnejaaK11
set_option linter.all false
-- Printed by genwalk.py.
namespace Go.Proofs.Ytkjodjaamjnejaa
open Go Go.RowKit Caw
set_option linter.unusedSimpArgs false
set_option linter.unusedVariables false
set_option maxRecDepth 100000

-- (*caravel/caravellaw19.talk).step!w
theorem g17w : GOk1 Try.prog (ctxOf [(14, F14)]) := gok_cons spec14 en14 (gok_nil)
set_option maxHeartbeats 4000000 in
theorem at17w (t0 : Caw.Talk) (s : Caw.Stp) (hpre : stepW1 t0 s) : SpecAt Try.prog 17 [.ref (talkCells t0), .agg (stpCells s)] (.tup []) (some (talkCells (way1T t0 s))) := by
  obtain ⟨h1, h2⟩ := hpre
  rcases h2 with ⟨⟨h2, h3⟩, h4⟩ | ⟨i, x, h3, h4, h5⟩
  · simp only [kindOf, sideOf] at h1 h2 h3
    have hx : way1T t0 s = t0 := by unfold way1T; rw [h4]; rfl
    rw [hx]
    all_goals (refine specAt_of_tri Try.func17 rfl (Nat.le_of_ble_eq_true rfl) ?_)
    all_goals (repeat' (first
      | (refine tri_condT (b_true (by simp; with_reducible exact IsB.mk)) ?_)
      | (refine th_r ?_)
      | (refine tri_ret ?_)
      | (refine tri_step (id := 0) (C := ⟨[3], [14], [(9, (10, 0, 0)), (63, (0, 1, 0)), (130, (0, 1, 0)), (134, (0, 1, 0)), (144, (0, 1, 0))]⟩) [0, 3] [(0, 1, 0)] g17w nodraw ?_; refine ⟨_, by (simp [*, F14, flg]; exact Is.mk), ?_⟩)
      | (refine tri_step (id := 1) (C := ⟨[3], [14], [(9, (10, 0, 0)), (63, (0, 1, 0)), (130, (0, 1, 0)), (134, (0, 1, 0)), (144, (0, 1, 0))]⟩) [0, 3, 4] [(0, 1, 0)] g17w nodraw ?_; refine ⟨_, by (simp [*, F14, flg]; exact Is.mk), ?_⟩)
      | (refine tri_step (id := 2) (C := ⟨[3], [14], [(9, (10, 0, 0)), (63, (0, 1, 0)), (130, (0, 1, 0)), (134, (0, 1, 0)), (144, (0, 1, 0))]⟩) [0, 3, 4, 5] [(0, 1, 0)] g17w nodraw ?_; refine ⟨_, by (simp [*, F14, flg]; exact Is.mk), ?_⟩)
      | (refine tri_step (id := 3) (C := ⟨[3], [14], [(9, (10, 0, 0)), (63, (0, 1, 0)), (130, (0, 1, 0)), (134, (0, 1, 0)), (144, (0, 1, 0))]⟩) [0, 3, 4, 5, 25] [(0, 1, 0)] g17w nodraw ?_; refine ⟨_, by (simp [*, F14, flg]; exact Is.mk), ?_⟩)
      | (refine tri_step (id := 4) (C := ⟨[3], [14], [(9, (10, 0, 0)), (63, (0, 1, 0)), (130, (0, 1, 0)), (134, (0, 1, 0)), (144, (0, 1, 0))]⟩) [0, 3, 4, 5, 6] [(0, 1, 0)] g17w nodraw ?_; refine ⟨_, by (simp [*, F14, flg]; exact Is.mk), ?_⟩)
      | (refine tri_step (id := 5) (C := ⟨[3], [14], [(9, (10, 0, 0)), (63, (0, 1, 0)), (130, (0, 1, 0)), (134, (0, 1, 0)), (144, (0, 1, 0))]⟩) [0, 3, 4, 5, 6, 34] [(0, 1, 0)] g17w nodraw ?_; refine ⟨_, by (simp [*, F14, flg]; exact Is.mk), ?_⟩)
      | (refine tri_seq ?_)
      ))
    all_goals (refine post_obj [] trivial _ rfl rfl (by simp) rfl ?_)
    all_goals (rw [talkCells_name])
    all_goals (refine talkCells_coE ?_)
    all_goals (first | (simp []; done) | (simp [*, ]; done) | (simp_all []; done) | trace_state)
  · obtain ⟨w1, w2, w3, w4, w5, w6, w7, w9⟩ := h3
    have a1 : i ≤ t0.way1.length := by omega
    have a2 : i + 1 ≤ t0.way1.length := by omega
    have a3 : (i : Int) + 1 ≤ (t0.way1.length : Int) := by omega
    have w10 : t0.way1[i]'w4 = x := by rw [List.getElem?_eq_getElem w4] at w6; exact Option.some.inj w6
    have w8 := fit_k (show t0.way1.length ≤ 1000000 by omega)
    have hx : way1T t0 s = if kindOf s = 8 then comes t0 1 x else if kindOf s = 7 then { t0 with way1 := without t0.way1 i } else comes { t0 with way1 := without t0.way1 i } 1 x := by
      unfold way1T; rw [h4]; simp only [Int.toNat_natCast, w6]
    rw [hx]
    clear h4 hx
    rcases h5 with h5 | ⟨h5, h6⟩ | ⟨⟨⟨h5, h6⟩, h7, h8⟩, h9⟩
    · rw [if_neg (by omega), if_pos h5]
      simp only [kindOf, sideOf, without] at h1 h5 ⊢
      all_goals (refine specAt_of_tri Try.func17 rfl (Nat.le_of_ble_eq_true rfl) ?_)
      all_goals (repeat' (first
      | (refine tri_condT (b_true (by simp; with_reducible exact IsB.mk)) ?_)
      | (refine tri_condF (b_true (by simp; with_reducible exact IsB.mk)) ?_)
      | (refine tri_skipT ?_)
      | (refine tri_step (id := 0) (C := ⟨[3], [14], [(9, (10, 0, 0)), (63, (0, 1, 0)), (130, (0, 1, 0)), (134, (0, 1, 0)), (144, (0, 1, 0))]⟩) [0, 3] [(0, 1, 0)] g17w nodraw ?_; refine ⟨_, by (simp [*, F14, flg]; exact Is.mk), ?_⟩)
      | (refine tri_step (id := 1) (C := ⟨[3], [14], [(9, (10, 0, 0)), (63, (0, 1, 0)), (130, (0, 1, 0)), (134, (0, 1, 0)), (144, (0, 1, 0))]⟩) [0, 3, 4] [(0, 1, 0)] g17w nodraw ?_; refine ⟨_, by (simp [*, F14, flg]; exact Is.mk), ?_⟩)
      | (refine tri_step (id := 2) (C := ⟨[3], [14], [(9, (10, 0, 0)), (63, (0, 1, 0)), (130, (0, 1, 0)), (134, (0, 1, 0)), (144, (0, 1, 0))]⟩) [0, 3, 4, 5] [(0, 1, 0)] g17w nodraw ?_; refine ⟨_, by (simp [*, F14, flg]; exact Is.mk), ?_⟩)
      | (refine tri_step (id := 3) (C := ⟨[3], [14], [(9, (10, 0, 0)), (63, (0, 1, 0)), (130, (0, 1, 0)), (134, (0, 1, 0)), (144, (0, 1, 0))]⟩) [0, 3, 4, 5, 25] [(0, 1, 0)] g17w nodraw ?_; refine ⟨_, by (simp [*, F14, flg]; exact Is.mk), ?_⟩)
      | (refine tri_step (id := 4) (C := ⟨[3], [14], [(9, (10, 0, 0)), (63, (0, 1, 0)), (130, (0, 1, 0)), (134, (0, 1, 0)), (144, (0, 1, 0))]⟩) [0, 3, 4, 5, 6] [(0, 1, 0)] g17w nodraw ?_; refine ⟨_, by (simp [*, F14, flg]; exact Is.mk), ?_⟩)
      | (refine tri_step (id := 5) (C := ⟨[3], [14], [(9, (10, 0, 0)), (63, (0, 1, 0)), (130, (0, 1, 0)), (134, (0, 1, 0)), (144, (0, 1, 0))]⟩) [0, 3, 4, 5, 6, 34] [(0, 1, 0)] g17w nodraw ?_; refine ⟨_, by (simp [*, F14, flg]; exact Is.mk), ?_⟩)
      | (refine tri_step (id := 6) (C := ⟨[3], [14], [(9, (10, 0, 0)), (63, (0, 1, 0)), (130, (0, 1, 0)), (134, (0, 1, 0)), (144, (0, 1, 0))]⟩) [0, 4, 5, 6, 7] [(0, 1, 0)] g17w nodraw ?_; refine ⟨_, by (simp [*, F14, flg]; exact Is.mk), ?_⟩)
      | (refine tri_step (id := 7) (C := ⟨[3], [14], [(9, (10, 0, 0)), (63, (0, 1, 0)), (130, (0, 1, 0)), (134, (0, 1, 0)), (144, (0, 1, 0))]⟩) [0, 4, 5, 6, 7, 8] [(0, 1, 0), (9, 0, 0)] g17w nodraw ?_; refine ⟨_, by (simp [*, F14, flg]; exact Is.mk), ?_⟩)
      | (refine tri_step (id := 8) (C := ⟨[3], [14], [(9, (10, 0, 0)), (63, (0, 1, 0)), (130, (0, 1, 0)), (134, (0, 1, 0)), (144, (0, 1, 0))]⟩) [0, 4, 5, 6, 7, 8, 48] [(0, 1, 0), (9, 0, 0)] g17w nodraw ?_; refine ⟨_, by (simp [*, F14, flg]; exact Is.mk), ?_⟩)
      | (refine tri_seq ?_)
      ))
      have w11 := fit_k (show i ≤ 1000000 by omega)
      have w12 := fit_k (show i + (t0.way1.length - (i + 1)) ≤ 1000000 by omega)
      refine tri_last (id := 9) (C := ⟨[3], [14], [(9, (10, 0, 0)), (63, (0, 1, 0)), (130, (0, 1, 0)), (134, (0, 1, 0)), (144, (0, 1, 0))]⟩) [0, 4, 5, 8] [(0, 1, 0), (9, 0, 0)] g17w (fun _ => ⟨q_mixed, by kernel_rfl⟩) ⟨_, by (simp [*, F14, flg]; exact Is.mk), ?_⟩
      refine th_n ?_
      refine tri_weak (le_s2 (t2 := { t0 with way1 := t0.way1.take i ++ t0.way1.drop (i + 1) }) ?_ ?_) ?_
      · simp [talkCells, splice]
      · simp [segCells]
      · clear w1 w2 w3 w5 w6 w7 w8 w9 w10 w11 w12 a1 a2 a3
        all_goals (repeat' (first
      | (refine tri_condF (b_true (by simp; with_reducible exact IsB.mk)) ?_)
      | (refine tri_skipT ?_)
      | (refine th_r ?_)
      | (refine tri_ret ?_)
      | (refine tri_step (id := 10) (C := ⟨[3], [14], [(9, (10, 0, 0)), (63, (0, 1, 0)), (130, (0, 1, 0)), (134, (0, 1, 0)), (144, (0, 1, 0))]⟩) [0, 4, 8, 65] [(0, 1, 0), (9, 0, 0)] g17w nodraw ?_; refine ⟨_, by (simp [*, F14, flg]; exact Is.mk), ?_⟩)
      | (refine tri_seq ?_)
      ))
        all_goals (refine post_obj [] trivial _ rfl rfl (by simp) rfl ?_)
        all_goals (rw [talkCells_name])
        all_goals (refine talkCells_coE ?_)
        all_goals (first | (simp []; done) | (simp [*, ]; done) | (simp_all []; done) | trace_state)
    · rw [if_pos h5]
      simp only [kindOf, sideOf] at h1 h5
      all_goals (refine specAt_of_tri Try.func17 rfl (Nat.le_of_ble_eq_true rfl) ?_)
      all_goals (repeat' (first
      | (refine tri_condT (b_true (by simp; with_reducible exact IsB.mk)) ?_)
      | (refine tri_condF (b_true (by simp; with_reducible exact IsB.mk)) ?_)
      | (refine tri_skipT ?_)
      | (refine th_n ?_)
      | (refine th_r ?_)
      | (refine tri_ret ?_)
      | (refine tri_step (id := 0) (C := ⟨[3], [14], [(9, (10, 0, 0)), (63, (0, 1, 0)), (130, (0, 1, 0)), (134, (0, 1, 0)), (144, (0, 1, 0))]⟩) [0, 3] [(0, 1, 0)] g17w nodraw ?_; refine ⟨_, by (simp [*, F14, flg]; exact Is.mk), ?_⟩)
      | (refine tri_step (id := 1) (C := ⟨[3], [14], [(9, (10, 0, 0)), (63, (0, 1, 0)), (130, (0, 1, 0)), (134, (0, 1, 0)), (144, (0, 1, 0))]⟩) [0, 3, 4] [(0, 1, 0)] g17w nodraw ?_; refine ⟨_, by (simp [*, F14, flg]; exact Is.mk), ?_⟩)
      | (refine tri_step (id := 2) (C := ⟨[3], [14], [(9, (10, 0, 0)), (63, (0, 1, 0)), (130, (0, 1, 0)), (134, (0, 1, 0)), (144, (0, 1, 0))]⟩) [0, 3, 4, 5] [(0, 1, 0)] g17w nodraw ?_; refine ⟨_, by (simp [*, F14, flg]; exact Is.mk), ?_⟩)
      | (refine tri_step (id := 3) (C := ⟨[3], [14], [(9, (10, 0, 0)), (63, (0, 1, 0)), (130, (0, 1, 0)), (134, (0, 1, 0)), (144, (0, 1, 0))]⟩) [0, 3, 4, 5, 25] [(0, 1, 0)] g17w nodraw ?_; refine ⟨_, by (simp [*, F14, flg]; exact Is.mk), ?_⟩)
      | (refine tri_step (id := 4) (C := ⟨[3], [14], [(9, (10, 0, 0)), (63, (0, 1, 0)), (130, (0, 1, 0)), (134, (0, 1, 0)), (144, (0, 1, 0))]⟩) [0, 3, 4, 5, 6] [(0, 1, 0)] g17w nodraw ?_; refine ⟨_, by (simp [*, F14, flg]; exact Is.mk), ?_⟩)
      | (refine tri_step (id := 5) (C := ⟨[3], [14], [(9, (10, 0, 0)), (63, (0, 1, 0)), (130, (0, 1, 0)), (134, (0, 1, 0)), (144, (0, 1, 0))]⟩) [0, 3, 4, 5, 6, 34] [(0, 1, 0)] g17w nodraw ?_; refine ⟨_, by (simp [*, F14, flg]; exact Is.mk), ?_⟩)
      | (refine tri_step (id := 6) (C := ⟨[3], [14], [(9, (10, 0, 0)), (63, (0, 1, 0)), (130, (0, 1, 0)), (134, (0, 1, 0)), (144, (0, 1, 0))]⟩) [0, 4, 5, 6, 7] [(0, 1, 0)] g17w nodraw ?_; refine ⟨_, by (simp [*, F14, flg]; exact Is.mk), ?_⟩)
      | (refine tri_step (id := 7) (C := ⟨[3], [14], [(9, (10, 0, 0)), (63, (0, 1, 0)), (130, (0, 1, 0)), (134, (0, 1, 0)), (144, (0, 1, 0))]⟩) [0, 4, 5, 6, 7, 8] [(0, 1, 0), (9, 0, 0)] g17w nodraw ?_; refine ⟨_, by (simp [*, F14, flg]; exact Is.mk), ?_⟩)
      | (refine tri_step (id := 8) (C := ⟨[3], [14], [(9, (10, 0, 0)), (63, (0, 1, 0)), (130, (0, 1, 0)), (134, (0, 1, 0)), (144, (0, 1, 0))]⟩) [0, 4, 5, 6, 7, 8, 48] [(0, 1, 0), (9, 0, 0)] g17w nodraw ?_; refine ⟨_, by (simp [*, F14, flg]; exact Is.mk), ?_⟩)
      | (refine tri_step (id := 10) (C := ⟨[3], [14], [(9, (10, 0, 0)), (63, (0, 1, 0)), (130, (0, 1, 0)), (134, (0, 1, 0)), (144, (0, 1, 0))]⟩) [0, 4, 8, 65] [(0, 1, 0), (9, 0, 0)] g17w nodraw ?_; refine ⟨_, by (simp [*, F14, flg]; exact Is.mk), ?_⟩)
      | (refine tri_last (id := 11) (C := ⟨[3], [14], [(9, (10, 0, 0)), (63, (0, 1, 0)), (130, (0, 1, 0)), (134, (0, 1, 0)), (144, (0, 1, 0))]⟩) [] [(0, 1, 0)] g17w nodraw ?_; refine ⟨_, by (simp [*, F14, flg]; exact Is.mk), ?_⟩)
      | (refine tri_seq ?_)
      ))
      all_goals (refine post_obj [] trivial _ rfl rfl (by simp) rfl ?_)
      all_goals (rw [talkCells_name])
      all_goals (refine talkCells_coE ?_)
      all_goals (first | (simp []; done) | (simp [*, ]; done) | (simp_all []; done) | trace_state)
    · rw [if_neg h8, if_neg h7]
      simp only [kindOf, sideOf] at h1 h5 h6 h7 h8
      have h10 := bne_true h7
      have h11 := bne_true h8
      simp only [without] at h9 ⊢
      all_goals (refine specAt_of_tri Try.func17 rfl (Nat.le_of_ble_eq_true rfl) ?_)
      all_goals (repeat' (first
      | (refine tri_condT (b_true (by simp; with_reducible exact IsB.mk)) ?_)
      | (refine tri_condF (b_true (by simp; with_reducible exact IsB.mk)) ?_)
      | (refine tri_skipT ?_)
      | (refine tri_step (id := 0) (C := ⟨[3], [14], [(9, (10, 0, 0)), (63, (0, 1, 0)), (130, (0, 1, 0)), (134, (0, 1, 0)), (144, (0, 1, 0))]⟩) [0, 3] [(0, 1, 0)] g17w nodraw ?_; refine ⟨_, by (simp [*, F14, flg]; exact Is.mk), ?_⟩)
      | (refine tri_step (id := 1) (C := ⟨[3], [14], [(9, (10, 0, 0)), (63, (0, 1, 0)), (130, (0, 1, 0)), (134, (0, 1, 0)), (144, (0, 1, 0))]⟩) [0, 3, 4] [(0, 1, 0)] g17w nodraw ?_; refine ⟨_, by (simp [*, F14, flg]; exact Is.mk), ?_⟩)
      | (refine tri_step (id := 2) (C := ⟨[3], [14], [(9, (10, 0, 0)), (63, (0, 1, 0)), (130, (0, 1, 0)), (134, (0, 1, 0)), (144, (0, 1, 0))]⟩) [0, 3, 4, 5] [(0, 1, 0)] g17w nodraw ?_; refine ⟨_, by (simp [*, F14, flg]; exact Is.mk), ?_⟩)
      | (refine tri_step (id := 3) (C := ⟨[3], [14], [(9, (10, 0, 0)), (63, (0, 1, 0)), (130, (0, 1, 0)), (134, (0, 1, 0)), (144, (0, 1, 0))]⟩) [0, 3, 4, 5, 25] [(0, 1, 0)] g17w nodraw ?_; refine ⟨_, by (simp [*, F14, flg]; exact Is.mk), ?_⟩)
      | (refine tri_step (id := 4) (C := ⟨[3], [14], [(9, (10, 0, 0)), (63, (0, 1, 0)), (130, (0, 1, 0)), (134, (0, 1, 0)), (144, (0, 1, 0))]⟩) [0, 3, 4, 5, 6] [(0, 1, 0)] g17w nodraw ?_; refine ⟨_, by (simp [*, F14, flg]; exact Is.mk), ?_⟩)
      | (refine tri_step (id := 5) (C := ⟨[3], [14], [(9, (10, 0, 0)), (63, (0, 1, 0)), (130, (0, 1, 0)), (134, (0, 1, 0)), (144, (0, 1, 0))]⟩) [0, 3, 4, 5, 6, 34] [(0, 1, 0)] g17w nodraw ?_; refine ⟨_, by (simp [*, F14, flg]; exact Is.mk), ?_⟩)
      | (refine tri_step (id := 6) (C := ⟨[3], [14], [(9, (10, 0, 0)), (63, (0, 1, 0)), (130, (0, 1, 0)), (134, (0, 1, 0)), (144, (0, 1, 0))]⟩) [0, 4, 5, 6, 7] [(0, 1, 0)] g17w nodraw ?_; refine ⟨_, by (simp [*, F14, flg]; exact Is.mk), ?_⟩)
      | (refine tri_step (id := 7) (C := ⟨[3], [14], [(9, (10, 0, 0)), (63, (0, 1, 0)), (130, (0, 1, 0)), (134, (0, 1, 0)), (144, (0, 1, 0))]⟩) [0, 4, 5, 6, 7, 8] [(0, 1, 0), (9, 0, 0)] g17w nodraw ?_; refine ⟨_, by (simp [*, F14, flg]; exact Is.mk), ?_⟩)
      | (refine tri_step (id := 8) (C := ⟨[3], [14], [(9, (10, 0, 0)), (63, (0, 1, 0)), (130, (0, 1, 0)), (134, (0, 1, 0)), (144, (0, 1, 0))]⟩) [0, 4, 5, 6, 7, 8, 48] [(0, 1, 0), (9, 0, 0)] g17w nodraw ?_; refine ⟨_, by (simp [*, F14, flg]; exact Is.mk), ?_⟩)
      | (refine tri_seq ?_)
      ))
      have w11 := fit_k (show i ≤ 1000000 by omega)
      have w12 := fit_k (show i + (t0.way1.length - (i + 1)) ≤ 1000000 by omega)
      refine tri_last (id := 9) (C := ⟨[3], [14], [(9, (10, 0, 0)), (63, (0, 1, 0)), (130, (0, 1, 0)), (134, (0, 1, 0)), (144, (0, 1, 0))]⟩) [0, 4, 5, 8] [(0, 1, 0), (9, 0, 0)] g17w (fun _ => ⟨q_mixed, by kernel_rfl⟩) ⟨_, by (simp [*, F14, flg]; exact Is.mk), ?_⟩
      refine th_n ?_
      refine tri_weak (le_s2 (t2 := { t0 with way1 := t0.way1.take i ++ t0.way1.drop (i + 1) }) ?_ ?_) ?_
      · simp [talkCells, splice]
      · simp [segCells]
      · clear w1 w2 w3 w5 w6 w7 w8 w9 w10 w11 w12 a1 a2 a3
        all_goals (repeat' (first
      | (refine tri_condT (b_true (by simp; with_reducible exact IsB.mk)) ?_)
      | (refine th_n ?_)
      | (refine th_r ?_)
      | (refine tri_ret ?_)
      | (refine tri_step (id := 10) (C := ⟨[3], [14], [(9, (10, 0, 0)), (63, (0, 1, 0)), (130, (0, 1, 0)), (134, (0, 1, 0)), (144, (0, 1, 0))]⟩) [0, 4, 8, 65] [(0, 1, 0), (9, 0, 0)] g17w nodraw ?_; refine ⟨_, by (simp [*, F14, flg]; exact Is.mk), ?_⟩)
      | (refine tri_last (id := 11) (C := ⟨[3], [14], [(9, (10, 0, 0)), (63, (0, 1, 0)), (130, (0, 1, 0)), (134, (0, 1, 0)), (144, (0, 1, 0))]⟩) [] [(0, 1, 0)] g17w nodraw ?_; refine ⟨_, by (simp [*, F14, flg]; exact Is.mk), ?_⟩)
      | (refine tri_seq ?_)
      ))
        all_goals (refine post_obj [] trivial _ rfl rfl (by simp) rfl ?_)
        all_goals (rw [talkCells_name])
        all_goals (refine talkCells_coE ?_)
        all_goals (first | (simp []; done) | (simp [*, ]; done) | (simp_all []; done) | trace_state)
end Go.Proofs.Ytkjodjaamjnejaa

