import Derived.Test.YtkjodjaamjnejaaP10
import Derived.Test.YtkjodjaamjnejaaK9
set_option linter.all false
-- Printed by genwalk.py.
namespace Go.Proofs.Ytkjodjaamjnejaa
open Go Go.RowKit Caw
set_option linter.unusedSimpArgs false
set_option linter.unusedVariables false
set_option maxRecDepth 100000

-- (*caravel/caravellaw19.talk).sends!a
theorem g37a : GOk1 Try.prog (ctxOf [(28, F28), (24, F24)]) := gok_cons spec28 en28 (gok_cons spec24 en24 (gok_nil))
set_option maxHeartbeats 8000000 in
theorem at37a (t0 : Caw.Talk) (l : List Seg) (hpre : sendsPre 0 t0 l) : SpecAt Try.prog 37 [.ref (talkCells t0), .v (.int .i64 0), .sl 8 (encS segCells l) none] (.tup []) (some (talkCells (sends 0 t0 l))) := by
  obtain ⟨-, hp2, hp3, hp4⟩ := hpre
  all_goals (refine specAt_of_tri Try.func37 rfl (Nat.le_of_ble_eq_true rfl) ?_)
  all_goals (repeat' (first
      | (refine tri_block ?_)
      | (refine tri_step (id := 0) (C := ⟨[], [], [(16, (8, 0, 0)), (22, (0, 1, 0)), (26, (8, 0, 0)), (33, (0, 1, 0)), (83, (8, 0, 0)), (91, (0, 1, 0)), (98, (8, 0, 0)), (104, (8, 0, 0)), (112, (0, 1, 0)), (117, (8, 0, 0)), (124, (0, 1, 0)), (128, (8, 0, 0)), (140, (8, 0, 0)), (149, (0, 1, 0)), (154, (8, 0, 0)), (162, (0, 1, 0)), (169, (8, 0, 0)), (183, (0, 1, 0)), (204, (0, 1, 0)), (211, (0, 1, 0))]⟩) [0, 1, 2, 10, 11, 12] [(0, 1, 0)] g37a nodraw ?_; refine ⟨_, by (simp [*, F28, F24, hasF_fold, sentAt_fold, undef, flg]; exact Is.mk), ?_⟩)
      | (refine tri_seq ?_)
      ))
  
  · refine tri_loop (fun n s => ∃ i d r t, At l d r i ∧ n = r.length ∧ r.foldl (sendOne 0) t = l.foldl (sendOne 0) t0 ∧ s = mkSt [(0, .ptr (0,1,0) 0), (1, .v (.int .i64 0)), (2, .sl 8 (encS segCells l) none), (10, .sl 8 (encS segCells l) none), (11, .v (.int .i64 l.length)), (12, .v (.int .i64 i))] [((0,1,0), talkCells t)]) l.length _ (Le.refl _) ⟨0, [], l, t0, .start _, rfl, rfl, rfl⟩ ?_
    rintro n s ⟨i, d, r, t, hl, hn, hx, rfl⟩
    cases r with
    | nil =>
      have hlt := hl.ge
      have hx' : t = l.foldl (sendOne 0) t0 := hx
      have hcr : t.c0.recv.sm := by rw [hx', sendOne_keeps]; exact hp3.1
      have hw1 : t.way1.length + l.length ≤ 1000000 := by rw [hx', sendOne_keeps]; have := hp2.1; have := hp2.2.1; have := hp2.2.2; simp only; omega
      have hfit := fit_k hw1
      have hfit0 := fit_k (show t.way1.length ≤ 1000000 by omega)
      have hpost : sends 0 t0 l = sendEnd 0 t l := by unfold sends; rw [hx']
      clear hx' hl hx
      all_goals (repeat' (first
      | (refine tri_condF (b_true (by simp; with_reducible exact IsB.mk)) ?_)
      | (refine th_n ?_)
      | (refine in_e ?_)
      | (refine th_e ?_)
      | (refine tri_exit ?_)
      | (refine tri_step (id := 1) (C := ⟨[], [], [(16, (8, 0, 0)), (22, (0, 1, 0)), (26, (8, 0, 0)), (33, (0, 1, 0)), (83, (8, 0, 0)), (91, (0, 1, 0)), (98, (8, 0, 0)), (104, (8, 0, 0)), (112, (0, 1, 0)), (117, (8, 0, 0)), (124, (0, 1, 0)), (128, (8, 0, 0)), (140, (8, 0, 0)), (149, (0, 1, 0)), (154, (8, 0, 0)), (162, (0, 1, 0)), (169, (8, 0, 0)), (183, (0, 1, 0)), (204, (0, 1, 0)), (211, (0, 1, 0))]⟩) [0, 1, 2, 10, 11, 12, 13] [(0, 1, 0)] g37a nodraw ?_; refine ⟨_, by (simp [*, F28, F24, hasF_fold, sentAt_fold, undef, flg]; exact Is.mk), ?_⟩)
      | (refine tri_step (id := 14) (C := ⟨[], [], [(16, (8, 0, 0)), (22, (0, 1, 0)), (26, (8, 0, 0)), (33, (0, 1, 0)), (83, (8, 0, 0)), (91, (0, 1, 0)), (98, (8, 0, 0)), (104, (8, 0, 0)), (112, (0, 1, 0)), (117, (8, 0, 0)), (124, (0, 1, 0)), (128, (8, 0, 0)), (140, (8, 0, 0)), (149, (0, 1, 0)), (154, (8, 0, 0)), (162, (0, 1, 0)), (169, (8, 0, 0)), (183, (0, 1, 0)), (204, (0, 1, 0)), (211, (0, 1, 0))]⟩) [0, 1, 2] [(0, 1, 0)] g37a (fun _ => ⟨q_mixed, by kernel_rfl⟩) ?_; refine ⟨_, by (simp [*, F28, F24, hasF_fold, sentAt_fold, undef, flg]; exact Is.mk), ?_⟩)
      | (refine tri_seq ?_)
      ))
      refine tri_weak (le_s1 (t2 := { t with way1 := t.way1 ++ l }) ?_) ?_
      · simp [talkCells, splice]
      · all_goals (repeat' (first
      | (refine tri_lastG (id := 15) (C := ⟨[], [], [(16, (8, 0, 0)), (22, (0, 1, 0)), (26, (8, 0, 0)), (33, (0, 1, 0)), (83, (8, 0, 0)), (91, (0, 1, 0)), (98, (8, 0, 0)), (104, (8, 0, 0)), (112, (0, 1, 0)), (117, (8, 0, 0)), (124, (0, 1, 0)), (128, (8, 0, 0)), (140, (8, 0, 0)), (149, (0, 1, 0)), (154, (8, 0, 0)), (162, (0, 1, 0)), (169, (8, 0, 0)), (183, (0, 1, 0)), (204, (0, 1, 0)), (211, (0, 1, 0))]⟩) [] [(0, 1, 0)] g37a nodraw ?_; refine ⟨_, (run_split 0 6 217 (by simp [*, F28, F24, hasF_fold, sentAt_fold, undef, flg]; exact Is.mk) (by simp; exact IsB.mk) (run_split 6 10 227 (by simp [*, F28, F24, hasF_fold, sentAt_fold, undef, flg]; exact Is.mk) (by simp; exact IsB.mk) (by simp [*, F28, F24, hasF_fold, sentAt_fold, undef, flg]; exact IsK.mk) (by simp [*, F28, F24, hasF_fold, sentAt_fold, undef, flg]; exact IsK.mk) (by simp; exact IsK.mk)) (run_split 6 10 227 (by simp [*, F28, F24, hasF_fold, sentAt_fold, undef, flg]; exact Is.mk) (by simp; exact IsB.mk) (by simp [*, F28, F24, hasF_fold, sentAt_fold, undef, flg]; exact IsK.mk) (by simp [*, F28, F24, hasF_fold, sentAt_fold, undef, flg]; exact IsK.mk) (by simp; exact IsK.mk)) (by simp; exact IsK.mk)), ?_⟩)
      ))
        refine post_obj [] trivial _ rfl rfl (by simp) rfl ?_
        rw [talkCells_name]
        refine talkCells_coE ?_
        rw [hpost]
        unfold sendEnd
        (repeat' split) <;> simp_all
    | cons x r =>
      have hlt := hl.lt
      have hget := hl.get
      have hw := hl.wi (by have := hp2.1; omega)
      have hlen := hp4 x hl.mem
      have hl2 := hl.next
      rw [List.foldl_cons] at hx
      clear hl hp3 hp4
      refine tri_step (id := 1) (C := ⟨[], [], [(16, (8, 0, 0)), (22, (0, 1, 0)), (26, (8, 0, 0)), (33, (0, 1, 0)), (83, (8, 0, 0)), (91, (0, 1, 0)), (98, (8, 0, 0)), (104, (8, 0, 0)), (112, (0, 1, 0)), (117, (8, 0, 0)), (124, (0, 1, 0)), (128, (8, 0, 0)), (140, (8, 0, 0)), (149, (0, 1, 0)), (154, (8, 0, 0)), (162, (0, 1, 0)), (169, (8, 0, 0)), (183, (0, 1, 0)), (204, (0, 1, 0)), (211, (0, 1, 0))]⟩) [0, 1, 2, 10, 11, 12, 13] [(0, 1, 0)] g37a nodraw ⟨_, by (simp [*, F28, F24, hasF_fold, sentAt_fold, undef, flg]; exact Is.mk), ?_⟩
      refine tri_seq (tri_condT (b_true (by simp [*]; exact IsB.mk)) (tri_skipT ?_))
      refine tri_seq (tri_block ?_)
      refine tri_step (id := 2) (C := ⟨[], [], [(16, (8, 0, 0)), (22, (0, 1, 0)), (26, (8, 0, 0)), (33, (0, 1, 0)), (83, (8, 0, 0)), (91, (0, 1, 0)), (98, (8, 0, 0)), (104, (8, 0, 0)), (112, (0, 1, 0)), (117, (8, 0, 0)), (124, (0, 1, 0)), (128, (8, 0, 0)), (140, (8, 0, 0)), (149, (0, 1, 0)), (154, (8, 0, 0)), (162, (0, 1, 0)), (169, (8, 0, 0)), (183, (0, 1, 0)), (204, (0, 1, 0)), (211, (0, 1, 0))]⟩) [0, 1, 2, 7, 10, 11, 12] [(0, 1, 0), (8, 0, 0)] g37a nodraw ⟨_, by (simp [*, F28, F24, hasF_fold, sentAt_fold, undef, flg]; exact Is.mk), ?_⟩
      refine tri_step (id := 3) (C := ⟨[], [], [(16, (8, 0, 0)), (22, (0, 1, 0)), (26, (8, 0, 0)), (33, (0, 1, 0)), (83, (8, 0, 0)), (91, (0, 1, 0)), (98, (8, 0, 0)), (104, (8, 0, 0)), (112, (0, 1, 0)), (117, (8, 0, 0)), (124, (0, 1, 0)), (128, (8, 0, 0)), (140, (8, 0, 0)), (149, (0, 1, 0)), (154, (8, 0, 0)), (162, (0, 1, 0)), (169, (8, 0, 0)), (183, (0, 1, 0)), (204, (0, 1, 0)), (211, (0, 1, 0))]⟩) [0, 1, 2, 7, 8, 10, 11, 12] [(0, 1, 0), (8, 0, 0)] g37a (fun _ => ⟨q_mixed, by kernel_rfl⟩) ⟨_, by (simp [*, F28, F24, hasF_fold, sentAt_fold, undef, flg]; exact Is.mk), ?_⟩
      refine tri_step (id := 4) (C := ⟨[], [], [(16, (8, 0, 0)), (22, (0, 1, 0)), (26, (8, 0, 0)), (33, (0, 1, 0)), (83, (8, 0, 0)), (91, (0, 1, 0)), (98, (8, 0, 0)), (104, (8, 0, 0)), (112, (0, 1, 0)), (117, (8, 0, 0)), (124, (0, 1, 0)), (128, (8, 0, 0)), (140, (8, 0, 0)), (149, (0, 1, 0)), (154, (8, 0, 0)), (162, (0, 1, 0)), (169, (8, 0, 0)), (183, (0, 1, 0)), (204, (0, 1, 0)), (211, (0, 1, 0))]⟩) [0, 1, 2, 7, 8, 9, 10, 11, 12] [(0, 1, 0), (8, 0, 0)] g37a (fun _ => ⟨q_mixed, by kernel_rfl⟩) ⟨_, by (simp [*, F28, F24, hasF_fold, sentAt_fold, undef, flg]; exact Is.mk), ?_⟩
      refine tri_cut (mkSt [(0, .ptr (0,1,0) 0), (1, .v (.int .i64 0)), (2, .sl 8 (encS segCells l) none), (7, .ptr (8,0,0) 0), (8, .v (.int .i64 (sentAt t.first0 x.seq))), (9, .v (.int .i64 (sentAt t.first1 x.ack))), (10, .sl 8 (encS segCells l) none), (11, .v (.int .i64 l.length)), (12, .v (.int .i64 i))] [((0,1,0), talkCells { t with wrong := badA t.written0 (sentAt t.first0 x.seq) x t.wrong }), ((8,0,0), segCells x)]) ?_ ?_
      · clear hx
        have hA2 : ¬ sentAt t.first0 x.seq < 0 → 0 ≤ sentAt t.first0 x.seq := by omega
        have hB2 : ¬ (t.written0.size : Int) < IntKind.i64.wrap (sentAt t.first0 x.seq + x.data.length) → IntKind.i64.wrap (sentAt t.first0 x.seq + x.data.length) ≤ (t.written0.size : Int) := by omega
        have hB1 : sentAt t.first0 x.seq ≤ IntKind.i64.wrap (sentAt t.first0 x.seq + x.data.length) := sentAt_len _ _ _ hlen
        rcases a_cases t.written0 (sentAt t.first0 x.seq) x with g1 | ⟨g1, g2⟩ | ⟨g1, g2, g3⟩ | ⟨g1, g2, g3, g4⟩ | ⟨g1, g2, g3, g4⟩
        all_goals (try have hA0 := hA2 g1)
        all_goals (try have hB0 := hB2 g4)
        all_goals (clear hA2 hB2)
        all_goals (repeat' (first
      | (refine tri_condT (b_true (by simp; with_reducible exact IsB.mk)) ?_)
      | (refine tri_condF (b_true (by simp; with_reducible exact IsB.mk)) ?_)
      | (refine tri_skip ?_)
      | (refine in_n ?_)
      | (refine tri_block ?_)
      | (refine tri_stepG (id := 5) (C := ⟨[], [], [(16, (8, 0, 0)), (22, (0, 1, 0)), (26, (8, 0, 0)), (33, (0, 1, 0)), (83, (8, 0, 0)), (91, (0, 1, 0)), (98, (8, 0, 0)), (104, (8, 0, 0)), (112, (0, 1, 0)), (117, (8, 0, 0)), (124, (0, 1, 0)), (128, (8, 0, 0)), (140, (8, 0, 0)), (149, (0, 1, 0)), (154, (8, 0, 0)), (162, (0, 1, 0)), (169, (8, 0, 0)), (183, (0, 1, 0)), (204, (0, 1, 0)), (211, (0, 1, 0))]⟩) [0, 1, 2, 7, 8, 9, 10, 11, 12, 37] [(0, 1, 0), (8, 0, 0)] g37a nodraw ?_; refine ⟨_, (run_split 0 5 42 (by simp [*, F28, F24, hasF_fold, sentAt_fold, undef, flg]; exact Is.mk) (by simp; exact IsB.mk) (run_split 5 6 48 (by simp [*, F28, F24, hasF_fold, sentAt_fold, undef, flg]; exact Is.mk) (by simp; exact IsB.mk) (by simp [*, F28, F24, hasF_fold, sentAt_fold, undef, flg]; exact IsK.mk) (by simp [*, F28, F24, hasF_fold, sentAt_fold, undef, flg]; exact IsK.mk) (by simp; exact IsK.mk)) (run_split 5 6 48 (by simp [*, F28, F24, hasF_fold, sentAt_fold, undef, flg]; exact Is.mk) (by simp; exact IsB.mk) (by simp [*, F28, F24, hasF_fold, sentAt_fold, undef, flg]; exact IsK.mk) (by simp [*, F28, F24, hasF_fold, sentAt_fold, undef, flg]; exact IsK.mk) (by simp; exact IsK.mk)) (by simp; exact IsK.mk)), ?_⟩)
      | (refine tri_last (id := 6) (C := ⟨[], [], [(16, (8, 0, 0)), (22, (0, 1, 0)), (26, (8, 0, 0)), (33, (0, 1, 0)), (83, (8, 0, 0)), (91, (0, 1, 0)), (98, (8, 0, 0)), (104, (8, 0, 0)), (112, (0, 1, 0)), (117, (8, 0, 0)), (124, (0, 1, 0)), (128, (8, 0, 0)), (140, (8, 0, 0)), (149, (0, 1, 0)), (154, (8, 0, 0)), (162, (0, 1, 0)), (169, (8, 0, 0)), (183, (0, 1, 0)), (204, (0, 1, 0)), (211, (0, 1, 0))]⟩) [0, 1, 2, 7, 8, 9, 10, 11, 12] [(0, 1, 0), (8, 0, 0)] g37a nodraw ?_; refine ⟨_, by (simp [*, F28, F24, hasF_fold, sentAt_fold, undef, flg]; exact Is.mk), ?_⟩)
      | (refine tri_step (id := 7) (C := ⟨[], [], [(16, (8, 0, 0)), (22, (0, 1, 0)), (26, (8, 0, 0)), (33, (0, 1, 0)), (83, (8, 0, 0)), (91, (0, 1, 0)), (98, (8, 0, 0)), (104, (8, 0, 0)), (112, (0, 1, 0)), (117, (8, 0, 0)), (124, (0, 1, 0)), (128, (8, 0, 0)), (140, (8, 0, 0)), (149, (0, 1, 0)), (154, (8, 0, 0)), (162, (0, 1, 0)), (169, (8, 0, 0)), (183, (0, 1, 0)), (204, (0, 1, 0)), (211, (0, 1, 0))]⟩) [0, 1, 2, 7, 8, 9, 10, 11, 12, 56] [(0, 1, 0), (8, 0, 0)] g37a nodraw ?_; refine ⟨_, by (simp [*, F28, F24, hasF_fold, sentAt_fold, undef, flg]; exact Is.mk), ?_⟩)
      | (refine tri_lastG (id := 8) (C := ⟨[], [], [(16, (8, 0, 0)), (22, (0, 1, 0)), (26, (8, 0, 0)), (33, (0, 1, 0)), (83, (8, 0, 0)), (91, (0, 1, 0)), (98, (8, 0, 0)), (104, (8, 0, 0)), (112, (0, 1, 0)), (117, (8, 0, 0)), (124, (0, 1, 0)), (128, (8, 0, 0)), (140, (8, 0, 0)), (149, (0, 1, 0)), (154, (8, 0, 0)), (162, (0, 1, 0)), (169, (8, 0, 0)), (183, (0, 1, 0)), (204, (0, 1, 0)), (211, (0, 1, 0))]⟩) [0, 1, 2, 7, 8, 9, 10, 11, 12] [(0, 1, 0), (8, 0, 0)] g37a nodraw ?_; refine ⟨_, (run_split 0 6 66 (by simp [*, F28, F24, hasF_fold, sentAt_fold, undef, flg]; exact Is.mk) (by simp; exact IsB.mk) (run_split 6 4 70 (by simp [*, F28, F24, hasF_fold, sentAt_fold, undef, flg]; exact Is.mk) (by simp; exact IsB.mk) (by simp [*, F28, F24, hasF_fold, sentAt_fold, undef, flg]; exact IsK.mk) (by simp [*, F28, F24, hasF_fold, sentAt_fold, undef, flg]; exact IsK.mk) (by simp; exact IsK.mk)) (run_split 6 4 70 (by simp [*, F28, F24, hasF_fold, sentAt_fold, undef, flg]; exact Is.mk) (by simp; exact IsB.mk) (by simp [*, F28, F24, hasF_fold, sentAt_fold, undef, flg]; exact IsK.mk) (by simp [*, F28, F24, hasF_fold, sentAt_fold, undef, flg]; exact IsK.mk) (by simp; exact IsK.mk)) (by simp; exact IsK.mk)), ?_⟩)
      | (refine tri_step (id := 9) (C := ⟨[], [], [(16, (8, 0, 0)), (22, (0, 1, 0)), (26, (8, 0, 0)), (33, (0, 1, 0)), (83, (8, 0, 0)), (91, (0, 1, 0)), (98, (8, 0, 0)), (104, (8, 0, 0)), (112, (0, 1, 0)), (117, (8, 0, 0)), (124, (0, 1, 0)), (128, (8, 0, 0)), (140, (8, 0, 0)), (149, (0, 1, 0)), (154, (8, 0, 0)), (162, (0, 1, 0)), (169, (8, 0, 0)), (183, (0, 1, 0)), (204, (0, 1, 0)), (211, (0, 1, 0))]⟩) [0, 1, 2, 7, 8, 9, 10, 11, 12, 78] [(0, 1, 0), (8, 0, 0)] g37a (fun _ => ⟨q_mixed, by kernel_rfl⟩) ?_; refine ⟨_, by (simp [*, F28, F24, hasF_fold, sentAt_fold, undef, flg]; exact Is.mk), ?_⟩)
      | (refine tri_last (id := 10) (C := ⟨[], [], [(16, (8, 0, 0)), (22, (0, 1, 0)), (26, (8, 0, 0)), (33, (0, 1, 0)), (83, (8, 0, 0)), (91, (0, 1, 0)), (98, (8, 0, 0)), (104, (8, 0, 0)), (112, (0, 1, 0)), (117, (8, 0, 0)), (124, (0, 1, 0)), (128, (8, 0, 0)), (140, (8, 0, 0)), (149, (0, 1, 0)), (154, (8, 0, 0)), (162, (0, 1, 0)), (169, (8, 0, 0)), (183, (0, 1, 0)), (204, (0, 1, 0)), (211, (0, 1, 0))]⟩) [0, 1, 2, 7, 8, 9, 10, 11, 12] [(0, 1, 0), (8, 0, 0)] g37a nodraw ?_; refine ⟨_, by (simp [*, F28, F24, hasF_fold, sentAt_fold, undef, flg]; exact Is.mk), ?_⟩)
      | (apply tri_iteTo (c := .tmp 37) [0, 1, 2, 7, 8, 9, 10, 11, 12] [(0, 1, 0), (8, 0, 0)] (by simp; exact IsB.mk))
      | (apply tri_iteTo (c := .tmp 56) [0, 1, 2, 7, 8, 9, 10, 11, 12] [(0, 1, 0), (8, 0, 0)] (by simp; exact IsB.mk))
      | (apply tri_iteTo (c := .tmp 78) [0, 1, 2, 7, 8, 9, 10, 11, 12] [(0, 1, 0), (8, 0, 0)] (by simp; exact IsB.mk))
      | (refine to_mk (by simp; exact IsK.mk))
      | (refine imp_ ?_)
      | ((simp; exact IsK.mk))
      ))
        all_goals (refine ⟨rfl, talk_le ?_⟩)
        all_goals (unfold badA; simp only [*]; (repeat' split) <;> simp_all)
      · have hso : sendOne 0 t x = { t with wrong := badB t.written0 t.written1 t.closed0 (sentAt t.first0 x.seq) (sentAt t.first1 x.ack) x || badA t.written0 (sentAt t.first0 x.seq) x t.wrong } := rfl
        generalize badA t.written0 (sentAt t.first0 x.seq) x t.wrong = W at hso ⊢
        rcases b_cases t.written0 t.written1 t.closed0 (sentAt t.first0 x.seq) (sentAt t.first1 x.ack) x with ⟨g1, g2⟩ | ⟨g1, g2, g3⟩ | ⟨⟨g1, g2, g3⟩ | g1, g4 | ⟨g4, g5⟩ | ⟨g4, g5⟩⟩
        all_goals (repeat' (first
      | (refine tri_condT (b_true (by simp; with_reducible exact IsB.mk)) ?_)
      | (refine tri_condF (b_true (by simp; with_reducible exact IsB.mk)) ?_)
      | (refine tri_skip ?_)
      | (refine th_n ?_)
      | (refine in_n ?_)
      | (refine tri_step (id := 11) (C := ⟨[], [], [(16, (8, 0, 0)), (22, (0, 1, 0)), (26, (8, 0, 0)), (33, (0, 1, 0)), (83, (8, 0, 0)), (91, (0, 1, 0)), (98, (8, 0, 0)), (104, (8, 0, 0)), (112, (0, 1, 0)), (117, (8, 0, 0)), (124, (0, 1, 0)), (128, (8, 0, 0)), (140, (8, 0, 0)), (149, (0, 1, 0)), (154, (8, 0, 0)), (162, (0, 1, 0)), (169, (8, 0, 0)), (183, (0, 1, 0)), (204, (0, 1, 0)), (211, (0, 1, 0))]⟩) [0, 1, 2, 10, 11, 12, 190] [(0, 1, 0)] g37a (fun _ => ⟨q_mixed, by kernel_rfl⟩) ?_; refine ⟨_, by (simp [*, F28, F24, hasF_fold, sentAt_fold, undef, flg]; exact Is.mk), ?_⟩)
      | (refine tri_last (id := 12) (C := ⟨[], [], [(16, (8, 0, 0)), (22, (0, 1, 0)), (26, (8, 0, 0)), (33, (0, 1, 0)), (83, (8, 0, 0)), (91, (0, 1, 0)), (98, (8, 0, 0)), (104, (8, 0, 0)), (112, (0, 1, 0)), (117, (8, 0, 0)), (124, (0, 1, 0)), (128, (8, 0, 0)), (140, (8, 0, 0)), (149, (0, 1, 0)), (154, (8, 0, 0)), (162, (0, 1, 0)), (169, (8, 0, 0)), (183, (0, 1, 0)), (204, (0, 1, 0)), (211, (0, 1, 0))]⟩) [0, 1, 2, 10, 11, 12] [(0, 1, 0)] g37a nodraw ?_; refine ⟨_, by (simp [*, F28, F24, hasF_fold, sentAt_fold, undef, flg]; exact Is.mk), ?_⟩)
      | (refine tri_last (id := 13) (C := ⟨[], [], [(16, (8, 0, 0)), (22, (0, 1, 0)), (26, (8, 0, 0)), (33, (0, 1, 0)), (83, (8, 0, 0)), (91, (0, 1, 0)), (98, (8, 0, 0)), (104, (8, 0, 0)), (112, (0, 1, 0)), (117, (8, 0, 0)), (124, (0, 1, 0)), (128, (8, 0, 0)), (140, (8, 0, 0)), (149, (0, 1, 0)), (154, (8, 0, 0)), (162, (0, 1, 0)), (169, (8, 0, 0)), (183, (0, 1, 0)), (204, (0, 1, 0)), (211, (0, 1, 0))]⟩) [0, 1, 2, 10, 11, 12] [(0, 1, 0)] g37a nodraw ?_; refine ⟨_, by (simp [*, F28, F24, hasF_fold, sentAt_fold, undef, flg]; exact Is.mk), ?_⟩)
      | (apply tri_iteTo (c := .tmp 190) [0, 1, 2, 10, 11, 12] [(0, 1, 0)] (by simp; exact IsB.mk))
      | (refine to_mk (by simp; exact IsK.mk))
      | (refine imp_ ?_)
      | ((simp; exact IsK.mk))
      ))
        all_goals (refine ⟨r.length, _, by simp [hn], talk_le1 (t2 := sendOne 0 t x) ?_, i + 1, d ++ [x], r, sendOne 0 t x, hl2, rfl, hx, rfl⟩)
        all_goals (rw [hso]; clear hso hx; unfold badB; first | (simp [*]; done) | (split <;> simp [*]; done) | ((repeat' split) <;> simp_all; done) | trace_state)
end Go.Proofs.Ytkjodjaamjnejaa

