import Derived.Test.YtkjodjaamjnejaaP17
import Derived.Test.YtkjodjaamjnejaaK13
import Derived.Test.YtkjodjaamjnejaaK14
set_option linter.all false
-- Printed by genwalk.py.
namespace Go.Proofs.Ytkjodjaamjnejaa
open Go Go.RowKit Caw
set_option linter.unusedSimpArgs false
set_option linter.unusedVariables false
set_option maxRecDepth 100000

-- caravel/caravellaw19.TcbWindow
theorem g9 : GOk1 Try.prog (ctxOf [(11, F11), (16, F16), (12, F12), (17, F17), (28, F28)]) := gok_cons spec11 en11 (gok_cons spec16 en16 (gok_cons spec12 en12 (gok_cons spec17 en17 (gok_cons spec28 en28 (gok_nil)))))
set_option maxHeartbeats 20000000 in
theorem at9 (first : Caw.Two) (l : List Stp) (hpre : TwoOk first ∧ l.length ≤ 9223372036854775807) : SpecAt Try.prog 9 [.agg (twoCells first), .sl 5 (encS stpCells l) none] (.v (.bool true)) none := by
  obtain ⟨hp0, hp1⟩ := hpre
  rcases told_cases (fitsL l) with hf | hf
  · obtain ⟨hlen, hdat⟩ := fits_len hf
    have htold := begins_told hp0.1 hp0.2
    refine specAt_of_tri Try.func9 rfl (Nat.le_of_ble_eq_true rfl) ?_
    all_goals (repeat' (first
      | (refine tri_condF (b_true (by simp; with_reducible exact IsB.mk)) ?_)
      | (refine tri_skipT ?_)
      | (refine tri_block ?_)
      | (refine tri_step (id := 0) (C := ⟨[2], [17], []⟩) [1, 2] [] g9 nodraw ?_; refine ⟨_, by (simp [*, F11, F16, F12, F17, F28, undef, flg]; exact Is.mk), ?_⟩)
      | (refine tri_step (id := 1) (C := ⟨[2], [17], []⟩) [1, 2, 17] [] g9 nodraw ?_; refine ⟨_, by (simp [*, F11, F16, F12, F17, F28, undef, flg]; exact Is.mk), ?_⟩)
      | (refine tri_step (id := 3) (C := ⟨[2], [17], []⟩) [1, 5] [(21, 0, 0)] g9 nodraw ?_; refine ⟨_, by (simp [*, F11, F16, F12, F17, F28, undef, flg]; exact Is.mk), ?_⟩)
      | (refine tri_step (id := 4) (C := ⟨[2], [17], []⟩) [5, 21, 22, 23] [(21, 0, 0)] g9 nodraw ?_; refine ⟨_, by (simp [*, F11, F16, F12, F17, F28, undef, flg]; exact Is.mk), ?_⟩)
      | (refine tri_seq ?_)
      ))
    refine tri_loop (fun n s => ∃ i d r t, At l d r i ∧ n = r.length ∧ TalkOk (1 + 3 * i) t ∧ TrueT t ∧ s = mkSt [(5, .ptr (21,0,0) 0), (21, .sl 5 (encS stpCells l) none), (22, .v (.int .i64 l.length)), (23, .v (.int .i64 i))] [((21,0,0), talkCells t)]) l.length _ (Le.refl _) ⟨0, [], l, begins first.a first.b, .start _, rfl, (begins_ok first.a first.b).2, htold, rfl⟩ ?_
    rintro n s ⟨i, d, r, t, hl, hn, hok, htl, rfl⟩
    cases r with
    | nil =>
      have hlt := hl.ge
      have hwr := htl.wrong
      clear hl hok hf hdat hlen hn hp1 hp0 htold htl
      all_goals (repeat' (first
      | (refine tri_condF (b_true (by simp; with_reducible exact IsB.mk)) ?_)
      | (refine th_n ?_)
      | (refine in_e ?_)
      | (refine th_e ?_)
      | (refine tri_ret ?_)
      | (refine tri_exit ?_)
      | (refine tri_step (id := 5) (C := ⟨[2], [17], []⟩) [5, 21, 22, 23, 24] [(21, 0, 0)] g9 nodraw ?_; refine ⟨_, by (simp [*, F11, F16, F12, F17, F28, undef, flg]; exact Is.mk), ?_⟩)
      | (refine tri_step (id := 18) (C := ⟨[2], [17], []⟩) [4] [] g9 nodraw ?_; refine ⟨_, by (simp [*, F11, F16, F12, F17, F28, undef, flg]; exact Is.mk), ?_⟩)
      | (refine tri_seq ?_)
      ))
      all_goals (refine post_plainV (P := Try.prog) (fn := Try.f9) (by simp; exact IsV.mk) rfl ?_)
      all_goals (first | (simp [F11, F16, F12, F17, F28, undef, flg]; done) | (simp [*, F11, F16, F12, F17, F28, undef, flg]; done) | (simp_all [F11, F16, F12, F17, F28, undef, flg]; done) | (simp [F11, F16, F12, F17, F28, undef, flg] <;> (repeat' split) <;> simp_all; done) | (simp [F11, F16, F12, F17, F28, undef, flg] <;> (repeat' split) <;> simp_all [Bool.and_assoc] <;> grind [List.length_eq_zero_iff, sendCells_co, recvCells_co, pieceCells_co, connCells_co, segCells_co, clockCells_co]))
    | cons x r =>
      have hlt := hl.lt
      have hget := hl.get
      have hw := hl.wi2 hp1
      have hi : i ≤ 79 := by simp at hlt; omega
      obtain ⟨hp, hok2⟩ := step_okT (by omega) hok (hdat x hl.mem)
      have htl2 : TrueT (talkStep t x) := step_told (by omega) hok htl
      have hwin := within hok2 htl2
      have hi0 := hok2.i0
      have hl2 := hl.next
      clear hl hok hdat hp0 htold htl
      all_goals (repeat' (first
      | (refine tri_condT (b_true (by simp; with_reducible exact IsB.mk)) ?_)
      | (refine tri_skipT ?_)
      | (refine tri_block ?_)
      | (refine tri_step (id := 5) (C := ⟨[2], [17], []⟩) [5, 21, 22, 23, 24] [(21, 0, 0)] g9 nodraw ?_; refine ⟨_, by (simp [*, F11, F16, F12, F17, F28, undef, flg]; exact Is.mk), ?_⟩)
      | (refine tri_step (id := 6) (C := ⟨[2], [17], []⟩) [5, 7, 21, 22, 23] [(8, 0, 0), (21, 0, 0)] g9 nodraw ?_; refine ⟨_, by (simp [*, F11, F16, F12, F17, F28, undef, flg]; exact Is.mk), ?_⟩)
      | (refine tri_step (id := 7) (C := ⟨[2], [17], []⟩) [5, 21, 22, 23] [(21, 0, 0)] g9 nodraw ?_; refine ⟨_, by (simp [*, F11, F16, F12, F17, F28, undef, flg]; exact Is.mk), ?_⟩)
      | (refine tri_step (id := 8) (C := ⟨[2], [17], []⟩) [5, 21, 22, 23, 30] [(21, 0, 0)] g9 nodraw ?_; refine ⟨_, by (simp [*, F11, F16, F12, F17, F28, undef, flg]; exact Is.mk), ?_⟩)
      | (refine tri_seq ?_)
      ))
      generalize talkStep t x = T at hok2 htl2 hwin hi0 ⊢
      clear hp hget
      refine tri_loop (fun k s => (k = 2 ∧ s = mkSt [(5, .ptr (21,0,0) 0), (21, .sl 5 (encS stpCells l) none), (22, .v (.int .i64 l.length)), (23, .v (.int .i64 i)), (30, .v (.int .i64 0))] [((21,0,0), talkCells T)]) ∨ (k = 1 ∧ s = mkSt [(5, .ptr (21,0,0) 0), (21, .sl 5 (encS stpCells l) none), (22, .v (.int .i64 l.length)), (23, .v (.int .i64 i)), (30, .v (.int .i64 1))] [((21,0,0), talkCells T)]) ∨ (k = 0 ∧ s = mkSt [(5, .ptr (21,0,0) 0), (21, .sl 5 (encS stpCells l) none), (22, .v (.int .i64 l.length)), (23, .v (.int .i64 i)), (30, .v (.int .i64 2))] [((21,0,0), talkCells T)])) 2 _ (Le.refl _) (.inl ⟨rfl, rfl⟩) ?_
      rintro k s (⟨rfl, rfl⟩ | ⟨rfl, rfl⟩ | ⟨rfl, rfl⟩)
      · rcases win0 hwin.1 hi0 with h1 | ⟨h1, h2⟩ | ⟨h1, h2, h3⟩ | ⟨h1, h2, h3, h4⟩ | ⟨h1, h2, h3, h4, h5⟩
        · all_goals (repeat' (first
      | (refine tri_condT (b_true (by simp; with_reducible exact IsB.mk)) ?_)
      | (refine tri_skipT ?_)
      | (refine th_n ?_)
      | (refine in_e ?_)
      | (refine th_e ?_)
      | (refine tri_exit ?_)
      | (refine tri_block ?_)
      | (refine tri_step (id := 9) (C := ⟨[2], [17], []⟩) [5, 21, 22, 23, 30, 31] [(21, 0, 0)] g9 nodraw ?_; refine ⟨_, by (simp [*, F11, F16, F12, F17, F28, undef, flg]; exact Is.mk), ?_⟩)
      | (refine tri_step (id := 10) (C := ⟨[2], [17], []⟩) [5, 8, 21, 22, 23, 30] [(21, 0, 0)] g9 nodraw ?_; refine ⟨_, by (simp [*, F11, F16, F12, F17, F28, undef, flg]; exact Is.mk), ?_⟩)
      | (refine tri_step (id := 11) (C := ⟨[2], [17], []⟩) [5, 8, 9, 21, 22, 23, 30] [(10, 0, 0), (21, 0, 0)] g9 nodraw ?_; refine ⟨_, by (simp [*, F11, F16, F12, F17, F28, undef, flg]; exact Is.mk), ?_⟩)
      | (refine tri_step (id := 12) (C := ⟨[2], [17], []⟩) [5, 8, 9, 21, 22, 23, 30, 50] [(10, 0, 0), (21, 0, 0)] g9 nodraw ?_; refine ⟨_, by (simp [*, F11, F16, F12, F17, F28, undef, flg]; exact Is.mk), ?_⟩)
      | (refine tri_last (id := 16) (C := ⟨[2], [17], []⟩) [5, 21, 22, 23, 30] [(21, 0, 0)] g9 nodraw ?_; refine ⟨_, by (simp [*, F11, F16, F12, F17, F28, undef, flg]; exact Is.mk), ?_⟩)
      | (refine tri_seq ?_)
      ))
          refine ⟨1, _, by omega, Le.refl _, .inr <| .inl ⟨rfl, rfl⟩⟩
        · all_goals (repeat' (first
      | (refine tri_condT (b_true (by simp; with_reducible exact IsB.mk)) ?_)
      | (refine tri_condF (b_true (by simp; with_reducible exact IsB.mk)) ?_)
      | (refine tri_skipT ?_)
      | (refine tri_skip ?_)
      | (refine th_n ?_)
      | (refine in_n ?_)
      | (refine tri_block ?_)
      | (refine tri_step (id := 9) (C := ⟨[2], [17], []⟩) [5, 21, 22, 23, 30, 31] [(21, 0, 0)] g9 nodraw ?_; refine ⟨_, by (simp [*, F11, F16, F12, F17, F28, undef, flg]; exact Is.mk), ?_⟩)
      | (refine tri_step (id := 10) (C := ⟨[2], [17], []⟩) [5, 8, 21, 22, 23, 30] [(21, 0, 0)] g9 nodraw ?_; refine ⟨_, by (simp [*, F11, F16, F12, F17, F28, undef, flg]; exact Is.mk), ?_⟩)
      | (refine tri_step (id := 11) (C := ⟨[2], [17], []⟩) [5, 8, 9, 21, 22, 23, 30] [(10, 0, 0), (21, 0, 0)] g9 nodraw ?_; refine ⟨_, by (simp [*, F11, F16, F12, F17, F28, undef, flg]; exact Is.mk), ?_⟩)
      | (refine tri_step (id := 12) (C := ⟨[2], [17], []⟩) [5, 8, 9, 21, 22, 23, 30, 50] [(10, 0, 0), (21, 0, 0)] g9 nodraw ?_; refine ⟨_, by (simp [*, F11, F16, F12, F17, F28, undef, flg]; exact Is.mk), ?_⟩)
      | (refine tri_step (id := 13) (C := ⟨[2], [17], []⟩) [5, 8, 9, 10, 21, 22, 23, 30] [(10, 0, 0), (11, 0, 0), (21, 0, 0)] g9 nodraw ?_; refine ⟨_, by (simp [*, F11, F16, F12, F17, F28, undef, flg]; exact Is.mk), ?_⟩)
      | (refine tri_step (id := 14) (C := ⟨[2], [17], []⟩) [5, 21, 22, 23, 30, 97] [(21, 0, 0)] g9 nodraw ?_; refine ⟨_, by (simp [*, F11, F16, F12, F17, F28, undef, flg]; exact Is.mk), ?_⟩)
      | (refine tri_last (id := 16) (C := ⟨[2], [17], []⟩) [5, 21, 22, 23, 30] [(21, 0, 0)] g9 nodraw ?_; refine ⟨_, by (simp [*, F11, F16, F12, F17, F28, undef, flg]; exact Is.mk), ?_⟩)
      | (refine tri_seq ?_)
      ))
          refine ⟨1, _, by omega, Le.refl _, .inr <| .inl ⟨rfl, rfl⟩⟩
        · all_goals (repeat' (first
      | (refine tri_condT (b_true (by simp; with_reducible exact IsB.mk)) ?_)
      | (refine tri_condF (b_true (by simp; with_reducible exact IsB.mk)) ?_)
      | (refine tri_skipT ?_)
      | (refine tri_skip ?_)
      | (refine th_n ?_)
      | (refine in_n ?_)
      | (refine tri_block ?_)
      | (refine tri_step (id := 9) (C := ⟨[2], [17], []⟩) [5, 21, 22, 23, 30, 31] [(21, 0, 0)] g9 nodraw ?_; refine ⟨_, by (simp [*, F11, F16, F12, F17, F28, undef, flg]; exact Is.mk), ?_⟩)
      | (refine tri_step (id := 10) (C := ⟨[2], [17], []⟩) [5, 8, 21, 22, 23, 30] [(21, 0, 0)] g9 nodraw ?_; refine ⟨_, by (simp [*, F11, F16, F12, F17, F28, undef, flg]; exact Is.mk), ?_⟩)
      | (refine tri_step (id := 11) (C := ⟨[2], [17], []⟩) [5, 8, 9, 21, 22, 23, 30] [(10, 0, 0), (21, 0, 0)] g9 nodraw ?_; refine ⟨_, by (simp [*, F11, F16, F12, F17, F28, undef, flg]; exact Is.mk), ?_⟩)
      | (refine tri_step (id := 12) (C := ⟨[2], [17], []⟩) [5, 8, 9, 21, 22, 23, 30, 50] [(10, 0, 0), (21, 0, 0)] g9 nodraw ?_; refine ⟨_, by (simp [*, F11, F16, F12, F17, F28, undef, flg]; exact Is.mk), ?_⟩)
      | (refine tri_step (id := 13) (C := ⟨[2], [17], []⟩) [5, 8, 9, 10, 21, 22, 23, 30] [(10, 0, 0), (11, 0, 0), (21, 0, 0)] g9 nodraw ?_; refine ⟨_, by (simp [*, F11, F16, F12, F17, F28, undef, flg]; exact Is.mk), ?_⟩)
      | (refine tri_step (id := 14) (C := ⟨[2], [17], []⟩) [5, 21, 22, 23, 30, 97] [(21, 0, 0)] g9 nodraw ?_; refine ⟨_, by (simp [*, F11, F16, F12, F17, F28, undef, flg]; exact Is.mk), ?_⟩)
      | (refine tri_last (id := 16) (C := ⟨[2], [17], []⟩) [5, 21, 22, 23, 30] [(21, 0, 0)] g9 nodraw ?_; refine ⟨_, by (simp [*, F11, F16, F12, F17, F28, undef, flg]; exact Is.mk), ?_⟩)
      | (refine tri_seq ?_)
      ))
          refine ⟨1, _, by omega, Le.refl _, .inr <| .inl ⟨rfl, rfl⟩⟩
        · unfold beyondW at h4
          all_goals (repeat' (first
      | (refine tri_condT (b_true (by simp; with_reducible exact IsB.mk)) ?_)
      | (refine tri_condF (b_true (by simp; with_reducible exact IsB.mk)) ?_)
      | (refine tri_skipT ?_)
      | (refine tri_skip ?_)
      | (refine th_n ?_)
      | (refine in_n ?_)
      | (refine tri_block ?_)
      | (refine tri_step (id := 9) (C := ⟨[2], [17], []⟩) [5, 21, 22, 23, 30, 31] [(21, 0, 0)] g9 nodraw ?_; refine ⟨_, by (simp [*, F11, F16, F12, F17, F28, undef, flg]; exact Is.mk), ?_⟩)
      | (refine tri_step (id := 10) (C := ⟨[2], [17], []⟩) [5, 8, 21, 22, 23, 30] [(21, 0, 0)] g9 nodraw ?_; refine ⟨_, by (simp [*, F11, F16, F12, F17, F28, undef, flg]; exact Is.mk), ?_⟩)
      | (refine tri_step (id := 11) (C := ⟨[2], [17], []⟩) [5, 8, 9, 21, 22, 23, 30] [(10, 0, 0), (21, 0, 0)] g9 nodraw ?_; refine ⟨_, by (simp [*, F11, F16, F12, F17, F28, undef, flg]; exact Is.mk), ?_⟩)
      | (refine tri_step (id := 12) (C := ⟨[2], [17], []⟩) [5, 8, 9, 21, 22, 23, 30, 50] [(10, 0, 0), (21, 0, 0)] g9 nodraw ?_; refine ⟨_, by (simp [*, F11, F16, F12, F17, F28, undef, flg]; exact Is.mk), ?_⟩)
      | (refine tri_step (id := 13) (C := ⟨[2], [17], []⟩) [5, 8, 9, 10, 21, 22, 23, 30] [(10, 0, 0), (11, 0, 0), (21, 0, 0)] g9 nodraw ?_; refine ⟨_, by (simp [*, F11, F16, F12, F17, F28, undef, flg]; exact Is.mk), ?_⟩)
      | (refine tri_step (id := 14) (C := ⟨[2], [17], []⟩) [5, 21, 22, 23, 30, 97] [(21, 0, 0)] g9 nodraw ?_; refine ⟨_, by (simp [*, F11, F16, F12, F17, F28, undef, flg]; exact Is.mk), ?_⟩)
      | (refine tri_last (id := 16) (C := ⟨[2], [17], []⟩) [5, 21, 22, 23, 30] [(21, 0, 0)] g9 nodraw ?_; refine ⟨_, by (simp [*, F11, F16, F12, F17, F28, undef, flg]; exact Is.mk), ?_⟩)
      | (refine tri_seq ?_)
      ))
          refine ⟨1, _, by omega, Le.refl _, .inr <| .inl ⟨rfl, rfl⟩⟩
        · unfold beyondW at h4
          all_goals (repeat' (first
      | (refine tri_condT (b_true (by simp; with_reducible exact IsB.mk)) ?_)
      | (refine tri_condF (b_true (by simp; with_reducible exact IsB.mk)) ?_)
      | (refine tri_skipT ?_)
      | (refine tri_skip ?_)
      | (refine th_n ?_)
      | (refine in_n ?_)
      | (refine tri_block ?_)
      | (refine tri_step (id := 9) (C := ⟨[2], [17], []⟩) [5, 21, 22, 23, 30, 31] [(21, 0, 0)] g9 nodraw ?_; refine ⟨_, by (simp [*, F11, F16, F12, F17, F28, undef, flg]; exact Is.mk), ?_⟩)
      | (refine tri_step (id := 10) (C := ⟨[2], [17], []⟩) [5, 8, 21, 22, 23, 30] [(21, 0, 0)] g9 nodraw ?_; refine ⟨_, by (simp [*, F11, F16, F12, F17, F28, undef, flg]; exact Is.mk), ?_⟩)
      | (refine tri_step (id := 11) (C := ⟨[2], [17], []⟩) [5, 8, 9, 21, 22, 23, 30] [(10, 0, 0), (21, 0, 0)] g9 nodraw ?_; refine ⟨_, by (simp [*, F11, F16, F12, F17, F28, undef, flg]; exact Is.mk), ?_⟩)
      | (refine tri_step (id := 12) (C := ⟨[2], [17], []⟩) [5, 8, 9, 21, 22, 23, 30, 50] [(10, 0, 0), (21, 0, 0)] g9 nodraw ?_; refine ⟨_, by (simp [*, F11, F16, F12, F17, F28, undef, flg]; exact Is.mk), ?_⟩)
      | (refine tri_step (id := 13) (C := ⟨[2], [17], []⟩) [5, 8, 9, 10, 21, 22, 23, 30] [(10, 0, 0), (11, 0, 0), (21, 0, 0)] g9 nodraw ?_; refine ⟨_, by (simp [*, F11, F16, F12, F17, F28, undef, flg]; exact Is.mk), ?_⟩)
      | (refine tri_step (id := 14) (C := ⟨[2], [17], []⟩) [5, 21, 22, 23, 30, 97] [(21, 0, 0)] g9 nodraw ?_; refine ⟨_, by (simp [*, F11, F16, F12, F17, F28, undef, flg]; exact Is.mk), ?_⟩)
      | (refine tri_last (id := 16) (C := ⟨[2], [17], []⟩) [5, 21, 22, 23, 30] [(21, 0, 0)] g9 nodraw ?_; refine ⟨_, by (simp [*, F11, F16, F12, F17, F28, undef, flg]; exact Is.mk), ?_⟩)
      | (refine tri_seq ?_)
      ))
          refine ⟨1, _, by omega, Le.refl _, .inr <| .inl ⟨rfl, rfl⟩⟩
      · rcases win1 hwin.2 hi0 with h1 | ⟨h1, h2⟩ | ⟨h1, h2, h3⟩ | ⟨h1, h2, h3, h4⟩ | ⟨h1, h2, h3, h4, h5⟩
        · all_goals (repeat' (first
      | (refine tri_condT (b_true (by simp; with_reducible exact IsB.mk)) ?_)
      | (refine tri_skipT ?_)
      | (refine th_n ?_)
      | (refine in_e ?_)
      | (refine th_e ?_)
      | (refine tri_exit ?_)
      | (refine tri_block ?_)
      | (refine tri_step (id := 9) (C := ⟨[2], [17], []⟩) [5, 21, 22, 23, 30, 31] [(21, 0, 0)] g9 nodraw ?_; refine ⟨_, by (simp [*, F11, F16, F12, F17, F28, undef, flg]; exact Is.mk), ?_⟩)
      | (refine tri_step (id := 10) (C := ⟨[2], [17], []⟩) [5, 8, 21, 22, 23, 30] [(21, 0, 0)] g9 nodraw ?_; refine ⟨_, by (simp [*, F11, F16, F12, F17, F28, undef, flg]; exact Is.mk), ?_⟩)
      | (refine tri_step (id := 11) (C := ⟨[2], [17], []⟩) [5, 8, 9, 21, 22, 23, 30] [(10, 0, 0), (21, 0, 0)] g9 nodraw ?_; refine ⟨_, by (simp [*, F11, F16, F12, F17, F28, undef, flg]; exact Is.mk), ?_⟩)
      | (refine tri_step (id := 12) (C := ⟨[2], [17], []⟩) [5, 8, 9, 21, 22, 23, 30, 50] [(10, 0, 0), (21, 0, 0)] g9 nodraw ?_; refine ⟨_, by (simp [*, F11, F16, F12, F17, F28, undef, flg]; exact Is.mk), ?_⟩)
      | (refine tri_last (id := 16) (C := ⟨[2], [17], []⟩) [5, 21, 22, 23, 30] [(21, 0, 0)] g9 nodraw ?_; refine ⟨_, by (simp [*, F11, F16, F12, F17, F28, undef, flg]; exact Is.mk), ?_⟩)
      | (refine tri_seq ?_)
      ))
          refine ⟨0, _, by omega, Le.refl _, .inr <| .inr ⟨rfl, rfl⟩⟩
        · all_goals (repeat' (first
      | (refine tri_condT (b_true (by simp; with_reducible exact IsB.mk)) ?_)
      | (refine tri_skipT ?_)
      | (refine th_n ?_)
      | (refine in_e ?_)
      | (refine th_e ?_)
      | (refine tri_exit ?_)
      | (refine tri_block ?_)
      | (refine tri_step (id := 9) (C := ⟨[2], [17], []⟩) [5, 21, 22, 23, 30, 31] [(21, 0, 0)] g9 nodraw ?_; refine ⟨_, by (simp [*, F11, F16, F12, F17, F28, undef, flg]; exact Is.mk), ?_⟩)
      | (refine tri_step (id := 10) (C := ⟨[2], [17], []⟩) [5, 8, 21, 22, 23, 30] [(21, 0, 0)] g9 nodraw ?_; refine ⟨_, by (simp [*, F11, F16, F12, F17, F28, undef, flg]; exact Is.mk), ?_⟩)
      | (refine tri_step (id := 11) (C := ⟨[2], [17], []⟩) [5, 8, 9, 21, 22, 23, 30] [(10, 0, 0), (21, 0, 0)] g9 nodraw ?_; refine ⟨_, by (simp [*, F11, F16, F12, F17, F28, undef, flg]; exact Is.mk), ?_⟩)
      | (refine tri_step (id := 12) (C := ⟨[2], [17], []⟩) [5, 8, 9, 21, 22, 23, 30, 50] [(10, 0, 0), (21, 0, 0)] g9 nodraw ?_; refine ⟨_, by (simp [*, F11, F16, F12, F17, F28, undef, flg]; exact Is.mk), ?_⟩)
      | (refine tri_last (id := 16) (C := ⟨[2], [17], []⟩) [5, 21, 22, 23, 30] [(21, 0, 0)] g9 nodraw ?_; refine ⟨_, by (simp [*, F11, F16, F12, F17, F28, undef, flg]; exact Is.mk), ?_⟩)
      | (refine tri_seq ?_)
      ))
          refine ⟨0, _, by omega, Le.refl _, .inr <| .inr ⟨rfl, rfl⟩⟩
        · all_goals (repeat' (first
      | (refine tri_condT (b_true (by simp; with_reducible exact IsB.mk)) ?_)
      | (refine tri_condF (b_true (by simp; with_reducible exact IsB.mk)) ?_)
      | (refine tri_skipT ?_)
      | (refine tri_skip ?_)
      | (refine th_n ?_)
      | (refine in_n ?_)
      | (refine tri_block ?_)
      | (refine tri_step (id := 9) (C := ⟨[2], [17], []⟩) [5, 21, 22, 23, 30, 31] [(21, 0, 0)] g9 nodraw ?_; refine ⟨_, by (simp [*, F11, F16, F12, F17, F28, undef, flg]; exact Is.mk), ?_⟩)
      | (refine tri_step (id := 10) (C := ⟨[2], [17], []⟩) [5, 8, 21, 22, 23, 30] [(21, 0, 0)] g9 nodraw ?_; refine ⟨_, by (simp [*, F11, F16, F12, F17, F28, undef, flg]; exact Is.mk), ?_⟩)
      | (refine tri_step (id := 11) (C := ⟨[2], [17], []⟩) [5, 8, 9, 21, 22, 23, 30] [(10, 0, 0), (21, 0, 0)] g9 nodraw ?_; refine ⟨_, by (simp [*, F11, F16, F12, F17, F28, undef, flg]; exact Is.mk), ?_⟩)
      | (refine tri_step (id := 12) (C := ⟨[2], [17], []⟩) [5, 8, 9, 21, 22, 23, 30, 50] [(10, 0, 0), (21, 0, 0)] g9 nodraw ?_; refine ⟨_, by (simp [*, F11, F16, F12, F17, F28, undef, flg]; exact Is.mk), ?_⟩)
      | (refine tri_step (id := 13) (C := ⟨[2], [17], []⟩) [5, 8, 9, 10, 21, 22, 23, 30] [(10, 0, 0), (11, 0, 0), (21, 0, 0)] g9 nodraw ?_; refine ⟨_, by (simp [*, F11, F16, F12, F17, F28, undef, flg]; exact Is.mk), ?_⟩)
      | (refine tri_step (id := 14) (C := ⟨[2], [17], []⟩) [5, 21, 22, 23, 30, 97] [(21, 0, 0)] g9 nodraw ?_; refine ⟨_, by (simp [*, F11, F16, F12, F17, F28, undef, flg]; exact Is.mk), ?_⟩)
      | (refine tri_last (id := 16) (C := ⟨[2], [17], []⟩) [5, 21, 22, 23, 30] [(21, 0, 0)] g9 nodraw ?_; refine ⟨_, by (simp [*, F11, F16, F12, F17, F28, undef, flg]; exact Is.mk), ?_⟩)
      | (refine tri_seq ?_)
      ))
          refine ⟨0, _, by omega, Le.refl _, .inr <| .inr ⟨rfl, rfl⟩⟩
        · unfold beyondW at h4
          all_goals (repeat' (first
      | (refine tri_condT (b_true (by simp; with_reducible exact IsB.mk)) ?_)
      | (refine tri_condF (b_true (by simp; with_reducible exact IsB.mk)) ?_)
      | (refine tri_skipT ?_)
      | (refine tri_skip ?_)
      | (refine th_n ?_)
      | (refine in_n ?_)
      | (refine tri_block ?_)
      | (refine tri_step (id := 9) (C := ⟨[2], [17], []⟩) [5, 21, 22, 23, 30, 31] [(21, 0, 0)] g9 nodraw ?_; refine ⟨_, by (simp [*, F11, F16, F12, F17, F28, undef, flg]; exact Is.mk), ?_⟩)
      | (refine tri_step (id := 10) (C := ⟨[2], [17], []⟩) [5, 8, 21, 22, 23, 30] [(21, 0, 0)] g9 nodraw ?_; refine ⟨_, by (simp [*, F11, F16, F12, F17, F28, undef, flg]; exact Is.mk), ?_⟩)
      | (refine tri_step (id := 11) (C := ⟨[2], [17], []⟩) [5, 8, 9, 21, 22, 23, 30] [(10, 0, 0), (21, 0, 0)] g9 nodraw ?_; refine ⟨_, by (simp [*, F11, F16, F12, F17, F28, undef, flg]; exact Is.mk), ?_⟩)
      | (refine tri_step (id := 12) (C := ⟨[2], [17], []⟩) [5, 8, 9, 21, 22, 23, 30, 50] [(10, 0, 0), (21, 0, 0)] g9 nodraw ?_; refine ⟨_, by (simp [*, F11, F16, F12, F17, F28, undef, flg]; exact Is.mk), ?_⟩)
      | (refine tri_step (id := 13) (C := ⟨[2], [17], []⟩) [5, 8, 9, 10, 21, 22, 23, 30] [(10, 0, 0), (11, 0, 0), (21, 0, 0)] g9 nodraw ?_; refine ⟨_, by (simp [*, F11, F16, F12, F17, F28, undef, flg]; exact Is.mk), ?_⟩)
      | (refine tri_step (id := 14) (C := ⟨[2], [17], []⟩) [5, 21, 22, 23, 30, 97] [(21, 0, 0)] g9 nodraw ?_; refine ⟨_, by (simp [*, F11, F16, F12, F17, F28, undef, flg]; exact Is.mk), ?_⟩)
      | (refine tri_last (id := 16) (C := ⟨[2], [17], []⟩) [5, 21, 22, 23, 30] [(21, 0, 0)] g9 nodraw ?_; refine ⟨_, by (simp [*, F11, F16, F12, F17, F28, undef, flg]; exact Is.mk), ?_⟩)
      | (refine tri_seq ?_)
      ))
          refine ⟨0, _, by omega, Le.refl _, .inr <| .inr ⟨rfl, rfl⟩⟩
        · unfold beyondW at h4
          all_goals (repeat' (first
      | (refine tri_condT (b_true (by simp; with_reducible exact IsB.mk)) ?_)
      | (refine tri_condF (b_true (by simp; with_reducible exact IsB.mk)) ?_)
      | (refine tri_skipT ?_)
      | (refine tri_skip ?_)
      | (refine th_n ?_)
      | (refine in_n ?_)
      | (refine tri_block ?_)
      | (refine tri_step (id := 9) (C := ⟨[2], [17], []⟩) [5, 21, 22, 23, 30, 31] [(21, 0, 0)] g9 nodraw ?_; refine ⟨_, by (simp [*, F11, F16, F12, F17, F28, undef, flg]; exact Is.mk), ?_⟩)
      | (refine tri_step (id := 10) (C := ⟨[2], [17], []⟩) [5, 8, 21, 22, 23, 30] [(21, 0, 0)] g9 nodraw ?_; refine ⟨_, by (simp [*, F11, F16, F12, F17, F28, undef, flg]; exact Is.mk), ?_⟩)
      | (refine tri_step (id := 11) (C := ⟨[2], [17], []⟩) [5, 8, 9, 21, 22, 23, 30] [(10, 0, 0), (21, 0, 0)] g9 nodraw ?_; refine ⟨_, by (simp [*, F11, F16, F12, F17, F28, undef, flg]; exact Is.mk), ?_⟩)
      | (refine tri_step (id := 12) (C := ⟨[2], [17], []⟩) [5, 8, 9, 21, 22, 23, 30, 50] [(10, 0, 0), (21, 0, 0)] g9 nodraw ?_; refine ⟨_, by (simp [*, F11, F16, F12, F17, F28, undef, flg]; exact Is.mk), ?_⟩)
      | (refine tri_step (id := 13) (C := ⟨[2], [17], []⟩) [5, 8, 9, 10, 21, 22, 23, 30] [(10, 0, 0), (11, 0, 0), (21, 0, 0)] g9 nodraw ?_; refine ⟨_, by (simp [*, F11, F16, F12, F17, F28, undef, flg]; exact Is.mk), ?_⟩)
      | (refine tri_step (id := 14) (C := ⟨[2], [17], []⟩) [5, 21, 22, 23, 30, 97] [(21, 0, 0)] g9 nodraw ?_; refine ⟨_, by (simp [*, F11, F16, F12, F17, F28, undef, flg]; exact Is.mk), ?_⟩)
      | (refine tri_last (id := 16) (C := ⟨[2], [17], []⟩) [5, 21, 22, 23, 30] [(21, 0, 0)] g9 nodraw ?_; refine ⟨_, by (simp [*, F11, F16, F12, F17, F28, undef, flg]; exact Is.mk), ?_⟩)
      | (refine tri_seq ?_)
      ))
          refine ⟨0, _, by omega, Le.refl _, .inr <| .inr ⟨rfl, rfl⟩⟩
      · all_goals (repeat' (first
      | (refine tri_condF (b_true (by simp; with_reducible exact IsB.mk)) ?_)
      | (refine th_n ?_)
      | (refine in_n ?_)
      | (refine in_e ?_)
      | (refine th_e ?_)
      | (refine tri_exit ?_)
      | (refine tri_step (id := 9) (C := ⟨[2], [17], []⟩) [5, 21, 22, 23, 30, 31] [(21, 0, 0)] g9 nodraw ?_; refine ⟨_, by (simp [*, F11, F16, F12, F17, F28, undef, flg]; exact Is.mk), ?_⟩)
      | (refine tri_last (id := 17) (C := ⟨[2], [17], []⟩) [5, 21, 22, 23] [(21, 0, 0)] g9 nodraw ?_; refine ⟨_, by (simp [*, F11, F16, F12, F17, F28, undef, flg]; exact Is.mk), ?_⟩)
      | (refine tri_seq ?_)
      ))
        refine ⟨r.length, _, by simp [hn], Le.refl _, i + 1, d ++ [x], r, T, hl2, rfl, hok2.le (by omega), htl2, rfl⟩
  · refine specAt_of_tri Try.func9 rfl (Nat.le_of_ble_eq_true rfl) ?_
    all_goals (repeat' (first
      | (refine tri_condT (b_true (by simp; with_reducible exact IsB.mk)) ?_)
      | (refine th_r ?_)
      | (refine tri_ret ?_)
      | (refine tri_step (id := 0) (C := ⟨[2], [17], []⟩) [1, 2] [] g9 nodraw ?_; refine ⟨_, by (simp [*, F11, F16, F12, F17, F28, undef, flg]; exact Is.mk), ?_⟩)
      | (refine tri_step (id := 1) (C := ⟨[2], [17], []⟩) [1, 2, 17] [] g9 nodraw ?_; refine ⟨_, by (simp [*, F11, F16, F12, F17, F28, undef, flg]; exact Is.mk), ?_⟩)
      | (refine tri_step (id := 2) (C := ⟨[2], [17], []⟩) [4] [] g9 nodraw ?_; refine ⟨_, by (simp [*, F11, F16, F12, F17, F28, undef, flg]; exact Is.mk), ?_⟩)
      | (refine tri_seq ?_)
      ))
    all_goals (refine post_plainV (P := Try.prog) (fn := Try.f9) (by simp; exact IsV.mk) rfl ?_)
    all_goals (first | (simp [F11, F16, F12, F17, F28, undef, flg]; done) | (simp [*, F11, F16, F12, F17, F28, undef, flg]; done) | (simp_all [F11, F16, F12, F17, F28, undef, flg]; done) | (simp [F11, F16, F12, F17, F28, undef, flg] <;> (repeat' split) <;> simp_all; done) | (simp [F11, F16, F12, F17, F28, undef, flg] <;> (repeat' split) <;> simp_all [Bool.and_assoc] <;> grind [List.length_eq_zero_iff, sendCells_co, recvCells_co, pieceCells_co, connCells_co, segCells_co, clockCells_co]))
open Classical in
noncomputable def F9 : Fn1
  | [x0, x1] => (whole pTwo x0).bind fun first => (decS 5 pStp stpCells x1).bind fun l => if TwoOk first ∧ l.length ≤ 9223372036854775807 then some ((.v (.bool true)), none) else none
  | _ => none
theorem spec9 : Spec1 Try.prog 9 F9 := spec_of fun ys r o h => by
  unfold F9 at h
  split at h
  case h_2 => cases h
  obtain ⟨first, k0, h1⟩ := bind_some h
  obtain ⟨l, k1, h2⟩ := bind_some h1
  obtain ⟨hpre, hz⟩ := ite_some h2
  cases hz
  exact ⟨_, at9 first l hpre, rfl, le_plain ⟨whole_co pTwo_snd k0, ⟨decS_coA k1, trivial⟩⟩ (by simp only [List.all_cons, List.all_nil, Bool.not_false, Bool.and_self, notRefB (whole_co pTwo_snd k0) rfl (by simp), notRefB (decS_coA k1) rfl (by simp)]) rfl⟩
theorem en9 : Enters Try.prog 9 := enters_of Try.func9 (by kernel_rfl) (by kernel_rfl)

end Go.Proofs.Ytkjodjaamjnejaa

