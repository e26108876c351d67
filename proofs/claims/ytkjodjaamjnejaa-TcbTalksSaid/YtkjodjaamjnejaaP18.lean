import Derived.Test.YtkjodjaamjnejaaP17
import Derived.Test.YtkjodjaamjnejaaK13
import Derived.Test.YtkjodjaamjnejaaK14
set_option linter.all false
-- Printed by genwalk.py.
namespace Go.Proofs.Ytkjodjaamjnejaa
open Go Go.RowKit Caw
set_option linter.unusedSimpArgs false
set_option linter.unusedVariables false
set_option maxRecDepth 100000

-- caravel/caravellaw19.TcbTalks
theorem g4 : GOk1 Try.prog (ctxOf [(11, F11), (16, F16), (12, F12), (17, F17)]) := gok_cons spec11 en11 (gok_cons spec16 en16 (gok_cons spec12 en12 (gok_cons spec17 en17 (gok_nil))))
set_option maxHeartbeats 20000000 in
theorem at4 (first : Caw.Two) (l : List Stp) (hpre : TwoOk first ∧ l.length ≤ 9223372036854775807) : SpecAt Try.prog 4 [.agg (twoCells first), .sl 5 (encS stpCells l) none] (.v (.bool true)) none := by
  obtain ⟨hp0, hp1⟩ := hpre
  rcases told_cases (fitsL l) with hf | hf
  · obtain ⟨hlen, hdat⟩ := fits_len hf
    have htold := begins_told hp0.1 hp0.2
    refine specAt_of_tri Try.func4 rfl (Nat.le_of_ble_eq_true rfl) ?_
    all_goals (repeat' (first
      | (refine tri_condF (b_true (by simp; with_reducible exact IsB.mk)) ?_)
      | (refine tri_skipT ?_)
      | (refine tri_block ?_)
      | (refine tri_step (id := 0) (C := ⟨[2], [17], []⟩) [1, 2] [] g4 nodraw ?_; refine ⟨_, by (simp [*, F11, F16, F12, F17, undef, flg]; exact Is.mk), ?_⟩)
      | (refine tri_step (id := 1) (C := ⟨[2], [17], []⟩) [1, 2, 14] [] g4 nodraw ?_; refine ⟨_, by (simp [*, F11, F16, F12, F17, undef, flg]; exact Is.mk), ?_⟩)
      | (refine tri_step (id := 3) (C := ⟨[2], [17], []⟩) [1, 5] [(18, 0, 0)] g4 nodraw ?_; refine ⟨_, by (simp [*, F11, F16, F12, F17, undef, flg]; exact Is.mk), ?_⟩)
      | (refine tri_step (id := 4) (C := ⟨[2], [17], []⟩) [5, 18, 19, 20] [(18, 0, 0)] g4 nodraw ?_; refine ⟨_, by (simp [*, F11, F16, F12, F17, undef, flg]; exact Is.mk), ?_⟩)
      | (refine tri_seq ?_)
      ))
    refine tri_loop (fun n s => ∃ i d r t, At l d r i ∧ n = r.length ∧ TalkOk (1 + 3 * i) t ∧ TrueT t ∧ s = mkSt [(5, .ptr (18,0,0) 0), (18, .sl 5 (encS stpCells l) none), (19, .v (.int .i64 l.length)), (20, .v (.int .i64 i))] [((18,0,0), talkCells t)]) l.length _ (Le.refl _) ⟨0, [], l, begins first.a first.b, .start _, rfl, (begins_ok first.a first.b).2, htold, rfl⟩ ?_
    rintro n s ⟨i, d, r, t, hl, hn, hok, htl, rfl⟩
    cases r with
    | nil =>
      have hlt := hl.ge
      clear hl hok hf hdat hlen hn hp1 hp0 htold htl
      all_goals (repeat' (first
      | (refine tri_condF (b_true (by simp; with_reducible exact IsB.mk)) ?_)
      | (refine th_n ?_)
      | (refine in_e ?_)
      | (refine th_e ?_)
      | (refine tri_ret ?_)
      | (refine tri_exit ?_)
      | (refine tri_step (id := 5) (C := ⟨[2], [17], []⟩) [5, 18, 19, 20, 21] [(18, 0, 0)] g4 nodraw ?_; refine ⟨_, by (simp [*, F11, F16, F12, F17, undef, flg]; exact Is.mk), ?_⟩)
      | (refine tri_step (id := 11) (C := ⟨[2], [17], []⟩) [4] [] g4 nodraw ?_; refine ⟨_, by (simp [*, F11, F16, F12, F17, undef, flg]; exact Is.mk), ?_⟩)
      | (refine tri_seq ?_)
      ))
      all_goals (refine post_plainV (P := Try.prog) (fn := Try.f4) (by simp; exact IsV.mk) rfl ?_)
      all_goals (first | (simp [F11, F16, F12, F17, undef, flg]; done) | (simp [*, F11, F16, F12, F17, undef, flg]; done) | (simp_all [F11, F16, F12, F17, undef, flg]; done) | (simp [F11, F16, F12, F17, undef, flg] <;> (repeat' split) <;> simp_all; done) | (simp [F11, F16, F12, F17, undef, flg] <;> (repeat' split) <;> simp_all [Bool.and_assoc] <;> grind [List.length_eq_zero_iff, sendCells_co, recvCells_co, pieceCells_co, connCells_co, segCells_co, clockCells_co]))
    | cons x r =>
      have hlt := hl.lt
      have hget := hl.get
      have hw := hl.wi2 hp1
      have hi : i ≤ 79 := by simp at hlt; omega
      obtain ⟨hp, hok2⟩ := step_okT (by omega) hok (hdat x hl.mem)
      have htl2 : TrueT (talkStep t x) := step_told (by omega) hok htl
      have hwr := htl2.wrong
      have hl2 := hl.next
      clear hl hok hdat hp0 htold htl
      all_goals (repeat' (first
      | (refine tri_condT (b_true (by simp; with_reducible exact IsB.mk)) ?_)
      | (refine tri_condF (b_true (by simp; with_reducible exact IsB.mk)) ?_)
      | (refine tri_skipT ?_)
      | (refine tri_skip ?_)
      | (refine th_n ?_)
      | (refine in_n ?_)
      | (refine tri_block ?_)
      | (refine tri_step (id := 5) (C := ⟨[2], [17], []⟩) [5, 18, 19, 20, 21] [(18, 0, 0)] g4 nodraw ?_; refine ⟨_, by (simp [*, F11, F16, F12, F17, undef, flg]; exact Is.mk), ?_⟩)
      | (refine tri_step (id := 6) (C := ⟨[2], [17], []⟩) [5, 7, 18, 19, 20] [(8, 0, 0), (18, 0, 0)] g4 nodraw ?_; refine ⟨_, by (simp [*, F11, F16, F12, F17, undef, flg]; exact Is.mk), ?_⟩)
      | (refine tri_step (id := 7) (C := ⟨[2], [17], []⟩) [5, 18, 19, 20] [(18, 0, 0)] g4 nodraw ?_; refine ⟨_, by (simp [*, F11, F16, F12, F17, undef, flg]; exact Is.mk), ?_⟩)
      | (refine tri_step (id := 8) (C := ⟨[2], [17], []⟩) [5, 18, 19, 20, 30] [(18, 0, 0)] g4 nodraw ?_; refine ⟨_, by (simp [*, F11, F16, F12, F17, undef, flg]; exact Is.mk), ?_⟩)
      | (refine tri_last (id := 10) (C := ⟨[2], [17], []⟩) [5, 18, 19, 20] [(18, 0, 0)] g4 nodraw ?_; refine ⟨_, by (simp [*, F11, F16, F12, F17, undef, flg]; exact Is.mk), ?_⟩)
      | (refine tri_seq ?_)
      ))
      refine ⟨r.length, _, by simp [hn], Le.refl _, i + 1, d ++ [x], r, talkStep t x, hl2, rfl, hok2.le (by omega), htl2, rfl⟩
  · refine specAt_of_tri Try.func4 rfl (Nat.le_of_ble_eq_true rfl) ?_
    all_goals (repeat' (first
      | (refine tri_condT (b_true (by simp; with_reducible exact IsB.mk)) ?_)
      | (refine th_r ?_)
      | (refine tri_ret ?_)
      | (refine tri_step (id := 0) (C := ⟨[2], [17], []⟩) [1, 2] [] g4 nodraw ?_; refine ⟨_, by (simp [*, F11, F16, F12, F17, undef, flg]; exact Is.mk), ?_⟩)
      | (refine tri_step (id := 1) (C := ⟨[2], [17], []⟩) [1, 2, 14] [] g4 nodraw ?_; refine ⟨_, by (simp [*, F11, F16, F12, F17, undef, flg]; exact Is.mk), ?_⟩)
      | (refine tri_step (id := 2) (C := ⟨[2], [17], []⟩) [4] [] g4 nodraw ?_; refine ⟨_, by (simp [*, F11, F16, F12, F17, undef, flg]; exact Is.mk), ?_⟩)
      | (refine tri_seq ?_)
      ))
    all_goals (refine post_plainV (P := Try.prog) (fn := Try.f4) (by simp; exact IsV.mk) rfl ?_)
    all_goals (first | (simp [F11, F16, F12, F17, undef, flg]; done) | (simp [*, F11, F16, F12, F17, undef, flg]; done) | (simp_all [F11, F16, F12, F17, undef, flg]; done) | (simp [F11, F16, F12, F17, undef, flg] <;> (repeat' split) <;> simp_all; done) | (simp [F11, F16, F12, F17, undef, flg] <;> (repeat' split) <;> simp_all [Bool.and_assoc] <;> grind [List.length_eq_zero_iff, sendCells_co, recvCells_co, pieceCells_co, connCells_co, segCells_co, clockCells_co]))
open Classical in
noncomputable def F4 : Fn1
  | [x0, x1] => (whole pTwo x0).bind fun first => (decS 5 pStp stpCells x1).bind fun l => if TwoOk first ∧ l.length ≤ 9223372036854775807 then some ((.v (.bool true)), none) else none
  | _ => none
theorem spec4 : Spec1 Try.prog 4 F4 := spec_of fun ys r o h => by
  unfold F4 at h
  split at h
  case h_2 => cases h
  obtain ⟨first, k0, h1⟩ := bind_some h
  obtain ⟨l, k1, h2⟩ := bind_some h1
  obtain ⟨hpre, hz⟩ := ite_some h2
  cases hz
  exact ⟨_, at4 first l hpre, rfl, le_plain ⟨whole_co pTwo_snd k0, ⟨decS_coA k1, trivial⟩⟩ (by simp only [List.all_cons, List.all_nil, Bool.not_false, Bool.and_self, notRefB (whole_co pTwo_snd k0) rfl (by simp), notRefB (decS_coA k1) rfl (by simp)]) rfl⟩
theorem en4 : Enters Try.prog 4 := enters_of Try.func4 (by kernel_rfl) (by kernel_rfl)

end Go.Proofs.Ytkjodjaamjnejaa

