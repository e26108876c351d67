import Derived.Test.YtkjodjaamjnejaaP17
import Derived.Test.YtkjodjaamjnejaaK11
import Derived.Test.YtkjodjaamjnejaaK10
set_option linter.all false
-- Printed by genwalk.py.
namespace Go.Proofs.Ytkjodjaamjnejaa
open Go Go.RowKit Caw
set_option linter.unusedSimpArgs false
set_option linter.unusedVariables false
set_option maxRecDepth 100000

-- caravel/caravellaw19.TcbResets
theorem g8 : GOk1 Try.prog (ctxOf [(11, F11), (16, F16), (12, F12), (17, F17), (23, F23), (26, F26), (27, F27), (21, F21)]) := gok_cons spec11 en11 (gok_cons spec16 en16 (gok_cons spec12 en12 (gok_cons spec17 en17 (gok_cons spec23 en23 (gok_cons spec26 en26 (gok_cons spec27 en27 (gok_cons spec21 en21 (gok_nil))))))))
set_option maxHeartbeats 20000000 in
theorem at8 (first : Caw.Two) (l : List Stp) (off : Int) (hpre : l.length ≤ 9223372036854775807) : SpecAt Try.prog 8 [.agg (twoCells first), .sl 5 (encS stpCells l) none, .v (.int .i64 off)] (.v (.bool true)) none := by
  rcases told_cases (fitsL l) with hf | hf
  · obtain ⟨hlen, hdat⟩ := fits_len hf
    refine specAt_of_tri Try.func8 rfl (Nat.le_of_ble_eq_true rfl) ?_
    all_goals (repeat' (first
      | (refine tri_condF (b_true (by simp; with_reducible exact IsB.mk)) ?_)
      | (refine tri_skipT ?_)
      | (refine tri_block ?_)
      | (refine tri_step (id := 0) (C := ⟨[3], [17], [(10, (11, 0, 0)), (11, (12, 0, 0)), (12, (13, 0, 0)), (57, (28, 0, 0))]⟩) [1, 2, 3] [] g8 nodraw ?_; refine ⟨_, by (simp [*, F11, F16, F12, F17, F23, F26, F27, F21, undef, flg]; exact Is.mk), ?_⟩)
      | (refine tri_step (id := 1) (C := ⟨[3], [17], [(10, (11, 0, 0)), (11, (12, 0, 0)), (12, (13, 0, 0)), (57, (28, 0, 0))]⟩) [1, 2, 3, 24] [] g8 nodraw ?_; refine ⟨_, by (simp [*, F11, F16, F12, F17, F23, F26, F27, F21, undef, flg]; exact Is.mk), ?_⟩)
      | (refine tri_step (id := 3) (C := ⟨[3], [17], [(10, (11, 0, 0)), (11, (12, 0, 0)), (12, (13, 0, 0)), (57, (28, 0, 0))]⟩) [1, 2, 7] [(28, 0, 0)] g8 nodraw ?_; refine ⟨_, by (simp [*, F11, F16, F12, F17, F23, F26, F27, F21, undef, flg]; exact Is.mk), ?_⟩)
      | (refine tri_step (id := 4) (C := ⟨[3], [17], [(10, (11, 0, 0)), (11, (12, 0, 0)), (12, (13, 0, 0)), (57, (28, 0, 0))]⟩) [2, 7, 28, 29, 30] [(28, 0, 0)] g8 nodraw ?_; refine ⟨_, by (simp [*, F11, F16, F12, F17, F23, F26, F27, F21, undef, flg]; exact Is.mk), ?_⟩)
      | (refine tri_seq ?_)
      ))
    refine tri_loop (fun n s => ∃ i d r t, At l d r i ∧ n = r.length ∧ TalkOk (1 + 3 * i) t ∧ s = mkSt [(2, .v (.int .i64 off)), (7, .ptr (28,0,0) 0), (28, .sl 5 (encS stpCells l) none), (29, .v (.int .i64 l.length)), (30, .v (.int .i64 i))] [((28,0,0), talkCells t)]) l.length _ (Le.refl _) ⟨0, [], l, begins first.a first.b, .start _, rfl, (begins_ok first.a first.b).2, rfl⟩ ?_
    rintro n s ⟨i, d, r, t, hl, hn, hok, rfl⟩
    cases r with
    | nil =>
      have hlt := hl.ge
      have hi : i ≤ 80 := by have := hl.2; have := hl.end; subst this; omega
      have hc := hok.c0
      have hr0 := hok.t0
      have hr1 := now_le (by omega) hok
      have hs : SegOk (resetSeg t.c0 off) := ⟨by simp [resetSeg], by simp [resetSeg], by simp [resetSeg]⟩
      have hh := hearPre_of _ hs.d0 hc
      have hz := reset_cases t.c0 hc off t.now
      clear hl hok hs hpre hf hdat hlen hn
      all_goals (repeat' (first
      | (refine tri_condF (b_true (by simp; with_reducible exact IsB.mk)) ?_)
      | (refine th_n ?_)
      | (refine in_e ?_)
      | (refine th_e ?_)
      | (refine tri_exit ?_)
      | (refine tri_step (id := 5) (C := ⟨[3], [17], [(10, (11, 0, 0)), (11, (12, 0, 0)), (12, (13, 0, 0)), (57, (28, 0, 0))]⟩) [2, 7, 28, 29, 30, 31] [(28, 0, 0)] g8 nodraw ?_; refine ⟨_, by (simp [*, F11, F16, F12, F17, F23, F26, F27, F21, undef, flg]; exact Is.mk), ?_⟩)
      | (refine tri_step (id := 9) (C := ⟨[3], [17], [(10, (11, 0, 0)), (11, (12, 0, 0)), (12, (13, 0, 0)), (57, (28, 0, 0))]⟩) [2, 7, 10] [(11, 0, 0), (28, 0, 0)] g8 nodraw ?_; refine ⟨_, by (simp [*, F11, F16, F12, F17, F23, F26, F27, F21, undef, flg]; exact Is.mk), ?_⟩)
      | (refine tri_step (id := 10) (C := ⟨[3], [17], [(10, (11, 0, 0)), (11, (12, 0, 0)), (12, (13, 0, 0)), (57, (28, 0, 0))]⟩) [2, 7, 10, 11] [(11, 0, 0), (12, 0, 0), (28, 0, 0)] g8 nodraw ?_; refine ⟨_, by (simp [*, F11, F16, F12, F17, F23, F26, F27, F21, undef, flg]; exact Is.mk), ?_⟩)
      | (refine tri_seq ?_)
      ))
      obtain ⟨S, hS⟩ : ∃ S : Seg, S = resetSeg t.c0 off := ⟨_, rfl⟩
      refine tri_weak (le_eq (Le.refl _) (show _ = mkSt [(2, .v (.int .i64 off)), (7, .ptr (28,0,0) 0), (10, .ptr (11,0,0) 0), (11, .ptr (12,0,0) 0)] [((11,0,0), connCells t.c0), ((12,0,0), segCells S), ((28,0,0), talkCells t)] by rw [hS]; rfl)) ?_
      rw [← hS] at hh hz
      have hRS : IsReset S t.c0 off := hS
      clear hS
      obtain ⟨z1, z2⟩ := hz
      rcases z2 with ⟨z2, z3⟩ | ⟨z2, z3, z4⟩ | ⟨z2, z3, z4⟩ | ⟨z2, z3, z4, z5⟩ | ⟨z2, z3, z4, z5⟩ | ⟨z2, z3, z4, z5⟩
      all_goals (clear hc hr0 hr1 hi hlt)
      · all_goals (repeat' (first
      | (refine tri_condF (b_true (by simp; with_reducible exact IsB.mk)) ?_)
      | (refine tri_skipT ?_)
      | (refine th_n ?_)
      | (refine tri_last (id := 11) (C := ⟨[3], [17], [(10, (11, 0, 0)), (11, (12, 0, 0)), (12, (13, 0, 0)), (57, (28, 0, 0))]⟩) [2, 10, 11, 12, 13] [(11, 0, 0), (12, 0, 0), (13, 0, 0)] g8 (fun _ => ⟨q_mixed, by kernel_rfl⟩) ?_; refine ⟨_, by (simp [*, F11, F16, F12, F17, F23, F26, F27, F21, undef, flg]; exact Is.mk), ?_⟩)
      | (refine tri_step (id := 12) (C := ⟨[3], [17], [(10, (11, 0, 0)), (11, (12, 0, 0)), (12, (13, 0, 0)), (57, (28, 0, 0))]⟩) [2, 10, 11, 12, 13, 14] [(11, 0, 0), (12, 0, 0), (13, 0, 0)] g8 nodraw ?_; refine ⟨_, by (simp [*, F11, F16, F12, F17, F23, F26, F27, F21, undef, flg]; exact Is.mk), ?_⟩)
      | (refine tri_step (id := 13) (C := ⟨[3], [17], [(10, (11, 0, 0)), (11, (12, 0, 0)), (12, (13, 0, 0)), (57, (28, 0, 0))]⟩) [2, 10, 11, 12, 13, 14, 15] [(11, 0, 0), (12, 0, 0), (13, 0, 0)] g8 nodraw ?_; refine ⟨_, by (simp [*, F11, F16, F12, F17, F23, F26, F27, F21, undef, flg]; exact Is.mk), ?_⟩)
      | (refine tri_step (id := 14) (C := ⟨[3], [17], [(10, (11, 0, 0)), (11, (12, 0, 0)), (12, (13, 0, 0)), (57, (28, 0, 0))]⟩) [2, 10, 11, 12, 13, 15, 80] [(11, 0, 0), (12, 0, 0), (13, 0, 0)] g8 nodraw ?_; refine ⟨_, by (simp [*, F11, F16, F12, F17, F23, F26, F27, F21, undef, flg]; exact Is.mk), ?_⟩)
      | (refine tri_seq ?_)
      ))
        refine tri_pairL (id := 16) (C := ⟨[3], [17], [(10, (11, 0, 0)), (11, (12, 0, 0)), (12, (13, 0, 0)), (57, (28, 0, 0))]⟩) [10, 11, 12, 13, 15] [(11, 0, 0), (12, 0, 0), (13, 0, 0)] g8 3 84 85 24 5 [97, 98] rfl rfl rfl rfl rfl rfl rfl (Nat.le_of_ble_eq_true rfl) (Nat.le_of_ble_eq_true rfl) (by kernel_rfl) (by kernel_rfl) (run_bytes [97, 98] (z := .int .u8 0) rfl (by kernel_rfl) (by kernel_rfl) (by kernel_rfl) (by decide) (by decide) (fun g hg => by simp only [List.map_toArray, List.map_cons, List.map_nil, hg]; kernel_rfl)) (by simp [*, undef]; exact Is.mk) (by simp [*, undef]; exact Is.mk) (by simp [*, undef]; exact Is.mk) ?_
        refine th_n ?_
        obtain ⟨S2, hS2⟩ : ∃ S2 : Seg, S2 = { S with flags := bAnd .u8 (IntKind.u8.wrap off) 31, data := [97, 98] } := ⟨_, rfl⟩
        refine tri_weak (le_eq (Le.refl _) (show _ = mkSt [(10, .ptr (11,0,0) 0), (11, .ptr (12,0,0) 0), (12, .ptr (13,0,0) 0), (13, .sl 8 [] none), (15, .v (.int .i64 t.c0.phase))] [((11,0,0), connCells t.c0), ((12,0,0), segCells S2), ((13,0,0), connCells (hear t.c0 S t.now).conn)] by rw [hS2]; rfl)) ?_
        have hR : RefOk S2 off := refOk_is hRS hS2
        clear hS2 hRS
        rcases told_cases (bAnd .u8 S2.flags 16 == 0) with p7 | p7
        · all_goals (repeat' (first
      | (refine tri_condT (b_true (by simp; with_reducible exact IsB.mk)) ?_)
      | (refine th_n ?_)
      | (refine tri_step (id := 17) (C := ⟨[3], [17], [(10, (11, 0, 0)), (11, (12, 0, 0)), (12, (13, 0, 0)), (57, (28, 0, 0))]⟩) [10, 11, 12, 13, 15, 16] [(11, 0, 0), (12, 0, 0), (13, 0, 0), (17, 0, 0)] g8 nodraw ?_; refine ⟨_, by (simp [*, F11, F16, F12, F17, F23, F26, F27, F21, undef, flg]; exact Is.mk), ?_⟩)
      | (refine tri_step (id := 18) (C := ⟨[3], [17], [(10, (11, 0, 0)), (11, (12, 0, 0)), (12, (13, 0, 0)), (57, (28, 0, 0))]⟩) [10, 11, 12, 13, 15, 16, 17] [(11, 0, 0), (12, 0, 0), (13, 0, 0), (17, 0, 0), (18, 0, 0)] g8 nodraw ?_; refine ⟨_, by (simp [*, F11, F16, F12, F17, F23, F26, F27, F21, undef, flg]; exact Is.mk), ?_⟩)
      | (refine tri_step (id := 19) (C := ⟨[3], [17], [(10, (11, 0, 0)), (11, (12, 0, 0)), (12, (13, 0, 0)), (57, (28, 0, 0))]⟩) [10, 11, 12, 13, 15, 16, 17, 96] [(11, 0, 0), (12, 0, 0), (13, 0, 0), (17, 0, 0), (18, 0, 0)] g8 nodraw ?_; refine ⟨_, by (simp [*, F11, F16, F12, F17, F23, F26, F27, F21, undef, flg]; exact Is.mk), ?_⟩)
      | (refine tri_last (id := 20) (C := ⟨[3], [17], [(10, (11, 0, 0)), (11, (12, 0, 0)), (12, (13, 0, 0)), (57, (28, 0, 0))]⟩) [10, 12, 13, 15, 16, 17] [(11, 0, 0), (13, 0, 0), (17, 0, 0), (18, 0, 0)] g8 nodraw ?_; refine ⟨_, by (simp [*, F11, F16, F12, F17, F23, F26, F27, F21, undef, flg]; exact Is.mk), ?_⟩)
      | (refine tri_seq ?_)
      ))
          refine tri_weak (le_eq (Le.refl _) (show _ = mkSt [(10, .ptr (11,0,0) 0), (12, .ptr (13,0,0) 0), (13, .sl 8 [] none), (15, .v (.int .i64 t.c0.phase)), (16, .ptr (17,0,0) 0), (17, .ptr (18,0,0) 0)] [((11,0,0), connCells t.c0), ((13,0,0), connCells (hear t.c0 S t.now).conn), ((17,0,0), segCells (refuse S2)), ((18,0,0), segCells (refuse S2))] by rw [refuse_no hR p7]; rfl)) ?_
          clear hR p7
          all_goals (repeat' (first
      | (refine th_n ?_)
      | (refine tri_ret ?_)
      | (refine tri_last (id := 21) (C := ⟨[3], [17], [(10, (11, 0, 0)), (11, (12, 0, 0)), (12, (13, 0, 0)), (57, (28, 0, 0))]⟩) [6] [] g8 nodraw ?_; refine ⟨_, by (simp [*, F11, F16, F12, F17, F23, F26, F27, F21, undef, flg]; exact Is.mk), ?_⟩)
      ))
          all_goals (refine post_plainV (P := Try.prog) (fn := Try.f8) (by simp; exact IsV.mk) rfl ?_)
          all_goals (first | (simp [F11, F16, F12, F17, F23, F26, F27, F21, undef, flg]; done) | (simp [*, F11, F16, F12, F17, F23, F26, F27, F21, undef, flg]; done) | (simp_all [F11, F16, F12, F17, F23, F26, F27, F21, undef, flg]; done) | (simp [F11, F16, F12, F17, F23, F26, F27, F21, undef, flg] <;> (repeat' split) <;> simp_all; done) | (simp [F11, F16, F12, F17, F23, F26, F27, F21, undef, flg] <;> (repeat' split) <;> simp_all [Bool.and_assoc] <;> grind [List.length_eq_zero_iff, sendCells_co, recvCells_co, pieceCells_co, connCells_co, segCells_co, clockCells_co]))
        · all_goals (repeat' (first
      | (refine tri_condF (b_true (by simp; with_reducible exact IsB.mk)) ?_)
      | (refine tri_skipT ?_)
      | (refine tri_step (id := 17) (C := ⟨[3], [17], [(10, (11, 0, 0)), (11, (12, 0, 0)), (12, (13, 0, 0)), (57, (28, 0, 0))]⟩) [10, 11, 12, 13, 15, 16] [(11, 0, 0), (12, 0, 0), (13, 0, 0), (17, 0, 0)] g8 nodraw ?_; refine ⟨_, by (simp [*, F11, F16, F12, F17, F23, F26, F27, F21, undef, flg]; exact Is.mk), ?_⟩)
      | (refine tri_step (id := 18) (C := ⟨[3], [17], [(10, (11, 0, 0)), (11, (12, 0, 0)), (12, (13, 0, 0)), (57, (28, 0, 0))]⟩) [10, 11, 12, 13, 15, 16, 17] [(11, 0, 0), (12, 0, 0), (13, 0, 0), (17, 0, 0), (18, 0, 0)] g8 nodraw ?_; refine ⟨_, by (simp [*, F11, F16, F12, F17, F23, F26, F27, F21, undef, flg]; exact Is.mk), ?_⟩)
      | (refine tri_step (id := 19) (C := ⟨[3], [17], [(10, (11, 0, 0)), (11, (12, 0, 0)), (12, (13, 0, 0)), (57, (28, 0, 0))]⟩) [10, 11, 12, 13, 15, 16, 17, 96] [(11, 0, 0), (12, 0, 0), (13, 0, 0), (17, 0, 0), (18, 0, 0)] g8 nodraw ?_; refine ⟨_, by (simp [*, F11, F16, F12, F17, F23, F26, F27, F21, undef, flg]; exact Is.mk), ?_⟩)
      | (refine tri_seq ?_)
      ))
          refine tri_weak (le_eq (Le.refl _) (show _ = mkSt [(10, .ptr (11,0,0) 0), (11, .ptr (12,0,0) 0), (12, .ptr (13,0,0) 0), (13, .sl 8 [] none), (15, .v (.int .i64 t.c0.phase)), (16, .ptr (17,0,0) 0), (17, .ptr (18,0,0) 0), (96, .v (.bool false))] [((11,0,0), connCells t.c0), ((12,0,0), segCells S2), ((13,0,0), connCells (hear t.c0 S t.now).conn), ((17,0,0), segCells (refuse S2)), ((18,0,0), segCells (refuse S2))] by rw [refuse_ack hR p7]; rfl)) ?_
          clear hR p7
          all_goals (repeat' (first
      | (refine th_n ?_)
      | (refine tri_ret ?_)
      | (refine tri_last (id := 21) (C := ⟨[3], [17], [(10, (11, 0, 0)), (11, (12, 0, 0)), (12, (13, 0, 0)), (57, (28, 0, 0))]⟩) [6] [] g8 nodraw ?_; refine ⟨_, by (simp [*, F11, F16, F12, F17, F23, F26, F27, F21, undef, flg]; exact Is.mk), ?_⟩)
      ))
          all_goals (refine post_plainV (P := Try.prog) (fn := Try.f8) (by simp; exact IsV.mk) rfl ?_)
          all_goals (first | (simp [F11, F16, F12, F17, F23, F26, F27, F21, undef, flg]; done) | (simp [*, F11, F16, F12, F17, F23, F26, F27, F21, undef, flg]; done) | (simp_all [F11, F16, F12, F17, F23, F26, F27, F21, undef, flg]; done) | (simp [F11, F16, F12, F17, F23, F26, F27, F21, undef, flg] <;> (repeat' split) <;> simp_all; done) | (simp [F11, F16, F12, F17, F23, F26, F27, F21, undef, flg] <;> (repeat' split) <;> simp_all [Bool.and_assoc] <;> grind [List.length_eq_zero_iff, sendCells_co, recvCells_co, pieceCells_co, connCells_co, segCells_co, clockCells_co]))
      · all_goals (repeat' (first
      | (refine tri_condT (b_true (by simp; with_reducible exact IsB.mk)) ?_)
      | (refine th_n ?_)
      | (refine tri_last (id := 11) (C := ⟨[3], [17], [(10, (11, 0, 0)), (11, (12, 0, 0)), (12, (13, 0, 0)), (57, (28, 0, 0))]⟩) [2, 10, 11, 12, 13] [(11, 0, 0), (12, 0, 0), (13, 0, 0)] g8 (fun _ => ⟨q_mixed, by kernel_rfl⟩) ?_; refine ⟨_, by (simp [*, F11, F16, F12, F17, F23, F26, F27, F21, undef, flg]; exact Is.mk), ?_⟩)
      | (refine tri_step (id := 12) (C := ⟨[3], [17], [(10, (11, 0, 0)), (11, (12, 0, 0)), (12, (13, 0, 0)), (57, (28, 0, 0))]⟩) [2, 10, 11, 12, 13, 14] [(11, 0, 0), (12, 0, 0), (13, 0, 0)] g8 nodraw ?_; refine ⟨_, by (simp [*, F11, F16, F12, F17, F23, F26, F27, F21, undef, flg]; exact Is.mk), ?_⟩)
      | (refine tri_step (id := 13) (C := ⟨[3], [17], [(10, (11, 0, 0)), (11, (12, 0, 0)), (12, (13, 0, 0)), (57, (28, 0, 0))]⟩) [2, 10, 11, 12, 13, 14, 15] [(11, 0, 0), (12, 0, 0), (13, 0, 0)] g8 nodraw ?_; refine ⟨_, by (simp [*, F11, F16, F12, F17, F23, F26, F27, F21, undef, flg]; exact Is.mk), ?_⟩)
      | (refine tri_step (id := 14) (C := ⟨[3], [17], [(10, (11, 0, 0)), (11, (12, 0, 0)), (12, (13, 0, 0)), (57, (28, 0, 0))]⟩) [2, 10, 11, 12, 13, 15, 80] [(11, 0, 0), (12, 0, 0), (13, 0, 0)] g8 nodraw ?_; refine ⟨_, by (simp [*, F11, F16, F12, F17, F23, F26, F27, F21, undef, flg]; exact Is.mk), ?_⟩)
      | (refine tri_last (id := 15) (C := ⟨[3], [17], [(10, (11, 0, 0)), (11, (12, 0, 0)), (12, (13, 0, 0)), (57, (28, 0, 0))]⟩) [2, 10, 11, 12, 13, 15] [(11, 0, 0), (12, 0, 0), (13, 0, 0)] g8 nodraw ?_; refine ⟨_, by (simp [*, F11, F16, F12, F17, F23, F26, F27, F21, undef, flg]; exact Is.mk), ?_⟩)
      | (refine tri_seq ?_)
      ))
        refine tri_pairL (id := 16) (C := ⟨[3], [17], [(10, (11, 0, 0)), (11, (12, 0, 0)), (12, (13, 0, 0)), (57, (28, 0, 0))]⟩) [10, 11, 12, 13, 15] [(11, 0, 0), (12, 0, 0), (13, 0, 0)] g8 3 84 85 24 5 [97, 98] rfl rfl rfl rfl rfl rfl rfl (Nat.le_of_ble_eq_true rfl) (Nat.le_of_ble_eq_true rfl) (by kernel_rfl) (by kernel_rfl) (run_bytes [97, 98] (z := .int .u8 0) rfl (by kernel_rfl) (by kernel_rfl) (by kernel_rfl) (by decide) (by decide) (fun g hg => by simp only [List.map_toArray, List.map_cons, List.map_nil, hg]; kernel_rfl)) (by simp [*, undef]; exact Is.mk) (by simp [*, undef]; exact Is.mk) (by simp [*, undef]; exact Is.mk) ?_
        refine th_n ?_
        obtain ⟨S2, hS2⟩ : ∃ S2 : Seg, S2 = { S with flags := bAnd .u8 (IntKind.u8.wrap off) 31, data := [97, 98] } := ⟨_, rfl⟩
        refine tri_weak (le_eq (Le.refl _) (show _ = mkSt [(10, .ptr (11,0,0) 0), (11, .ptr (12,0,0) 0), (12, .ptr (13,0,0) 0), (13, .sl 8 [] none), (15, .v (.int .i64 0))] [((11,0,0), connCells t.c0), ((12,0,0), segCells S2), ((13,0,0), connCells (hear t.c0 S t.now).conn)] by rw [hS2]; rfl)) ?_
        have hR : RefOk S2 off := refOk_is hRS hS2
        clear hS2 hRS
        rcases told_cases (bAnd .u8 S2.flags 16 == 0) with p7 | p7
        · all_goals (repeat' (first
      | (refine tri_condT (b_true (by simp; with_reducible exact IsB.mk)) ?_)
      | (refine th_n ?_)
      | (refine tri_step (id := 17) (C := ⟨[3], [17], [(10, (11, 0, 0)), (11, (12, 0, 0)), (12, (13, 0, 0)), (57, (28, 0, 0))]⟩) [10, 11, 12, 13, 15, 16] [(11, 0, 0), (12, 0, 0), (13, 0, 0), (17, 0, 0)] g8 nodraw ?_; refine ⟨_, by (simp [*, F11, F16, F12, F17, F23, F26, F27, F21, undef, flg]; exact Is.mk), ?_⟩)
      | (refine tri_step (id := 18) (C := ⟨[3], [17], [(10, (11, 0, 0)), (11, (12, 0, 0)), (12, (13, 0, 0)), (57, (28, 0, 0))]⟩) [10, 11, 12, 13, 15, 16, 17] [(11, 0, 0), (12, 0, 0), (13, 0, 0), (17, 0, 0), (18, 0, 0)] g8 nodraw ?_; refine ⟨_, by (simp [*, F11, F16, F12, F17, F23, F26, F27, F21, undef, flg]; exact Is.mk), ?_⟩)
      | (refine tri_step (id := 19) (C := ⟨[3], [17], [(10, (11, 0, 0)), (11, (12, 0, 0)), (12, (13, 0, 0)), (57, (28, 0, 0))]⟩) [10, 11, 12, 13, 15, 16, 17, 96] [(11, 0, 0), (12, 0, 0), (13, 0, 0), (17, 0, 0), (18, 0, 0)] g8 nodraw ?_; refine ⟨_, by (simp [*, F11, F16, F12, F17, F23, F26, F27, F21, undef, flg]; exact Is.mk), ?_⟩)
      | (refine tri_last (id := 20) (C := ⟨[3], [17], [(10, (11, 0, 0)), (11, (12, 0, 0)), (12, (13, 0, 0)), (57, (28, 0, 0))]⟩) [10, 12, 13, 15, 16, 17] [(11, 0, 0), (13, 0, 0), (17, 0, 0), (18, 0, 0)] g8 nodraw ?_; refine ⟨_, by (simp [*, F11, F16, F12, F17, F23, F26, F27, F21, undef, flg]; exact Is.mk), ?_⟩)
      | (refine tri_seq ?_)
      ))
          refine tri_weak (le_eq (Le.refl _) (show _ = mkSt [(10, .ptr (11,0,0) 0), (12, .ptr (13,0,0) 0), (13, .sl 8 [] none), (15, .v (.int .i64 0)), (16, .ptr (17,0,0) 0), (17, .ptr (18,0,0) 0)] [((11,0,0), connCells t.c0), ((13,0,0), connCells (hear t.c0 S t.now).conn), ((17,0,0), segCells (refuse S2)), ((18,0,0), segCells (refuse S2))] by rw [refuse_no hR p7]; rfl)) ?_
          clear hR p7
          all_goals (repeat' (first
      | (refine th_n ?_)
      | (refine tri_ret ?_)
      | (refine tri_last (id := 21) (C := ⟨[3], [17], [(10, (11, 0, 0)), (11, (12, 0, 0)), (12, (13, 0, 0)), (57, (28, 0, 0))]⟩) [6] [] g8 nodraw ?_; refine ⟨_, by (simp [*, F11, F16, F12, F17, F23, F26, F27, F21, undef, flg]; exact Is.mk), ?_⟩)
      ))
          all_goals (refine post_plainV (P := Try.prog) (fn := Try.f8) (by simp; exact IsV.mk) rfl ?_)
          all_goals (first | (simp [F11, F16, F12, F17, F23, F26, F27, F21, undef, flg]; done) | (simp [*, F11, F16, F12, F17, F23, F26, F27, F21, undef, flg]; done) | (simp_all [F11, F16, F12, F17, F23, F26, F27, F21, undef, flg]; done) | (simp [F11, F16, F12, F17, F23, F26, F27, F21, undef, flg] <;> (repeat' split) <;> simp_all; done) | (simp [F11, F16, F12, F17, F23, F26, F27, F21, undef, flg] <;> (repeat' split) <;> simp_all [Bool.and_assoc] <;> grind [List.length_eq_zero_iff, sendCells_co, recvCells_co, pieceCells_co, connCells_co, segCells_co, clockCells_co]))
        · all_goals (repeat' (first
      | (refine tri_condF (b_true (by simp; with_reducible exact IsB.mk)) ?_)
      | (refine tri_skipT ?_)
      | (refine tri_step (id := 17) (C := ⟨[3], [17], [(10, (11, 0, 0)), (11, (12, 0, 0)), (12, (13, 0, 0)), (57, (28, 0, 0))]⟩) [10, 11, 12, 13, 15, 16] [(11, 0, 0), (12, 0, 0), (13, 0, 0), (17, 0, 0)] g8 nodraw ?_; refine ⟨_, by (simp [*, F11, F16, F12, F17, F23, F26, F27, F21, undef, flg]; exact Is.mk), ?_⟩)
      | (refine tri_step (id := 18) (C := ⟨[3], [17], [(10, (11, 0, 0)), (11, (12, 0, 0)), (12, (13, 0, 0)), (57, (28, 0, 0))]⟩) [10, 11, 12, 13, 15, 16, 17] [(11, 0, 0), (12, 0, 0), (13, 0, 0), (17, 0, 0), (18, 0, 0)] g8 nodraw ?_; refine ⟨_, by (simp [*, F11, F16, F12, F17, F23, F26, F27, F21, undef, flg]; exact Is.mk), ?_⟩)
      | (refine tri_step (id := 19) (C := ⟨[3], [17], [(10, (11, 0, 0)), (11, (12, 0, 0)), (12, (13, 0, 0)), (57, (28, 0, 0))]⟩) [10, 11, 12, 13, 15, 16, 17, 96] [(11, 0, 0), (12, 0, 0), (13, 0, 0), (17, 0, 0), (18, 0, 0)] g8 nodraw ?_; refine ⟨_, by (simp [*, F11, F16, F12, F17, F23, F26, F27, F21, undef, flg]; exact Is.mk), ?_⟩)
      | (refine tri_seq ?_)
      ))
          refine tri_weak (le_eq (Le.refl _) (show _ = mkSt [(10, .ptr (11,0,0) 0), (11, .ptr (12,0,0) 0), (12, .ptr (13,0,0) 0), (13, .sl 8 [] none), (15, .v (.int .i64 0)), (16, .ptr (17,0,0) 0), (17, .ptr (18,0,0) 0), (96, .v (.bool false))] [((11,0,0), connCells t.c0), ((12,0,0), segCells S2), ((13,0,0), connCells (hear t.c0 S t.now).conn), ((17,0,0), segCells (refuse S2)), ((18,0,0), segCells (refuse S2))] by rw [refuse_ack hR p7]; rfl)) ?_
          clear hR p7
          all_goals (repeat' (first
      | (refine th_n ?_)
      | (refine tri_ret ?_)
      | (refine tri_last (id := 21) (C := ⟨[3], [17], [(10, (11, 0, 0)), (11, (12, 0, 0)), (12, (13, 0, 0)), (57, (28, 0, 0))]⟩) [6] [] g8 nodraw ?_; refine ⟨_, by (simp [*, F11, F16, F12, F17, F23, F26, F27, F21, undef, flg]; exact Is.mk), ?_⟩)
      ))
          all_goals (refine post_plainV (P := Try.prog) (fn := Try.f8) (by simp; exact IsV.mk) rfl ?_)
          all_goals (first | (simp [F11, F16, F12, F17, F23, F26, F27, F21, undef, flg]; done) | (simp [*, F11, F16, F12, F17, F23, F26, F27, F21, undef, flg]; done) | (simp_all [F11, F16, F12, F17, F23, F26, F27, F21, undef, flg]; done) | (simp [F11, F16, F12, F17, F23, F26, F27, F21, undef, flg] <;> (repeat' split) <;> simp_all; done) | (simp [F11, F16, F12, F17, F23, F26, F27, F21, undef, flg] <;> (repeat' split) <;> simp_all [Bool.and_assoc] <;> grind [List.length_eq_zero_iff, sendCells_co, recvCells_co, pieceCells_co, connCells_co, segCells_co, clockCells_co]))
      · all_goals (repeat' (first
      | (refine tri_condF (b_true (by simp; with_reducible exact IsB.mk)) ?_)
      | (refine tri_skipT ?_)
      | (refine th_n ?_)
      | (refine tri_last (id := 11) (C := ⟨[3], [17], [(10, (11, 0, 0)), (11, (12, 0, 0)), (12, (13, 0, 0)), (57, (28, 0, 0))]⟩) [2, 10, 11, 12, 13] [(11, 0, 0), (12, 0, 0), (13, 0, 0)] g8 (fun _ => ⟨q_mixed, by kernel_rfl⟩) ?_; refine ⟨_, by (simp [*, F11, F16, F12, F17, F23, F26, F27, F21, undef, flg]; exact Is.mk), ?_⟩)
      | (refine tri_step (id := 12) (C := ⟨[3], [17], [(10, (11, 0, 0)), (11, (12, 0, 0)), (12, (13, 0, 0)), (57, (28, 0, 0))]⟩) [2, 10, 11, 12, 13, 14] [(11, 0, 0), (12, 0, 0), (13, 0, 0)] g8 nodraw ?_; refine ⟨_, by (simp [*, F11, F16, F12, F17, F23, F26, F27, F21, undef, flg]; exact Is.mk), ?_⟩)
      | (refine tri_step (id := 13) (C := ⟨[3], [17], [(10, (11, 0, 0)), (11, (12, 0, 0)), (12, (13, 0, 0)), (57, (28, 0, 0))]⟩) [2, 10, 11, 12, 13, 14, 15] [(11, 0, 0), (12, 0, 0), (13, 0, 0)] g8 nodraw ?_; refine ⟨_, by (simp [*, F11, F16, F12, F17, F23, F26, F27, F21, undef, flg]; exact Is.mk), ?_⟩)
      | (refine tri_step (id := 14) (C := ⟨[3], [17], [(10, (11, 0, 0)), (11, (12, 0, 0)), (12, (13, 0, 0)), (57, (28, 0, 0))]⟩) [2, 10, 11, 12, 13, 15, 80] [(11, 0, 0), (12, 0, 0), (13, 0, 0)] g8 nodraw ?_; refine ⟨_, by (simp [*, F11, F16, F12, F17, F23, F26, F27, F21, undef, flg]; exact Is.mk), ?_⟩)
      | (refine tri_seq ?_)
      ))
        refine tri_pairL (id := 16) (C := ⟨[3], [17], [(10, (11, 0, 0)), (11, (12, 0, 0)), (12, (13, 0, 0)), (57, (28, 0, 0))]⟩) [10, 11, 12, 13, 15] [(11, 0, 0), (12, 0, 0), (13, 0, 0)] g8 3 84 85 24 5 [97, 98] rfl rfl rfl rfl rfl rfl rfl (Nat.le_of_ble_eq_true rfl) (Nat.le_of_ble_eq_true rfl) (by kernel_rfl) (by kernel_rfl) (run_bytes [97, 98] (z := .int .u8 0) rfl (by kernel_rfl) (by kernel_rfl) (by kernel_rfl) (by decide) (by decide) (fun g hg => by simp only [List.map_toArray, List.map_cons, List.map_nil, hg]; kernel_rfl)) (by simp [*, undef]; exact Is.mk) (by simp [*, undef]; exact Is.mk) (by simp [*, undef]; exact Is.mk) ?_
        refine th_n ?_
        obtain ⟨S2, hS2⟩ : ∃ S2 : Seg, S2 = { S with flags := bAnd .u8 (IntKind.u8.wrap off) 31, data := [97, 98] } := ⟨_, rfl⟩
        refine tri_weak (le_eq (Le.refl _) (show _ = mkSt [(10, .ptr (11,0,0) 0), (11, .ptr (12,0,0) 0), (12, .ptr (13,0,0) 0), (13, .sl 8 [] none), (15, .v (.int .i64 1))] [((11,0,0), connCells t.c0), ((12,0,0), segCells S2), ((13,0,0), connCells (hear t.c0 S t.now).conn)] by rw [hS2]; rfl)) ?_
        have hR : RefOk S2 off := refOk_is hRS hS2
        clear hS2 hRS
        rcases told_cases (bAnd .u8 S2.flags 16 == 0) with p7 | p7
        · all_goals (repeat' (first
      | (refine tri_condT (b_true (by simp; with_reducible exact IsB.mk)) ?_)
      | (refine th_n ?_)
      | (refine tri_step (id := 17) (C := ⟨[3], [17], [(10, (11, 0, 0)), (11, (12, 0, 0)), (12, (13, 0, 0)), (57, (28, 0, 0))]⟩) [10, 11, 12, 13, 15, 16] [(11, 0, 0), (12, 0, 0), (13, 0, 0), (17, 0, 0)] g8 nodraw ?_; refine ⟨_, by (simp [*, F11, F16, F12, F17, F23, F26, F27, F21, undef, flg]; exact Is.mk), ?_⟩)
      | (refine tri_step (id := 18) (C := ⟨[3], [17], [(10, (11, 0, 0)), (11, (12, 0, 0)), (12, (13, 0, 0)), (57, (28, 0, 0))]⟩) [10, 11, 12, 13, 15, 16, 17] [(11, 0, 0), (12, 0, 0), (13, 0, 0), (17, 0, 0), (18, 0, 0)] g8 nodraw ?_; refine ⟨_, by (simp [*, F11, F16, F12, F17, F23, F26, F27, F21, undef, flg]; exact Is.mk), ?_⟩)
      | (refine tri_step (id := 19) (C := ⟨[3], [17], [(10, (11, 0, 0)), (11, (12, 0, 0)), (12, (13, 0, 0)), (57, (28, 0, 0))]⟩) [10, 11, 12, 13, 15, 16, 17, 96] [(11, 0, 0), (12, 0, 0), (13, 0, 0), (17, 0, 0), (18, 0, 0)] g8 nodraw ?_; refine ⟨_, by (simp [*, F11, F16, F12, F17, F23, F26, F27, F21, undef, flg]; exact Is.mk), ?_⟩)
      | (refine tri_last (id := 20) (C := ⟨[3], [17], [(10, (11, 0, 0)), (11, (12, 0, 0)), (12, (13, 0, 0)), (57, (28, 0, 0))]⟩) [10, 12, 13, 15, 16, 17] [(11, 0, 0), (13, 0, 0), (17, 0, 0), (18, 0, 0)] g8 nodraw ?_; refine ⟨_, by (simp [*, F11, F16, F12, F17, F23, F26, F27, F21, undef, flg]; exact Is.mk), ?_⟩)
      | (refine tri_seq ?_)
      ))
          refine tri_weak (le_eq (Le.refl _) (show _ = mkSt [(10, .ptr (11,0,0) 0), (12, .ptr (13,0,0) 0), (13, .sl 8 [] none), (15, .v (.int .i64 1)), (16, .ptr (17,0,0) 0), (17, .ptr (18,0,0) 0)] [((11,0,0), connCells t.c0), ((13,0,0), connCells (hear t.c0 S t.now).conn), ((17,0,0), segCells (refuse S2)), ((18,0,0), segCells (refuse S2))] by rw [refuse_no hR p7]; rfl)) ?_
          clear hR p7
          all_goals (repeat' (first
      | (refine th_n ?_)
      | (refine tri_ret ?_)
      | (refine tri_last (id := 21) (C := ⟨[3], [17], [(10, (11, 0, 0)), (11, (12, 0, 0)), (12, (13, 0, 0)), (57, (28, 0, 0))]⟩) [6] [] g8 nodraw ?_; refine ⟨_, by (simp [*, F11, F16, F12, F17, F23, F26, F27, F21, undef, flg]; exact Is.mk), ?_⟩)
      ))
          all_goals (refine post_plainV (P := Try.prog) (fn := Try.f8) (by simp; exact IsV.mk) rfl ?_)
          all_goals (first | (simp [F11, F16, F12, F17, F23, F26, F27, F21, undef, flg]; done) | (simp [*, F11, F16, F12, F17, F23, F26, F27, F21, undef, flg]; done) | (simp_all [F11, F16, F12, F17, F23, F26, F27, F21, undef, flg]; done) | (simp [F11, F16, F12, F17, F23, F26, F27, F21, undef, flg] <;> (repeat' split) <;> simp_all; done) | (simp [F11, F16, F12, F17, F23, F26, F27, F21, undef, flg] <;> (repeat' split) <;> simp_all [Bool.and_assoc] <;> grind [List.length_eq_zero_iff, sendCells_co, recvCells_co, pieceCells_co, connCells_co, segCells_co, clockCells_co]))
        · all_goals (repeat' (first
      | (refine tri_condF (b_true (by simp; with_reducible exact IsB.mk)) ?_)
      | (refine tri_skipT ?_)
      | (refine tri_step (id := 17) (C := ⟨[3], [17], [(10, (11, 0, 0)), (11, (12, 0, 0)), (12, (13, 0, 0)), (57, (28, 0, 0))]⟩) [10, 11, 12, 13, 15, 16] [(11, 0, 0), (12, 0, 0), (13, 0, 0), (17, 0, 0)] g8 nodraw ?_; refine ⟨_, by (simp [*, F11, F16, F12, F17, F23, F26, F27, F21, undef, flg]; exact Is.mk), ?_⟩)
      | (refine tri_step (id := 18) (C := ⟨[3], [17], [(10, (11, 0, 0)), (11, (12, 0, 0)), (12, (13, 0, 0)), (57, (28, 0, 0))]⟩) [10, 11, 12, 13, 15, 16, 17] [(11, 0, 0), (12, 0, 0), (13, 0, 0), (17, 0, 0), (18, 0, 0)] g8 nodraw ?_; refine ⟨_, by (simp [*, F11, F16, F12, F17, F23, F26, F27, F21, undef, flg]; exact Is.mk), ?_⟩)
      | (refine tri_step (id := 19) (C := ⟨[3], [17], [(10, (11, 0, 0)), (11, (12, 0, 0)), (12, (13, 0, 0)), (57, (28, 0, 0))]⟩) [10, 11, 12, 13, 15, 16, 17, 96] [(11, 0, 0), (12, 0, 0), (13, 0, 0), (17, 0, 0), (18, 0, 0)] g8 nodraw ?_; refine ⟨_, by (simp [*, F11, F16, F12, F17, F23, F26, F27, F21, undef, flg]; exact Is.mk), ?_⟩)
      | (refine tri_seq ?_)
      ))
          refine tri_weak (le_eq (Le.refl _) (show _ = mkSt [(10, .ptr (11,0,0) 0), (11, .ptr (12,0,0) 0), (12, .ptr (13,0,0) 0), (13, .sl 8 [] none), (15, .v (.int .i64 1)), (16, .ptr (17,0,0) 0), (17, .ptr (18,0,0) 0), (96, .v (.bool false))] [((11,0,0), connCells t.c0), ((12,0,0), segCells S2), ((13,0,0), connCells (hear t.c0 S t.now).conn), ((17,0,0), segCells (refuse S2)), ((18,0,0), segCells (refuse S2))] by rw [refuse_ack hR p7]; rfl)) ?_
          clear hR p7
          all_goals (repeat' (first
      | (refine th_n ?_)
      | (refine tri_ret ?_)
      | (refine tri_last (id := 21) (C := ⟨[3], [17], [(10, (11, 0, 0)), (11, (12, 0, 0)), (12, (13, 0, 0)), (57, (28, 0, 0))]⟩) [6] [] g8 nodraw ?_; refine ⟨_, by (simp [*, F11, F16, F12, F17, F23, F26, F27, F21, undef, flg]; exact Is.mk), ?_⟩)
      ))
          all_goals (refine post_plainV (P := Try.prog) (fn := Try.f8) (by simp; exact IsV.mk) rfl ?_)
          all_goals (first | (simp [F11, F16, F12, F17, F23, F26, F27, F21, undef, flg]; done) | (simp [*, F11, F16, F12, F17, F23, F26, F27, F21, undef, flg]; done) | (simp_all [F11, F16, F12, F17, F23, F26, F27, F21, undef, flg]; done) | (simp [F11, F16, F12, F17, F23, F26, F27, F21, undef, flg] <;> (repeat' split) <;> simp_all; done) | (simp [F11, F16, F12, F17, F23, F26, F27, F21, undef, flg] <;> (repeat' split) <;> simp_all [Bool.and_assoc] <;> grind [List.length_eq_zero_iff, sendCells_co, recvCells_co, pieceCells_co, connCells_co, segCells_co, clockCells_co]))
      · all_goals (repeat' (first
      | (refine tri_condT (b_true (by simp; with_reducible exact IsB.mk)) ?_)
      | (refine th_n ?_)
      | (refine tri_last (id := 11) (C := ⟨[3], [17], [(10, (11, 0, 0)), (11, (12, 0, 0)), (12, (13, 0, 0)), (57, (28, 0, 0))]⟩) [2, 10, 11, 12, 13] [(11, 0, 0), (12, 0, 0), (13, 0, 0)] g8 (fun _ => ⟨q_mixed, by kernel_rfl⟩) ?_; refine ⟨_, by (simp [*, F11, F16, F12, F17, F23, F26, F27, F21, undef, flg]; exact Is.mk), ?_⟩)
      | (refine tri_step (id := 12) (C := ⟨[3], [17], [(10, (11, 0, 0)), (11, (12, 0, 0)), (12, (13, 0, 0)), (57, (28, 0, 0))]⟩) [2, 10, 11, 12, 13, 14] [(11, 0, 0), (12, 0, 0), (13, 0, 0)] g8 nodraw ?_; refine ⟨_, by (simp [*, F11, F16, F12, F17, F23, F26, F27, F21, undef, flg]; exact Is.mk), ?_⟩)
      | (refine tri_step (id := 13) (C := ⟨[3], [17], [(10, (11, 0, 0)), (11, (12, 0, 0)), (12, (13, 0, 0)), (57, (28, 0, 0))]⟩) [2, 10, 11, 12, 13, 14, 15] [(11, 0, 0), (12, 0, 0), (13, 0, 0)] g8 nodraw ?_; refine ⟨_, by (simp [*, F11, F16, F12, F17, F23, F26, F27, F21, undef, flg]; exact Is.mk), ?_⟩)
      | (refine tri_step (id := 14) (C := ⟨[3], [17], [(10, (11, 0, 0)), (11, (12, 0, 0)), (12, (13, 0, 0)), (57, (28, 0, 0))]⟩) [2, 10, 11, 12, 13, 15, 80] [(11, 0, 0), (12, 0, 0), (13, 0, 0)] g8 nodraw ?_; refine ⟨_, by (simp [*, F11, F16, F12, F17, F23, F26, F27, F21, undef, flg]; exact Is.mk), ?_⟩)
      | (refine tri_last (id := 15) (C := ⟨[3], [17], [(10, (11, 0, 0)), (11, (12, 0, 0)), (12, (13, 0, 0)), (57, (28, 0, 0))]⟩) [2, 10, 11, 12, 13, 15] [(11, 0, 0), (12, 0, 0), (13, 0, 0)] g8 nodraw ?_; refine ⟨_, by (simp [*, F11, F16, F12, F17, F23, F26, F27, F21, undef, flg]; exact Is.mk), ?_⟩)
      | (refine tri_seq ?_)
      ))
        refine tri_pairL (id := 16) (C := ⟨[3], [17], [(10, (11, 0, 0)), (11, (12, 0, 0)), (12, (13, 0, 0)), (57, (28, 0, 0))]⟩) [10, 11, 12, 13, 15] [(11, 0, 0), (12, 0, 0), (13, 0, 0)] g8 3 84 85 24 5 [97, 98] rfl rfl rfl rfl rfl rfl rfl (Nat.le_of_ble_eq_true rfl) (Nat.le_of_ble_eq_true rfl) (by kernel_rfl) (by kernel_rfl) (run_bytes [97, 98] (z := .int .u8 0) rfl (by kernel_rfl) (by kernel_rfl) (by kernel_rfl) (by decide) (by decide) (fun g hg => by simp only [List.map_toArray, List.map_cons, List.map_nil, hg]; kernel_rfl)) (by simp [*, undef]; exact Is.mk) (by simp [*, undef]; exact Is.mk) (by simp [*, undef]; exact Is.mk) ?_
        refine th_n ?_
        obtain ⟨S2, hS2⟩ : ∃ S2 : Seg, S2 = { S with flags := bAnd .u8 (IntKind.u8.wrap off) 31, data := [97, 98] } := ⟨_, rfl⟩
        refine tri_weak (le_eq (Le.refl _) (show _ = mkSt [(10, .ptr (11,0,0) 0), (11, .ptr (12,0,0) 0), (12, .ptr (13,0,0) 0), (13, .sl 8 [] none), (15, .v (.int .i64 0))] [((11,0,0), connCells t.c0), ((12,0,0), segCells S2), ((13,0,0), connCells (hear t.c0 S t.now).conn)] by rw [hS2]; rfl)) ?_
        have hR : RefOk S2 off := refOk_is hRS hS2
        clear hS2 hRS
        rcases told_cases (bAnd .u8 S2.flags 16 == 0) with p7 | p7
        · all_goals (repeat' (first
      | (refine tri_condT (b_true (by simp; with_reducible exact IsB.mk)) ?_)
      | (refine th_n ?_)
      | (refine tri_step (id := 17) (C := ⟨[3], [17], [(10, (11, 0, 0)), (11, (12, 0, 0)), (12, (13, 0, 0)), (57, (28, 0, 0))]⟩) [10, 11, 12, 13, 15, 16] [(11, 0, 0), (12, 0, 0), (13, 0, 0), (17, 0, 0)] g8 nodraw ?_; refine ⟨_, by (simp [*, F11, F16, F12, F17, F23, F26, F27, F21, undef, flg]; exact Is.mk), ?_⟩)
      | (refine tri_step (id := 18) (C := ⟨[3], [17], [(10, (11, 0, 0)), (11, (12, 0, 0)), (12, (13, 0, 0)), (57, (28, 0, 0))]⟩) [10, 11, 12, 13, 15, 16, 17] [(11, 0, 0), (12, 0, 0), (13, 0, 0), (17, 0, 0), (18, 0, 0)] g8 nodraw ?_; refine ⟨_, by (simp [*, F11, F16, F12, F17, F23, F26, F27, F21, undef, flg]; exact Is.mk), ?_⟩)
      | (refine tri_step (id := 19) (C := ⟨[3], [17], [(10, (11, 0, 0)), (11, (12, 0, 0)), (12, (13, 0, 0)), (57, (28, 0, 0))]⟩) [10, 11, 12, 13, 15, 16, 17, 96] [(11, 0, 0), (12, 0, 0), (13, 0, 0), (17, 0, 0), (18, 0, 0)] g8 nodraw ?_; refine ⟨_, by (simp [*, F11, F16, F12, F17, F23, F26, F27, F21, undef, flg]; exact Is.mk), ?_⟩)
      | (refine tri_last (id := 20) (C := ⟨[3], [17], [(10, (11, 0, 0)), (11, (12, 0, 0)), (12, (13, 0, 0)), (57, (28, 0, 0))]⟩) [10, 12, 13, 15, 16, 17] [(11, 0, 0), (13, 0, 0), (17, 0, 0), (18, 0, 0)] g8 nodraw ?_; refine ⟨_, by (simp [*, F11, F16, F12, F17, F23, F26, F27, F21, undef, flg]; exact Is.mk), ?_⟩)
      | (refine tri_seq ?_)
      ))
          refine tri_weak (le_eq (Le.refl _) (show _ = mkSt [(10, .ptr (11,0,0) 0), (12, .ptr (13,0,0) 0), (13, .sl 8 [] none), (15, .v (.int .i64 0)), (16, .ptr (17,0,0) 0), (17, .ptr (18,0,0) 0)] [((11,0,0), connCells t.c0), ((13,0,0), connCells (hear t.c0 S t.now).conn), ((17,0,0), segCells (refuse S2)), ((18,0,0), segCells (refuse S2))] by rw [refuse_no hR p7]; rfl)) ?_
          clear hR p7
          all_goals (repeat' (first
      | (refine th_n ?_)
      | (refine tri_ret ?_)
      | (refine tri_last (id := 21) (C := ⟨[3], [17], [(10, (11, 0, 0)), (11, (12, 0, 0)), (12, (13, 0, 0)), (57, (28, 0, 0))]⟩) [6] [] g8 nodraw ?_; refine ⟨_, by (simp [*, F11, F16, F12, F17, F23, F26, F27, F21, undef, flg]; exact Is.mk), ?_⟩)
      ))
          all_goals (refine post_plainV (P := Try.prog) (fn := Try.f8) (by simp; exact IsV.mk) rfl ?_)
          all_goals (first | (simp [F11, F16, F12, F17, F23, F26, F27, F21, undef, flg]; done) | (simp [*, F11, F16, F12, F17, F23, F26, F27, F21, undef, flg]; done) | (simp_all [F11, F16, F12, F17, F23, F26, F27, F21, undef, flg]; done) | (simp [F11, F16, F12, F17, F23, F26, F27, F21, undef, flg] <;> (repeat' split) <;> simp_all; done) | (simp [F11, F16, F12, F17, F23, F26, F27, F21, undef, flg] <;> (repeat' split) <;> simp_all [Bool.and_assoc] <;> grind [List.length_eq_zero_iff, sendCells_co, recvCells_co, pieceCells_co, connCells_co, segCells_co, clockCells_co]))
        · all_goals (repeat' (first
      | (refine tri_condF (b_true (by simp; with_reducible exact IsB.mk)) ?_)
      | (refine tri_skipT ?_)
      | (refine tri_step (id := 17) (C := ⟨[3], [17], [(10, (11, 0, 0)), (11, (12, 0, 0)), (12, (13, 0, 0)), (57, (28, 0, 0))]⟩) [10, 11, 12, 13, 15, 16] [(11, 0, 0), (12, 0, 0), (13, 0, 0), (17, 0, 0)] g8 nodraw ?_; refine ⟨_, by (simp [*, F11, F16, F12, F17, F23, F26, F27, F21, undef, flg]; exact Is.mk), ?_⟩)
      | (refine tri_step (id := 18) (C := ⟨[3], [17], [(10, (11, 0, 0)), (11, (12, 0, 0)), (12, (13, 0, 0)), (57, (28, 0, 0))]⟩) [10, 11, 12, 13, 15, 16, 17] [(11, 0, 0), (12, 0, 0), (13, 0, 0), (17, 0, 0), (18, 0, 0)] g8 nodraw ?_; refine ⟨_, by (simp [*, F11, F16, F12, F17, F23, F26, F27, F21, undef, flg]; exact Is.mk), ?_⟩)
      | (refine tri_step (id := 19) (C := ⟨[3], [17], [(10, (11, 0, 0)), (11, (12, 0, 0)), (12, (13, 0, 0)), (57, (28, 0, 0))]⟩) [10, 11, 12, 13, 15, 16, 17, 96] [(11, 0, 0), (12, 0, 0), (13, 0, 0), (17, 0, 0), (18, 0, 0)] g8 nodraw ?_; refine ⟨_, by (simp [*, F11, F16, F12, F17, F23, F26, F27, F21, undef, flg]; exact Is.mk), ?_⟩)
      | (refine tri_seq ?_)
      ))
          refine tri_weak (le_eq (Le.refl _) (show _ = mkSt [(10, .ptr (11,0,0) 0), (11, .ptr (12,0,0) 0), (12, .ptr (13,0,0) 0), (13, .sl 8 [] none), (15, .v (.int .i64 0)), (16, .ptr (17,0,0) 0), (17, .ptr (18,0,0) 0), (96, .v (.bool false))] [((11,0,0), connCells t.c0), ((12,0,0), segCells S2), ((13,0,0), connCells (hear t.c0 S t.now).conn), ((17,0,0), segCells (refuse S2)), ((18,0,0), segCells (refuse S2))] by rw [refuse_ack hR p7]; rfl)) ?_
          clear hR p7
          all_goals (repeat' (first
      | (refine th_n ?_)
      | (refine tri_ret ?_)
      | (refine tri_last (id := 21) (C := ⟨[3], [17], [(10, (11, 0, 0)), (11, (12, 0, 0)), (12, (13, 0, 0)), (57, (28, 0, 0))]⟩) [6] [] g8 nodraw ?_; refine ⟨_, by (simp [*, F11, F16, F12, F17, F23, F26, F27, F21, undef, flg]; exact Is.mk), ?_⟩)
      ))
          all_goals (refine post_plainV (P := Try.prog) (fn := Try.f8) (by simp; exact IsV.mk) rfl ?_)
          all_goals (first | (simp [F11, F16, F12, F17, F23, F26, F27, F21, undef, flg]; done) | (simp [*, F11, F16, F12, F17, F23, F26, F27, F21, undef, flg]; done) | (simp_all [F11, F16, F12, F17, F23, F26, F27, F21, undef, flg]; done) | (simp [F11, F16, F12, F17, F23, F26, F27, F21, undef, flg] <;> (repeat' split) <;> simp_all; done) | (simp [F11, F16, F12, F17, F23, F26, F27, F21, undef, flg] <;> (repeat' split) <;> simp_all [Bool.and_assoc] <;> grind [List.length_eq_zero_iff, sendCells_co, recvCells_co, pieceCells_co, connCells_co, segCells_co, clockCells_co]))
      · all_goals (repeat' (first
      | (refine tri_condT (b_true (by simp; with_reducible exact IsB.mk)) ?_)
      | (refine th_n ?_)
      | (refine tri_last (id := 11) (C := ⟨[3], [17], [(10, (11, 0, 0)), (11, (12, 0, 0)), (12, (13, 0, 0)), (57, (28, 0, 0))]⟩) [2, 10, 11, 12, 13] [(11, 0, 0), (12, 0, 0), (13, 0, 0)] g8 (fun _ => ⟨q_mixed, by kernel_rfl⟩) ?_; refine ⟨_, by (simp [*, F11, F16, F12, F17, F23, F26, F27, F21, undef, flg]; exact Is.mk), ?_⟩)
      | (refine tri_step (id := 12) (C := ⟨[3], [17], [(10, (11, 0, 0)), (11, (12, 0, 0)), (12, (13, 0, 0)), (57, (28, 0, 0))]⟩) [2, 10, 11, 12, 13, 14] [(11, 0, 0), (12, 0, 0), (13, 0, 0)] g8 nodraw ?_; refine ⟨_, by (simp [*, F11, F16, F12, F17, F23, F26, F27, F21, undef, flg]; exact Is.mk), ?_⟩)
      | (refine tri_step (id := 13) (C := ⟨[3], [17], [(10, (11, 0, 0)), (11, (12, 0, 0)), (12, (13, 0, 0)), (57, (28, 0, 0))]⟩) [2, 10, 11, 12, 13, 14, 15] [(11, 0, 0), (12, 0, 0), (13, 0, 0)] g8 nodraw ?_; refine ⟨_, by (simp [*, F11, F16, F12, F17, F23, F26, F27, F21, undef, flg]; exact Is.mk), ?_⟩)
      | (refine tri_step (id := 14) (C := ⟨[3], [17], [(10, (11, 0, 0)), (11, (12, 0, 0)), (12, (13, 0, 0)), (57, (28, 0, 0))]⟩) [2, 10, 11, 12, 13, 15, 80] [(11, 0, 0), (12, 0, 0), (13, 0, 0)] g8 nodraw ?_; refine ⟨_, by (simp [*, F11, F16, F12, F17, F23, F26, F27, F21, undef, flg]; exact Is.mk), ?_⟩)
      | (refine tri_last (id := 15) (C := ⟨[3], [17], [(10, (11, 0, 0)), (11, (12, 0, 0)), (12, (13, 0, 0)), (57, (28, 0, 0))]⟩) [2, 10, 11, 12, 13, 15] [(11, 0, 0), (12, 0, 0), (13, 0, 0)] g8 nodraw ?_; refine ⟨_, by (simp [*, F11, F16, F12, F17, F23, F26, F27, F21, undef, flg]; exact Is.mk), ?_⟩)
      | (refine tri_seq ?_)
      ))
        refine tri_pairL (id := 16) (C := ⟨[3], [17], [(10, (11, 0, 0)), (11, (12, 0, 0)), (12, (13, 0, 0)), (57, (28, 0, 0))]⟩) [10, 11, 12, 13, 15] [(11, 0, 0), (12, 0, 0), (13, 0, 0)] g8 3 84 85 24 5 [97, 98] rfl rfl rfl rfl rfl rfl rfl (Nat.le_of_ble_eq_true rfl) (Nat.le_of_ble_eq_true rfl) (by kernel_rfl) (by kernel_rfl) (run_bytes [97, 98] (z := .int .u8 0) rfl (by kernel_rfl) (by kernel_rfl) (by kernel_rfl) (by decide) (by decide) (fun g hg => by simp only [List.map_toArray, List.map_cons, List.map_nil, hg]; kernel_rfl)) (by simp [*, undef]; exact Is.mk) (by simp [*, undef]; exact Is.mk) (by simp [*, undef]; exact Is.mk) ?_
        refine th_n ?_
        obtain ⟨S2, hS2⟩ : ∃ S2 : Seg, S2 = { S with flags := bAnd .u8 (IntKind.u8.wrap off) 31, data := [97, 98] } := ⟨_, rfl⟩
        refine tri_weak (le_eq (Le.refl _) (show _ = mkSt [(10, .ptr (11,0,0) 0), (11, .ptr (12,0,0) 0), (12, .ptr (13,0,0) 0), (13, .sl 8 [] none), (15, .v (.int .i64 0))] [((11,0,0), connCells t.c0), ((12,0,0), segCells S2), ((13,0,0), connCells (hear t.c0 S t.now).conn)] by rw [hS2]; rfl)) ?_
        have hR : RefOk S2 off := refOk_is hRS hS2
        clear hS2 hRS
        rcases told_cases (bAnd .u8 S2.flags 16 == 0) with p7 | p7
        · all_goals (repeat' (first
      | (refine tri_condT (b_true (by simp; with_reducible exact IsB.mk)) ?_)
      | (refine th_n ?_)
      | (refine tri_step (id := 17) (C := ⟨[3], [17], [(10, (11, 0, 0)), (11, (12, 0, 0)), (12, (13, 0, 0)), (57, (28, 0, 0))]⟩) [10, 11, 12, 13, 15, 16] [(11, 0, 0), (12, 0, 0), (13, 0, 0), (17, 0, 0)] g8 nodraw ?_; refine ⟨_, by (simp [*, F11, F16, F12, F17, F23, F26, F27, F21, undef, flg]; exact Is.mk), ?_⟩)
      | (refine tri_step (id := 18) (C := ⟨[3], [17], [(10, (11, 0, 0)), (11, (12, 0, 0)), (12, (13, 0, 0)), (57, (28, 0, 0))]⟩) [10, 11, 12, 13, 15, 16, 17] [(11, 0, 0), (12, 0, 0), (13, 0, 0), (17, 0, 0), (18, 0, 0)] g8 nodraw ?_; refine ⟨_, by (simp [*, F11, F16, F12, F17, F23, F26, F27, F21, undef, flg]; exact Is.mk), ?_⟩)
      | (refine tri_step (id := 19) (C := ⟨[3], [17], [(10, (11, 0, 0)), (11, (12, 0, 0)), (12, (13, 0, 0)), (57, (28, 0, 0))]⟩) [10, 11, 12, 13, 15, 16, 17, 96] [(11, 0, 0), (12, 0, 0), (13, 0, 0), (17, 0, 0), (18, 0, 0)] g8 nodraw ?_; refine ⟨_, by (simp [*, F11, F16, F12, F17, F23, F26, F27, F21, undef, flg]; exact Is.mk), ?_⟩)
      | (refine tri_last (id := 20) (C := ⟨[3], [17], [(10, (11, 0, 0)), (11, (12, 0, 0)), (12, (13, 0, 0)), (57, (28, 0, 0))]⟩) [10, 12, 13, 15, 16, 17] [(11, 0, 0), (13, 0, 0), (17, 0, 0), (18, 0, 0)] g8 nodraw ?_; refine ⟨_, by (simp [*, F11, F16, F12, F17, F23, F26, F27, F21, undef, flg]; exact Is.mk), ?_⟩)
      | (refine tri_seq ?_)
      ))
          refine tri_weak (le_eq (Le.refl _) (show _ = mkSt [(10, .ptr (11,0,0) 0), (12, .ptr (13,0,0) 0), (13, .sl 8 [] none), (15, .v (.int .i64 0)), (16, .ptr (17,0,0) 0), (17, .ptr (18,0,0) 0)] [((11,0,0), connCells t.c0), ((13,0,0), connCells (hear t.c0 S t.now).conn), ((17,0,0), segCells (refuse S2)), ((18,0,0), segCells (refuse S2))] by rw [refuse_no hR p7]; rfl)) ?_
          clear hR p7
          all_goals (repeat' (first
      | (refine th_n ?_)
      | (refine tri_ret ?_)
      | (refine tri_last (id := 21) (C := ⟨[3], [17], [(10, (11, 0, 0)), (11, (12, 0, 0)), (12, (13, 0, 0)), (57, (28, 0, 0))]⟩) [6] [] g8 nodraw ?_; refine ⟨_, by (simp [*, F11, F16, F12, F17, F23, F26, F27, F21, undef, flg]; exact Is.mk), ?_⟩)
      ))
          all_goals (refine post_plainV (P := Try.prog) (fn := Try.f8) (by simp; exact IsV.mk) rfl ?_)
          all_goals (first | (simp [F11, F16, F12, F17, F23, F26, F27, F21, undef, flg]; done) | (simp [*, F11, F16, F12, F17, F23, F26, F27, F21, undef, flg]; done) | (simp_all [F11, F16, F12, F17, F23, F26, F27, F21, undef, flg]; done) | (simp [F11, F16, F12, F17, F23, F26, F27, F21, undef, flg] <;> (repeat' split) <;> simp_all; done) | (simp [F11, F16, F12, F17, F23, F26, F27, F21, undef, flg] <;> (repeat' split) <;> simp_all [Bool.and_assoc] <;> grind [List.length_eq_zero_iff, sendCells_co, recvCells_co, pieceCells_co, connCells_co, segCells_co, clockCells_co]))
        · all_goals (repeat' (first
      | (refine tri_condF (b_true (by simp; with_reducible exact IsB.mk)) ?_)
      | (refine tri_skipT ?_)
      | (refine tri_step (id := 17) (C := ⟨[3], [17], [(10, (11, 0, 0)), (11, (12, 0, 0)), (12, (13, 0, 0)), (57, (28, 0, 0))]⟩) [10, 11, 12, 13, 15, 16] [(11, 0, 0), (12, 0, 0), (13, 0, 0), (17, 0, 0)] g8 nodraw ?_; refine ⟨_, by (simp [*, F11, F16, F12, F17, F23, F26, F27, F21, undef, flg]; exact Is.mk), ?_⟩)
      | (refine tri_step (id := 18) (C := ⟨[3], [17], [(10, (11, 0, 0)), (11, (12, 0, 0)), (12, (13, 0, 0)), (57, (28, 0, 0))]⟩) [10, 11, 12, 13, 15, 16, 17] [(11, 0, 0), (12, 0, 0), (13, 0, 0), (17, 0, 0), (18, 0, 0)] g8 nodraw ?_; refine ⟨_, by (simp [*, F11, F16, F12, F17, F23, F26, F27, F21, undef, flg]; exact Is.mk), ?_⟩)
      | (refine tri_step (id := 19) (C := ⟨[3], [17], [(10, (11, 0, 0)), (11, (12, 0, 0)), (12, (13, 0, 0)), (57, (28, 0, 0))]⟩) [10, 11, 12, 13, 15, 16, 17, 96] [(11, 0, 0), (12, 0, 0), (13, 0, 0), (17, 0, 0), (18, 0, 0)] g8 nodraw ?_; refine ⟨_, by (simp [*, F11, F16, F12, F17, F23, F26, F27, F21, undef, flg]; exact Is.mk), ?_⟩)
      | (refine tri_seq ?_)
      ))
          refine tri_weak (le_eq (Le.refl _) (show _ = mkSt [(10, .ptr (11,0,0) 0), (11, .ptr (12,0,0) 0), (12, .ptr (13,0,0) 0), (13, .sl 8 [] none), (15, .v (.int .i64 0)), (16, .ptr (17,0,0) 0), (17, .ptr (18,0,0) 0), (96, .v (.bool false))] [((11,0,0), connCells t.c0), ((12,0,0), segCells S2), ((13,0,0), connCells (hear t.c0 S t.now).conn), ((17,0,0), segCells (refuse S2)), ((18,0,0), segCells (refuse S2))] by rw [refuse_ack hR p7]; rfl)) ?_
          clear hR p7
          all_goals (repeat' (first
      | (refine th_n ?_)
      | (refine tri_ret ?_)
      | (refine tri_last (id := 21) (C := ⟨[3], [17], [(10, (11, 0, 0)), (11, (12, 0, 0)), (12, (13, 0, 0)), (57, (28, 0, 0))]⟩) [6] [] g8 nodraw ?_; refine ⟨_, by (simp [*, F11, F16, F12, F17, F23, F26, F27, F21, undef, flg]; exact Is.mk), ?_⟩)
      ))
          all_goals (refine post_plainV (P := Try.prog) (fn := Try.f8) (by simp; exact IsV.mk) rfl ?_)
          all_goals (first | (simp [F11, F16, F12, F17, F23, F26, F27, F21, undef, flg]; done) | (simp [*, F11, F16, F12, F17, F23, F26, F27, F21, undef, flg]; done) | (simp_all [F11, F16, F12, F17, F23, F26, F27, F21, undef, flg]; done) | (simp [F11, F16, F12, F17, F23, F26, F27, F21, undef, flg] <;> (repeat' split) <;> simp_all; done) | (simp [F11, F16, F12, F17, F23, F26, F27, F21, undef, flg] <;> (repeat' split) <;> simp_all [Bool.and_assoc] <;> grind [List.length_eq_zero_iff, sendCells_co, recvCells_co, pieceCells_co, connCells_co, segCells_co, clockCells_co]))
      · all_goals (repeat' (first
      | (refine tri_condT (b_true (by simp; with_reducible exact IsB.mk)) ?_)
      | (refine th_n ?_)
      | (refine tri_last (id := 11) (C := ⟨[3], [17], [(10, (11, 0, 0)), (11, (12, 0, 0)), (12, (13, 0, 0)), (57, (28, 0, 0))]⟩) [2, 10, 11, 12, 13] [(11, 0, 0), (12, 0, 0), (13, 0, 0)] g8 (fun _ => ⟨q_mixed, by kernel_rfl⟩) ?_; refine ⟨_, by (simp [*, F11, F16, F12, F17, F23, F26, F27, F21, undef, flg]; exact Is.mk), ?_⟩)
      | (refine tri_step (id := 12) (C := ⟨[3], [17], [(10, (11, 0, 0)), (11, (12, 0, 0)), (12, (13, 0, 0)), (57, (28, 0, 0))]⟩) [2, 10, 11, 12, 13, 14] [(11, 0, 0), (12, 0, 0), (13, 0, 0)] g8 nodraw ?_; refine ⟨_, by (simp [*, F11, F16, F12, F17, F23, F26, F27, F21, undef, flg]; exact Is.mk), ?_⟩)
      | (refine tri_step (id := 13) (C := ⟨[3], [17], [(10, (11, 0, 0)), (11, (12, 0, 0)), (12, (13, 0, 0)), (57, (28, 0, 0))]⟩) [2, 10, 11, 12, 13, 14, 15] [(11, 0, 0), (12, 0, 0), (13, 0, 0)] g8 nodraw ?_; refine ⟨_, by (simp [*, F11, F16, F12, F17, F23, F26, F27, F21, undef, flg]; exact Is.mk), ?_⟩)
      | (refine tri_step (id := 14) (C := ⟨[3], [17], [(10, (11, 0, 0)), (11, (12, 0, 0)), (12, (13, 0, 0)), (57, (28, 0, 0))]⟩) [2, 10, 11, 12, 13, 15, 80] [(11, 0, 0), (12, 0, 0), (13, 0, 0)] g8 nodraw ?_; refine ⟨_, by (simp [*, F11, F16, F12, F17, F23, F26, F27, F21, undef, flg]; exact Is.mk), ?_⟩)
      | (refine tri_last (id := 15) (C := ⟨[3], [17], [(10, (11, 0, 0)), (11, (12, 0, 0)), (12, (13, 0, 0)), (57, (28, 0, 0))]⟩) [2, 10, 11, 12, 13, 15] [(11, 0, 0), (12, 0, 0), (13, 0, 0)] g8 nodraw ?_; refine ⟨_, by (simp [*, F11, F16, F12, F17, F23, F26, F27, F21, undef, flg]; exact Is.mk), ?_⟩)
      | (refine tri_seq ?_)
      ))
        refine tri_pairL (id := 16) (C := ⟨[3], [17], [(10, (11, 0, 0)), (11, (12, 0, 0)), (12, (13, 0, 0)), (57, (28, 0, 0))]⟩) [10, 11, 12, 13, 15] [(11, 0, 0), (12, 0, 0), (13, 0, 0)] g8 3 84 85 24 5 [97, 98] rfl rfl rfl rfl rfl rfl rfl (Nat.le_of_ble_eq_true rfl) (Nat.le_of_ble_eq_true rfl) (by kernel_rfl) (by kernel_rfl) (run_bytes [97, 98] (z := .int .u8 0) rfl (by kernel_rfl) (by kernel_rfl) (by kernel_rfl) (by decide) (by decide) (fun g hg => by simp only [List.map_toArray, List.map_cons, List.map_nil, hg]; kernel_rfl)) (by simp [*, undef]; exact Is.mk) (by simp [*, undef]; exact Is.mk) (by simp [*, undef]; exact Is.mk) ?_
        refine th_n ?_
        obtain ⟨S2, hS2⟩ : ∃ S2 : Seg, S2 = { S with flags := bAnd .u8 (IntKind.u8.wrap off) 31, data := [97, 98] } := ⟨_, rfl⟩
        refine tri_weak (le_eq (Le.refl _) (show _ = mkSt [(10, .ptr (11,0,0) 0), (11, .ptr (12,0,0) 0), (12, .ptr (13,0,0) 0), (13, .sl 8 [] none), (15, .v (.int .i64 0))] [((11,0,0), connCells t.c0), ((12,0,0), segCells S2), ((13,0,0), connCells (hear t.c0 S t.now).conn)] by rw [hS2]; rfl)) ?_
        have hR : RefOk S2 off := refOk_is hRS hS2
        clear hS2 hRS
        rcases told_cases (bAnd .u8 S2.flags 16 == 0) with p7 | p7
        · all_goals (repeat' (first
      | (refine tri_condT (b_true (by simp; with_reducible exact IsB.mk)) ?_)
      | (refine th_n ?_)
      | (refine tri_step (id := 17) (C := ⟨[3], [17], [(10, (11, 0, 0)), (11, (12, 0, 0)), (12, (13, 0, 0)), (57, (28, 0, 0))]⟩) [10, 11, 12, 13, 15, 16] [(11, 0, 0), (12, 0, 0), (13, 0, 0), (17, 0, 0)] g8 nodraw ?_; refine ⟨_, by (simp [*, F11, F16, F12, F17, F23, F26, F27, F21, undef, flg]; exact Is.mk), ?_⟩)
      | (refine tri_step (id := 18) (C := ⟨[3], [17], [(10, (11, 0, 0)), (11, (12, 0, 0)), (12, (13, 0, 0)), (57, (28, 0, 0))]⟩) [10, 11, 12, 13, 15, 16, 17] [(11, 0, 0), (12, 0, 0), (13, 0, 0), (17, 0, 0), (18, 0, 0)] g8 nodraw ?_; refine ⟨_, by (simp [*, F11, F16, F12, F17, F23, F26, F27, F21, undef, flg]; exact Is.mk), ?_⟩)
      | (refine tri_step (id := 19) (C := ⟨[3], [17], [(10, (11, 0, 0)), (11, (12, 0, 0)), (12, (13, 0, 0)), (57, (28, 0, 0))]⟩) [10, 11, 12, 13, 15, 16, 17, 96] [(11, 0, 0), (12, 0, 0), (13, 0, 0), (17, 0, 0), (18, 0, 0)] g8 nodraw ?_; refine ⟨_, by (simp [*, F11, F16, F12, F17, F23, F26, F27, F21, undef, flg]; exact Is.mk), ?_⟩)
      | (refine tri_last (id := 20) (C := ⟨[3], [17], [(10, (11, 0, 0)), (11, (12, 0, 0)), (12, (13, 0, 0)), (57, (28, 0, 0))]⟩) [10, 12, 13, 15, 16, 17] [(11, 0, 0), (13, 0, 0), (17, 0, 0), (18, 0, 0)] g8 nodraw ?_; refine ⟨_, by (simp [*, F11, F16, F12, F17, F23, F26, F27, F21, undef, flg]; exact Is.mk), ?_⟩)
      | (refine tri_seq ?_)
      ))
          refine tri_weak (le_eq (Le.refl _) (show _ = mkSt [(10, .ptr (11,0,0) 0), (12, .ptr (13,0,0) 0), (13, .sl 8 [] none), (15, .v (.int .i64 0)), (16, .ptr (17,0,0) 0), (17, .ptr (18,0,0) 0)] [((11,0,0), connCells t.c0), ((13,0,0), connCells (hear t.c0 S t.now).conn), ((17,0,0), segCells (refuse S2)), ((18,0,0), segCells (refuse S2))] by rw [refuse_no hR p7]; rfl)) ?_
          clear hR p7
          all_goals (repeat' (first
      | (refine th_n ?_)
      | (refine tri_ret ?_)
      | (refine tri_last (id := 21) (C := ⟨[3], [17], [(10, (11, 0, 0)), (11, (12, 0, 0)), (12, (13, 0, 0)), (57, (28, 0, 0))]⟩) [6] [] g8 nodraw ?_; refine ⟨_, by (simp [*, F11, F16, F12, F17, F23, F26, F27, F21, undef, flg]; exact Is.mk), ?_⟩)
      ))
          all_goals (refine post_plainV (P := Try.prog) (fn := Try.f8) (by simp; exact IsV.mk) rfl ?_)
          all_goals (first | (simp [F11, F16, F12, F17, F23, F26, F27, F21, undef, flg]; done) | (simp [*, F11, F16, F12, F17, F23, F26, F27, F21, undef, flg]; done) | (simp_all [F11, F16, F12, F17, F23, F26, F27, F21, undef, flg]; done) | (simp [F11, F16, F12, F17, F23, F26, F27, F21, undef, flg] <;> (repeat' split) <;> simp_all; done) | (simp [F11, F16, F12, F17, F23, F26, F27, F21, undef, flg] <;> (repeat' split) <;> simp_all [Bool.and_assoc] <;> grind [List.length_eq_zero_iff, sendCells_co, recvCells_co, pieceCells_co, connCells_co, segCells_co, clockCells_co]))
        · all_goals (repeat' (first
      | (refine tri_condF (b_true (by simp; with_reducible exact IsB.mk)) ?_)
      | (refine tri_skipT ?_)
      | (refine tri_step (id := 17) (C := ⟨[3], [17], [(10, (11, 0, 0)), (11, (12, 0, 0)), (12, (13, 0, 0)), (57, (28, 0, 0))]⟩) [10, 11, 12, 13, 15, 16] [(11, 0, 0), (12, 0, 0), (13, 0, 0), (17, 0, 0)] g8 nodraw ?_; refine ⟨_, by (simp [*, F11, F16, F12, F17, F23, F26, F27, F21, undef, flg]; exact Is.mk), ?_⟩)
      | (refine tri_step (id := 18) (C := ⟨[3], [17], [(10, (11, 0, 0)), (11, (12, 0, 0)), (12, (13, 0, 0)), (57, (28, 0, 0))]⟩) [10, 11, 12, 13, 15, 16, 17] [(11, 0, 0), (12, 0, 0), (13, 0, 0), (17, 0, 0), (18, 0, 0)] g8 nodraw ?_; refine ⟨_, by (simp [*, F11, F16, F12, F17, F23, F26, F27, F21, undef, flg]; exact Is.mk), ?_⟩)
      | (refine tri_step (id := 19) (C := ⟨[3], [17], [(10, (11, 0, 0)), (11, (12, 0, 0)), (12, (13, 0, 0)), (57, (28, 0, 0))]⟩) [10, 11, 12, 13, 15, 16, 17, 96] [(11, 0, 0), (12, 0, 0), (13, 0, 0), (17, 0, 0), (18, 0, 0)] g8 nodraw ?_; refine ⟨_, by (simp [*, F11, F16, F12, F17, F23, F26, F27, F21, undef, flg]; exact Is.mk), ?_⟩)
      | (refine tri_seq ?_)
      ))
          refine tri_weak (le_eq (Le.refl _) (show _ = mkSt [(10, .ptr (11,0,0) 0), (11, .ptr (12,0,0) 0), (12, .ptr (13,0,0) 0), (13, .sl 8 [] none), (15, .v (.int .i64 0)), (16, .ptr (17,0,0) 0), (17, .ptr (18,0,0) 0), (96, .v (.bool false))] [((11,0,0), connCells t.c0), ((12,0,0), segCells S2), ((13,0,0), connCells (hear t.c0 S t.now).conn), ((17,0,0), segCells (refuse S2)), ((18,0,0), segCells (refuse S2))] by rw [refuse_ack hR p7]; rfl)) ?_
          clear hR p7
          all_goals (repeat' (first
      | (refine th_n ?_)
      | (refine tri_ret ?_)
      | (refine tri_last (id := 21) (C := ⟨[3], [17], [(10, (11, 0, 0)), (11, (12, 0, 0)), (12, (13, 0, 0)), (57, (28, 0, 0))]⟩) [6] [] g8 nodraw ?_; refine ⟨_, by (simp [*, F11, F16, F12, F17, F23, F26, F27, F21, undef, flg]; exact Is.mk), ?_⟩)
      ))
          all_goals (refine post_plainV (P := Try.prog) (fn := Try.f8) (by simp; exact IsV.mk) rfl ?_)
          all_goals (first | (simp [F11, F16, F12, F17, F23, F26, F27, F21, undef, flg]; done) | (simp [*, F11, F16, F12, F17, F23, F26, F27, F21, undef, flg]; done) | (simp_all [F11, F16, F12, F17, F23, F26, F27, F21, undef, flg]; done) | (simp [F11, F16, F12, F17, F23, F26, F27, F21, undef, flg] <;> (repeat' split) <;> simp_all; done) | (simp [F11, F16, F12, F17, F23, F26, F27, F21, undef, flg] <;> (repeat' split) <;> simp_all [Bool.and_assoc] <;> grind [List.length_eq_zero_iff, sendCells_co, recvCells_co, pieceCells_co, connCells_co, segCells_co, clockCells_co]))
    | cons x r =>
      have hlt := hl.lt
      have hget := hl.get
      have hw := hl.wi2 hpre
      have hi : i ≤ 79 := by simp at hlt; omega
      obtain ⟨hp, hok2⟩ := step_okT (by omega) hok (hdat x hl.mem)
      have hl2 := hl.next
      clear hl hok hdat
      all_goals (repeat' (first
      | (refine tri_condT (b_true (by simp; with_reducible exact IsB.mk)) ?_)
      | (refine tri_skipT ?_)
      | (refine th_n ?_)
      | (refine in_n ?_)
      | (refine tri_block ?_)
      | (refine tri_step (id := 5) (C := ⟨[3], [17], [(10, (11, 0, 0)), (11, (12, 0, 0)), (12, (13, 0, 0)), (57, (28, 0, 0))]⟩) [2, 7, 28, 29, 30, 31] [(28, 0, 0)] g8 nodraw ?_; refine ⟨_, by (simp [*, F11, F16, F12, F17, F23, F26, F27, F21, undef, flg]; exact Is.mk), ?_⟩)
      | (refine tri_step (id := 6) (C := ⟨[3], [17], [(10, (11, 0, 0)), (11, (12, 0, 0)), (12, (13, 0, 0)), (57, (28, 0, 0))]⟩) [2, 7, 9, 28, 29, 30] [(10, 0, 0), (28, 0, 0)] g8 nodraw ?_; refine ⟨_, by (simp [*, F11, F16, F12, F17, F23, F26, F27, F21, undef, flg]; exact Is.mk), ?_⟩)
      | (refine tri_last (id := 7) (C := ⟨[3], [17], [(10, (11, 0, 0)), (11, (12, 0, 0)), (12, (13, 0, 0)), (57, (28, 0, 0))]⟩) [2, 7, 28, 29, 30] [(28, 0, 0)] g8 nodraw ?_; refine ⟨_, by (simp [*, F11, F16, F12, F17, F23, F26, F27, F21, undef, flg]; exact Is.mk), ?_⟩)
      | (refine tri_last (id := 8) (C := ⟨[3], [17], [(10, (11, 0, 0)), (11, (12, 0, 0)), (12, (13, 0, 0)), (57, (28, 0, 0))]⟩) [2, 7, 28, 29, 30] [(28, 0, 0)] g8 nodraw ?_; refine ⟨_, by (simp [*, F11, F16, F12, F17, F23, F26, F27, F21, undef, flg]; exact Is.mk), ?_⟩)
      | (refine tri_seq ?_)
      ))
      refine ⟨r.length, _, by simp [hn], Le.refl _, i + 1, d ++ [x], r, talkStep t x, hl2, rfl, hok2.le (by omega), rfl⟩
  · refine specAt_of_tri Try.func8 rfl (Nat.le_of_ble_eq_true rfl) ?_
    all_goals (repeat' (first
      | (refine tri_condT (b_true (by simp; with_reducible exact IsB.mk)) ?_)
      | (refine th_r ?_)
      | (refine tri_ret ?_)
      | (refine tri_step (id := 0) (C := ⟨[3], [17], [(10, (11, 0, 0)), (11, (12, 0, 0)), (12, (13, 0, 0)), (57, (28, 0, 0))]⟩) [1, 2, 3] [] g8 nodraw ?_; refine ⟨_, by (simp [*, F11, F16, F12, F17, F23, F26, F27, F21, undef, flg]; exact Is.mk), ?_⟩)
      | (refine tri_step (id := 1) (C := ⟨[3], [17], [(10, (11, 0, 0)), (11, (12, 0, 0)), (12, (13, 0, 0)), (57, (28, 0, 0))]⟩) [1, 2, 3, 24] [] g8 nodraw ?_; refine ⟨_, by (simp [*, F11, F16, F12, F17, F23, F26, F27, F21, undef, flg]; exact Is.mk), ?_⟩)
      | (refine tri_step (id := 2) (C := ⟨[3], [17], [(10, (11, 0, 0)), (11, (12, 0, 0)), (12, (13, 0, 0)), (57, (28, 0, 0))]⟩) [6] [] g8 nodraw ?_; refine ⟨_, by (simp [*, F11, F16, F12, F17, F23, F26, F27, F21, undef, flg]; exact Is.mk), ?_⟩)
      | (refine tri_seq ?_)
      ))
    all_goals (refine post_plainV (P := Try.prog) (fn := Try.f8) (by simp; exact IsV.mk) rfl ?_)
    all_goals (first | (simp [F11, F16, F12, F17, F23, F26, F27, F21, undef, flg]; done) | (simp [*, F11, F16, F12, F17, F23, F26, F27, F21, undef, flg]; done) | (simp_all [F11, F16, F12, F17, F23, F26, F27, F21, undef, flg]; done) | (simp [F11, F16, F12, F17, F23, F26, F27, F21, undef, flg] <;> (repeat' split) <;> simp_all; done) | (simp [F11, F16, F12, F17, F23, F26, F27, F21, undef, flg] <;> (repeat' split) <;> simp_all [Bool.and_assoc] <;> grind [List.length_eq_zero_iff, sendCells_co, recvCells_co, pieceCells_co, connCells_co, segCells_co, clockCells_co]))
open Classical in
noncomputable def F8 : Fn1
  | [x0, x1, x2] => (whole pTwo x0).bind fun first => (decS 5 pStp stpCells x1).bind fun l => (dI .i64 x2).bind fun off => if l.length ≤ 9223372036854775807 then some ((.v (.bool true)), none) else none
  | _ => none
theorem spec8 : Spec1 Try.prog 8 F8 := spec_of fun ys r o h => by
  unfold F8 at h
  split at h
  case h_2 => cases h
  obtain ⟨first, k0, h1⟩ := bind_some h
  obtain ⟨l, k1, h2⟩ := bind_some h1
  obtain ⟨off, k2, h3⟩ := bind_some h2
  obtain ⟨hpre, hz⟩ := ite_some h3
  cases hz
  exact ⟨_, at8 first l off hpre, rfl, le_plain ⟨whole_co pTwo_snd k0, ⟨decS_coA k1, ⟨dI_co k2, trivial⟩⟩⟩ (by simp only [List.all_cons, List.all_nil, Bool.not_false, Bool.and_self, notRefB (whole_co pTwo_snd k0) rfl (by simp), notRefB (decS_coA k1) rfl (by simp), notRefB (dI_co k2) rfl (by simp)]) rfl⟩
theorem en8 : Enters Try.prog 8 := enters_of Try.func8 (by kernel_rfl) (by kernel_rfl)

end Go.Proofs.Ytkjodjaamjnejaa

