import Derived.Test.YtkjodjaamjnejaaP1
import Derived.Test.YtkjodjaamjnejaaK6
set_option linter.all false
-- Printed by genwalk.py.
namespace Go.Proofs.Ytkjodjaamjnejaa
open Go Go.RowKit Caw
set_option linter.unusedSimpArgs false
set_option linter.unusedVariables false
set_option maxRecDepth 100000

-- caravel/recvq.beyond$1
theorem g89 : GOk1 Try.prog (ctxOf [(54, F54), (77, F77)]) := gok_cons spec54 en54 (gok_cons spec77 en77 (gok_nil))
set_option maxHeartbeats 400000 in
theorem at89 (p : Caw.Piece) (t : Int) : SpecAt Try.prog 89 [.agg (pieceCells p), .rptr (.v (.int .u32 t)) 0] (.v (.bool (decide (0 < seqDiff (seqAdd p.seq p.data.length) t)))) none := by
  all_goals refine specAt_of_tri Try.func89 rfl (Nat.le_of_ble_eq_true rfl) ?_
  all_goals (repeat' (first
    | (refine tri_ret ?_)
    | (refine tri_step (id := 0) (C := ⟨[2], [], [(4, (3, 0, 0)), (6, (3, 0, 0))]⟩) [1, 2] [] g89 nodraw ?_; refine ⟨_, by (simp [F54, F77, pieceCells, flg]; exact Is.mk), ?_⟩)
    | (refine tri_step (id := 1) (C := ⟨[2], [], [(4, (3, 0, 0)), (6, (3, 0, 0))]⟩) [3] [] g89 (fun _ => ⟨q_mixed, by kernel_rfl⟩) ?_; refine ⟨_, by (simp [F54, F77, pieceCells, flg]; exact Is.mk), ?_⟩)
    ))
  all_goals (refine post_plainV (P := Try.prog) (fn := Try.f89) (by simp; exact IsV.mk) rfl ?_)
  all_goals (first | (simp [F54, F77, pieceCells, flg]; done) | (simp [*, F54, F77, pieceCells, flg]; done) | (simp_all [F54, F77, pieceCells, flg]; done) | (simp [F54, F77, pieceCells, flg] <;> (repeat' split) <;> simp_all; done) | (simp [F54, F77, pieceCells, flg] <;> (repeat' split) <;> simp_all [Bool.and_assoc] <;> grind [List.length_eq_zero_iff, sendCells_co, recvCells_co, pieceCells_co, connCells_co, segCells_co, clockCells_co]))
noncomputable def F89 : Fn1
  | [x0, x1] => (whole pPiece x0).bind fun p => (dX .u32 x1).bind fun t => some ((.v (.bool (decide (0 < seqDiff (seqAdd p.seq p.data.length) t)))), none)
  | _ => none
theorem spec89 : Spec1 Try.prog 89 F89 := spec_of fun ys r o h => by
  unfold F89 at h
  split at h
  case h_2 => cases h
  obtain ⟨p, k0, h1⟩ := bind_some h
  obtain ⟨t, k1, h2⟩ := bind_some h1
  cases h2
  exact ⟨_, at89 p t, rfl, le_plain ⟨whole_co pPiece_snd k0, ⟨dX_co k1, trivial⟩⟩ (by simp only [List.all_cons, List.all_nil, Bool.not_false, Bool.and_self, notRefB (whole_co pPiece_snd k0) rfl (by simp), notRefB (dX_co k1) rfl (by simp)]) rfl⟩
theorem en89 : Enters Try.prog 89 := enters_of Try.func89 (by kernel_rfl) (by kernel_rfl)

-- slices.IndexFunc[[]caravel/api.Piece,caravel/api.Piece]
theorem g92 : GOk1 Try.prog (ctxOf [(89, F89)]) := gok_cons spec89 en89 (gok_nil)
set_option maxHeartbeats 400000 in
theorem at92 (l : List Piece) (t : Int) (hpre : l.length ≤ 100000) : SpecAt Try.prog 92 [.sl 2 (encS pieceCells l) none, .fn 89 [.rptr (.v (.int .u32 t)) 0]] (.v (.int .i64 (idxF t l 0))) none := by
  refine specAt_of_tri Try.func92 rfl (Nat.le_of_ble_eq_true rfl) ?_
  all_goals (repeat' (first
      | (refine tri_block ?_)
      | (refine tri_step (id := 0) (C := ⟨[], [], []⟩) [0, 1] [] g92 nodraw ?_; refine ⟨_, by (simp [*, F89, flg]; exact Is.mk), ?_⟩)
      | (refine tri_step (id := 1) (C := ⟨[], [], []⟩) [0, 1, 7, 8] [] g92 nodraw ?_; refine ⟨_, by (simp [*, F89, flg]; exact Is.mk), ?_⟩)
      | (refine tri_seq ?_)
      ))
  refine tri_loop (fun n s => ∃ i d r, At l d r i ∧ n = r.length ∧ idxF t l 0 = idxF t r i ∧ s = mkSt [(0, .sl 2 (encS pieceCells l) none), (1, .fn 89 [.rptr (.v (.int .u32 t)) 0]), (7, .v (.int .i64 l.length)), (8, .v (.int .i64 i))] []) l.length _ (Le.refl _) ⟨0, [], l, .start l, rfl, rfl, rfl⟩ ?_
  rintro n s ⟨i, d, r, hl, hn, hx, rfl⟩
  cases r with
  | nil =>
    have hlt := hl.ge
    all_goals (repeat' (first
      | (refine tri_condF (b_true (by simp; with_reducible exact IsB.mk)) ?_)
      | (refine th_n ?_)
      | (refine in_e ?_)
      | (refine th_e ?_)
      | (refine tri_ret ?_)
      | (refine tri_exit ?_)
      | (refine tri_step (id := 2) (C := ⟨[], [], []⟩) [0, 1, 7, 8, 9] [] g92 nodraw ?_; refine ⟨_, by (simp [*, F89, flg]; exact Is.mk), ?_⟩)
      | (refine tri_step (id := 7) (C := ⟨[], [], []⟩) [4] [] g92 nodraw ?_; refine ⟨_, by (simp [*, F89, flg]; exact Is.mk), ?_⟩)
      | (refine tri_seq ?_)
      ))
    all_goals (refine post_plainV (P := Try.prog) (fn := Try.f92) (by simp; exact IsV.mk) rfl ?_)
    all_goals (first | (simp [F89, flg, idxF]; done) | (simp [*, F89, flg, idxF]; done) | (simp_all [F89, flg, idxF]; done) | (simp [F89, flg, idxF] <;> (repeat' split) <;> simp_all; done) | (simp [F89, flg, idxF] <;> (repeat' split) <;> simp_all [Bool.and_assoc] <;> grind [List.length_eq_zero_iff, sendCells_co, recvCells_co, pieceCells_co, connCells_co, segCells_co, clockCells_co]))
  | cons x r =>
    have hlt := hl.lt
    have hget := hl.get
    have hw := hl.wi (by omega)
    all_goals (repeat' (first
      | (refine tri_condT (b_true (by simp; with_reducible exact IsB.mk)) ?_)
      | (refine tri_skipT ?_)
      | (refine tri_skip ?_)
      | (refine th_n ?_)
      | (refine in_n ?_)
      | (refine th_r ?_)
      | (refine in_r ?_)
      | (refine tri_ret ?_)
      | (refine tri_block ?_)
      | (refine tri_step (id := 2) (C := ⟨[], [], []⟩) [0, 1, 7, 8, 9] [] g92 nodraw ?_; refine ⟨_, by (simp [*, F89, flg]; exact Is.mk), ?_⟩)
      | (refine tri_step (id := 3) (C := ⟨[], [], []⟩) [0, 1, 5, 7, 8] [] g92 nodraw ?_; refine ⟨_, by (simp [*, F89, flg]; exact Is.mk), ?_⟩)
      | (refine tri_step (id := 4) (C := ⟨[], [], []⟩) [0, 1, 5, 7, 8, 16] [] g92 nodraw ?_; refine ⟨_, by (simp [*, F89, flg]; exact Is.mk), ?_⟩)
      | (refine tri_step (id := 5) (C := ⟨[], [], []⟩) [4] [] g92 nodraw ?_; refine ⟨_, by (simp [*, F89, flg]; exact Is.mk), ?_⟩)
      | (refine tri_last (id := 6) (C := ⟨[], [], []⟩) [0, 1, 7, 8] [] g92 nodraw ?_; refine ⟨_, by (simp [*, F89, flg]; exact Is.mk), ?_⟩)
      | (refine tri_cond (c := .tmp 16) (b_true (by simp; exact IsB.mk)) (fun hc => ?_) (fun hc => ?_))
      | (refine tri_seq ?_)
      ))
    any_goals (refine ⟨r.length, _, by simp [hn], Le.refl _, i + 1, d ++ [x], r, hl.next, rfl, ?_, rfl⟩)
    any_goals (rw [hx]; clear hx; simp only [idxF]; split <;> first | rfl | (exfalso; simp_all; done))
    all_goals (refine post_plainV (P := Try.prog) (fn := Try.f92) (by simp; exact IsV.mk) rfl ?_)
    all_goals (first | (simp [F89, flg, idxF]; done) | (simp [*, F89, flg, idxF]; done) | (simp_all [F89, flg, idxF]; done) | (simp [F89, flg, idxF] <;> (repeat' split) <;> simp_all; done) | (simp [F89, flg, idxF] <;> (repeat' split) <;> simp_all [Bool.and_assoc] <;> grind [List.length_eq_zero_iff, sendCells_co, recvCells_co, pieceCells_co, connCells_co, segCells_co, clockCells_co]))
open Classical in
noncomputable def F92 : Fn1
  | [x0, x1] => (decS 2 pPiece pieceCells x0).bind fun l => (dF 89 .u32 x1).bind fun t => if l.length ≤ 100000 then some ((.v (.int .i64 (idxF t l 0))), none) else none
  | _ => none
theorem spec92 : Spec1 Try.prog 92 F92 := spec_of fun ys r o h => by
  unfold F92 at h
  split at h
  case h_2 => cases h
  obtain ⟨l, k0, h1⟩ := bind_some h
  obtain ⟨t, k1, h2⟩ := bind_some h1
  obtain ⟨hpre, hz⟩ := ite_some h2
  cases hz
  exact ⟨_, at92 l t hpre, rfl, le_plain ⟨decS_coA k0, ⟨dF_co k1, trivial⟩⟩ (by simp only [List.all_cons, List.all_nil, Bool.not_false, Bool.and_self, notRefB (decS_coA k0) rfl (by simp), notRefB (dF_co k1) rfl (by simp)]) rfl⟩
theorem en92 : Enters Try.prog 92 := enters_of Try.func92 (by kernel_rfl) (by kernel_rfl)

-- slices.ContainsFunc[[]caravel/api.Piece,caravel/api.Piece]
theorem g88 : GOk1 Try.prog (ctxOf [(92, F92)]) := gok_cons spec92 en92 (gok_nil)
set_option maxHeartbeats 400000 in
theorem at88 (l : List Piece) (t : Int) (hpre : l.length ≤ 100000) : SpecAt Try.prog 88 [.sl 2 (encS pieceCells l) none, .fn 89 [.rptr (.v (.int .u32 t)) 0]] (.v (.bool (l.any fun p => decide (0 < seqDiff (seqAdd p.seq p.data.length) t)))) none := by
  all_goals refine specAt_of_tri Try.func88 rfl (Nat.le_of_ble_eq_true rfl) ?_
  all_goals (repeat' (first
    | (refine tri_ret ?_)
    | (refine tri_step (id := 0) (C := ⟨[], [], []⟩) [0, 1] [] g88 nodraw ?_; refine ⟨_, by (simp [*, F92, flg]; exact Is.mk), ?_⟩)
    | (refine tri_step (id := 1) (C := ⟨[], [], []⟩) [4] [] g88 nodraw ?_; refine ⟨_, by (simp [*, F92, flg]; exact Is.mk), ?_⟩)
    ))
  all_goals (refine post_plainV (P := Try.prog) (fn := Try.f88) (by simp; exact IsV.mk) rfl ?_)
  all_goals (first | (simp [F92, flg, idxF_any]; done) | (simp [*, F92, flg, idxF_any]; done) | (simp_all [F92, flg, idxF_any]; done) | (simp [F92, flg, idxF_any] <;> (repeat' split) <;> simp_all; done) | (simp [F92, flg, idxF_any] <;> (repeat' split) <;> simp_all [Bool.and_assoc] <;> grind [List.length_eq_zero_iff, sendCells_co, recvCells_co, pieceCells_co, connCells_co, segCells_co, clockCells_co]))
open Classical in
noncomputable def F88 : Fn1
  | [x0, x1] => (decS 2 pPiece pieceCells x0).bind fun l => (dF 89 .u32 x1).bind fun t => if l.length ≤ 100000 then some ((.v (.bool (l.any fun p => decide (0 < seqDiff (seqAdd p.seq p.data.length) t)))), none) else none
  | _ => none
theorem spec88 : Spec1 Try.prog 88 F88 := spec_of fun ys r o h => by
  unfold F88 at h
  split at h
  case h_2 => cases h
  obtain ⟨l, k0, h1⟩ := bind_some h
  obtain ⟨t, k1, h2⟩ := bind_some h1
  obtain ⟨hpre, hz⟩ := ite_some h2
  cases hz
  exact ⟨_, at88 l t hpre, rfl, le_plain ⟨decS_coA k0, ⟨dF_co k1, trivial⟩⟩ (by simp only [List.all_cons, List.all_nil, Bool.not_false, Bool.and_self, notRefB (decS_coA k0) rfl (by simp), notRefB (dF_co k1) rfl (by simp)]) rfl⟩
theorem en88 : Enters Try.prog 88 := enters_of Try.func88 (by kernel_rfl) (by kernel_rfl)

-- caravel/recvq.beyond
theorem g86 : GOk1 Try.prog (ctxOf [(88, F88)]) := gok_cons spec88 en88 (gok_nil)
set_option maxHeartbeats 400000 in
theorem at86 (q : Caw.Recv) (t : Int) (hpre : q.ahead.length ≤ 100000) : SpecAt Try.prog 86 [.agg (recvCells q), .v (.int .u32 t)] (.v (.bool (recvBeyond q t))) none := by
  all_goals refine specAt_of_tri Try.func86 rfl (Nat.le_of_ble_eq_true rfl) ?_
  all_goals (repeat' (first
    | (refine tri_ret ?_)
    | (refine tri_step (id := 0) (C := ⟨[2, 3], [], []⟩) [2, 3] [] g86 nodraw ?_; refine ⟨_, by (simp [*, F88, flg]; exact Is.mk), ?_⟩)
    | (refine tri_step (id := 1) (C := ⟨[2, 3], [], []⟩) [4] [] g86 nodraw ?_; refine ⟨_, by (simp [*, F88, flg]; exact Is.mk), ?_⟩)
    ))
  all_goals (refine post_plainV (P := Try.prog) (fn := Try.f86) (by simp; exact IsV.mk) rfl ?_)
  all_goals (first | (simp [F88, flg, recvBeyond]; done) | (simp [*, F88, flg, recvBeyond]; done) | (simp_all [F88, flg, recvBeyond]; done) | (simp [F88, flg, recvBeyond] <;> (repeat' split) <;> simp_all; done) | (simp [F88, flg, recvBeyond] <;> (repeat' split) <;> simp_all [Bool.and_assoc] <;> grind [List.length_eq_zero_iff, sendCells_co, recvCells_co, pieceCells_co, connCells_co, segCells_co, clockCells_co]))
open Classical in
noncomputable def F86 : Fn1
  | [x0, x1] => (whole pRecv x0).bind fun q => (dI .u32 x1).bind fun t => if q.ahead.length ≤ 100000 then some ((.v (.bool (recvBeyond q t))), none) else none
  | _ => none
theorem spec86 : Spec1 Try.prog 86 F86 := spec_of fun ys r o h => by
  unfold F86 at h
  split at h
  case h_2 => cases h
  obtain ⟨q, k0, h1⟩ := bind_some h
  obtain ⟨t, k1, h2⟩ := bind_some h1
  obtain ⟨hpre, hz⟩ := ite_some h2
  cases hz
  exact ⟨_, at86 q t hpre, rfl, le_plain ⟨whole_co pRecv_snd k0, ⟨dI_co k1, trivial⟩⟩ (by simp only [List.all_cons, List.all_nil, Bool.not_false, Bool.and_self, notRefB (whole_co pRecv_snd k0) rfl (by simp), notRefB (dI_co k1) rfl (by simp)]) rfl⟩
theorem en86 : Enters Try.prog 86 := enters_of Try.func86 (by kernel_rfl) (by kernel_rfl)

-- slices.Clip[[]byte,byte]
set_option maxHeartbeats 400000 in
theorem at91 (l : List Int) : SpecAt Try.prog 91 [.sl 1 (encB l) none] (.sl 1 (encB l) flg) none := by
  all_goals refine specAt_of_tri Try.func91 rfl (Nat.le_of_ble_eq_true rfl) ?_
  all_goals (repeat' (first
    | (refine tri_ret ?_)
    | (refine tri_step (id := 0) (C := ⟨[], [], []⟩) [0] [] gok_nil nodraw ?_; refine ⟨_, by (simp [flg]; exact Is.mk), ?_⟩)
    | (refine tri_step (id := 1) (C := ⟨[], [], []⟩) [2] [] gok_nil nodraw ?_; refine ⟨_, by (simp [flg]; exact Is.mk), ?_⟩)
    ))
  all_goals (refine post_plainL (P := Try.prog) [((0, 0, 0), (9, 0, 0))] (by simp) (fn := Try.f91) (by simp; exact IsV.mk) rfl ?_)
  all_goals (first | (simp [flg, encB]; done) | (simp [*, flg, encB]; done) | (simp_all [flg, encB]; done) | (simp [flg, encB] <;> (repeat' split) <;> simp_all; done) | (simp [flg, encB] <;> (repeat' split) <;> simp_all [Bool.and_assoc] <;> grind [List.length_eq_zero_iff, sendCells_co, recvCells_co, pieceCells_co, connCells_co, segCells_co, clockCells_co]))
noncomputable def F91 : Fn1
  | [x0] => (decB x0).bind fun l => some ((.sl 1 (encB l) flg), none)
  | _ => none
theorem spec91 : Spec1 Try.prog 91 F91 := spec_of fun ys r o h => by
  unfold F91 at h
  split at h
  case h_2 => cases h
  obtain ⟨l, k0, h1⟩ := bind_some h
  cases h1
  exact ⟨_, at91 l, rfl, le_plain ⟨decB_coA k0, trivial⟩ (by simp only [List.all_cons, List.all_nil, Bool.not_false, Bool.and_self, notRefB (decB_coA k0) rfl (by simp)]) rfl⟩
theorem en91 : Enters Try.prog 91 := enters_of Try.func91 (by kernel_rfl) (by kernel_rfl)

end Go.Proofs.Ytkjodjaamjnejaa

-- Printed by genwalk.py.
namespace Go.Proofs.Ytkjodjaamjnejaa
open Go Go.RowKit Caw
set_option linter.unusedSimpArgs false
set_option linter.unusedVariables false
set_option maxRecDepth 100000

-- caravel/recvq.both
theorem g90 : GOk1 Try.prog (ctxOf [(84, F84), (77, F77)]) := gok_cons spec84 en84 (gok_cons spec77 en77 (gok_nil))
set_option maxHeartbeats 400000 in
theorem at90 (f : Caw.Piece) (t : Caw.Piece) (hpre : bothOk f t) : SpecAt Try.prog 90 [.agg (pieceCells f), .agg (pieceCells t)] (.agg (pieceCells (both f t))) none := by
  obtain ⟨L, k1, k2, hp1, hp2, hp3, hp4, hp5, hp6, hp7, hp8⟩ := hpre
  have hp15 : maxI (IntKind.i64.wrap (k1 + f.data.length)) (IntKind.i64.wrap (k2 + t.data.length)) = (L : Int) := by rw [← hp2, ← hp3, ← hp1]; rfl
  have hp6' : ¬ L = k1 := fun h => hp6 h.symm
  have hp7' : ¬ L = k2 := fun h => hp7 h.symm
  have hp9 : min t.data.length (L - k2) = t.data.length := by omega
  have hp10 : min f.data.length (L - k1) = f.data.length := by omega
  have hp11 : (L : Int) * 2 ≤ 1099511627776 := by omega
  have hp12 : k1 ≤ L := by omega
  have hp13 : k2 ≤ L := by omega
  have hp14 : (paste (paste (List.replicate L 0) k2 t.data) k1 f.data).take L = paste (paste (List.replicate L 0) k2 t.data) k1 f.data := List.take_of_length_le (by simp [hp4, hp5])
  clear hp6 hp7
  all_goals refine specAt_of_tri Try.func90 rfl (Nat.le_of_ble_eq_true rfl) ?_
  all_goals (repeat' (first
    | (refine tri_skip ?_)
    | (refine th_n ?_)
    | (refine tri_ret ?_)
    | (refine tri_step (id := 0) (C := ⟨[2, 3], [], [(16, (3, 0, 0)), (20, (3, 0, 0)), (24, (4, 0, 0)), (28, (4, 0, 0)), (36, (4, 0, 0)), (41, (4, 0, 0)), (45, (3, 0, 0)), (50, (3, 0, 0))]⟩) [2, 3, 4] [(5, 0, 0)] g90 nodraw ?_; refine ⟨_, by (simp [*, F84, F77, -emake, emake_eq, splice_B, bothFrom_fold, flg]; exact Is.mk), ?_⟩)
    | (refine tri_step (id := 1) (C := ⟨[2, 3], [], [(16, (3, 0, 0)), (20, (3, 0, 0)), (24, (4, 0, 0)), (28, (4, 0, 0)), (36, (4, 0, 0)), (41, (4, 0, 0)), (45, (3, 0, 0)), (50, (3, 0, 0))]⟩) [2, 3, 4, 5] [(5, 0, 0)] g90 nodraw ?_; refine ⟨_, by (simp [*, F84, F77, -emake, emake_eq, splice_B, bothFrom_fold, flg]; exact Is.mk), ?_⟩)
    | (refine tri_step (id := 2) (C := ⟨[2, 3], [], [(16, (3, 0, 0)), (20, (3, 0, 0)), (24, (4, 0, 0)), (28, (4, 0, 0)), (36, (4, 0, 0)), (41, (4, 0, 0)), (45, (3, 0, 0)), (50, (3, 0, 0))]⟩) [2, 3, 4, 5, 13] [(5, 0, 0)] g90 nodraw ?_; refine ⟨_, by (simp [*, F84, F77, -emake, emake_eq, splice_B, bothFrom_fold, flg]; exact Is.mk), ?_⟩)
    | (refine tri_last (id := 3) (C := ⟨[2, 3], [], [(16, (3, 0, 0)), (20, (3, 0, 0)), (24, (4, 0, 0)), (28, (4, 0, 0)), (36, (4, 0, 0)), (41, (4, 0, 0)), (45, (3, 0, 0)), (50, (3, 0, 0))]⟩) [2, 3, 4, 5] [(5, 0, 0)] g90 nodraw ?_; refine ⟨_, by (simp [*, F84, F77, -emake, emake_eq, splice_B, bothFrom_fold, flg]; exact Is.mk), ?_⟩)
    | (refine tri_step (id := 4) (C := ⟨[2, 3], [], [(16, (3, 0, 0)), (20, (3, 0, 0)), (24, (4, 0, 0)), (28, (4, 0, 0)), (36, (4, 0, 0)), (41, (4, 0, 0)), (45, (3, 0, 0)), (50, (3, 0, 0))]⟩) [2, 3, 4, 5, 6] [(5, 0, 0)] g90 (fun _ => ⟨q_mixed, by kernel_rfl⟩) ?_; refine ⟨_, by (simp [*, F84, F77, -emake, emake_eq, splice_B, bothFrom_fold, flg]; exact Is.mk), ?_⟩)
    | (refine tri_step (id := 5) (C := ⟨[2, 3], [], [(16, (3, 0, 0)), (20, (3, 0, 0)), (24, (4, 0, 0)), (28, (4, 0, 0)), (36, (4, 0, 0)), (41, (4, 0, 0)), (45, (3, 0, 0)), (50, (3, 0, 0))]⟩) [2, 3, 4, 5, 7] [(5, 0, 0), (35, 0, 0)] g90 nodraw ?_; refine ⟨_, by (simp [*, F84, F77, -emake, emake_eq, splice_B, bothFrom_fold, flg]; exact Is.mk), ?_⟩)
    | (refine tri_step (id := 6) (C := ⟨[2, 3], [], [(16, (3, 0, 0)), (20, (3, 0, 0)), (24, (4, 0, 0)), (28, (4, 0, 0)), (36, (4, 0, 0)), (41, (4, 0, 0)), (45, (3, 0, 0)), (50, (3, 0, 0))]⟩) [2, 4, 5, 7] [(5, 0, 0), (35, 0, 0)] g90 (fun _ => ⟨q_mixed, by kernel_rfl⟩) ?_; refine ⟨_, by (simp [*, F84, F77, -emake, emake_eq, splice_B, bothFrom_fold, flg]; exact Is.mk), ?_⟩)
    | (refine tri_step (id := 7) (C := ⟨[2, 3], [], [(16, (3, 0, 0)), (20, (3, 0, 0)), (24, (4, 0, 0)), (28, (4, 0, 0)), (36, (4, 0, 0)), (41, (4, 0, 0)), (45, (3, 0, 0)), (50, (3, 0, 0))]⟩) [4, 5, 7] [(5, 0, 0), (35, 0, 0)] g90 (fun _ => ⟨q_mixed, by kernel_rfl⟩) ?_; refine ⟨_, by (simp [*, F84, F77, -emake, emake_eq, splice_B, bothFrom_fold, flg]; exact Is.mk), ?_⟩)
    | (refine tri_stepF (id := 8) (C := ⟨[2, 3], [], [(16, (3, 0, 0)), (20, (3, 0, 0)), (24, (4, 0, 0)), (28, (4, 0, 0)), (36, (4, 0, 0)), (41, (4, 0, 0)), (45, (3, 0, 0)), (50, (3, 0, 0))]⟩) [4] [(5, 0, 0), (35, 0, 0)] (35, 0, 0) g90 nodraw ?_; refine ⟨_, _, (by (simp [*, F84, F77, -emake, emake_eq, splice_B, bothFrom_fold, flg]); exact IsK.mk), (by (simp [*, F84, F77, -emake, emake_eq, splice_B, bothFrom_fold, flg]); exact IsK.mk), ?_⟩)
    | (apply tri_iteTo (c := .tmp 13) [2, 3, 4, 5] [(5, 0, 0)] (by simp; exact IsB.mk))
    | (refine to_mk (by simp; exact IsK.mk))
    | (refine imp_ ?_)
    | ((simp; exact IsK.mk))
    | (refine tri_seq ?_)
    ))
  all_goals (refine post_plainV (P := Try.prog) (fn := Try.f90) (by simp; exact IsV.mk) rfl ?_)
  all_goals (first | (simp [F84, F77, -emake, emake_eq, splice_B, bothFrom_fold, flg, both, pieceCells]; done) | (simp [*, F84, F77, -emake, emake_eq, splice_B, bothFrom_fold, flg, both, pieceCells]; done) | (simp_all [F84, F77, -emake, emake_eq, splice_B, bothFrom_fold, flg, both, pieceCells]; done) | (simp [F84, F77, -emake, emake_eq, splice_B, bothFrom_fold, flg, both, pieceCells] <;> (repeat' split) <;> simp_all; done) | (simp [F84, F77, -emake, emake_eq, splice_B, bothFrom_fold, flg, both, pieceCells] <;> (repeat' split) <;> simp_all [Bool.and_assoc] <;> grind [List.length_eq_zero_iff, sendCells_co, recvCells_co, pieceCells_co, connCells_co, segCells_co, clockCells_co]))
open Classical in
noncomputable def F90 : Fn1
  | [x0, x1] => (whole pPiece x0).bind fun f => (whole pPiece x1).bind fun t => if bothOk f t then some ((.agg (pieceCells (both f t))), none) else none
  | _ => none
theorem spec90 : Spec1 Try.prog 90 F90 := spec_of fun ys r o h => by
  unfold F90 at h
  split at h
  case h_2 => cases h
  obtain ⟨f, k0, h1⟩ := bind_some h
  obtain ⟨t, k1, h2⟩ := bind_some h1
  obtain ⟨hpre, hz⟩ := ite_some h2
  cases hz
  exact ⟨_, at90 f t hpre, rfl, le_plain ⟨whole_co pPiece_snd k0, ⟨whole_co pPiece_snd k1, trivial⟩⟩ (by simp only [List.all_cons, List.all_nil, Bool.not_false, Bool.and_self, notRefB (whole_co pPiece_snd k0) rfl (by simp), notRefB (whole_co pPiece_snd k1) rfl (by simp)]) rfl⟩
theorem en90 : Enters Try.prog 90 := enters_of Try.func90 (by kernel_rfl) (by kernel_rfl)

-- caravel/recvq.Clone
theorem g41 : GOk1 Try.prog (ctxOf [(69, F69)]) := gok_cons spec69 en69 (gok_nil)
set_option maxHeartbeats 400000 in
theorem at41 (q : Caw.Recv) (hpre : q.sm) : SpecAt Try.prog 41 [.agg (recvCells q)] (.agg (recvCells q)) none := by
  obtain ⟨hp1, hp2, hp3⟩ := hpre
  have hp4 : Sm q.data := by unfold Sm; omega
  refine specAt_of_tri Try.func41 rfl (Nat.le_of_ble_eq_true rfl) ?_
  all_goals (repeat' (first
      | (refine tri_block ?_)
      | (refine tri_step (id := 0) (C := ⟨[1], [], [(19, (4, 0, 0)), (21, (6, 0, 0)), (23, (6, 0, 0)), (29, (4, 0, 0))]⟩) [1, 2] [(3, 0, 0)] g41 nodraw ?_; refine ⟨_, by (simp [*, F69, recvCells, flg]; exact Is.mk), ?_⟩)
      | (refine tri_step (id := 1) (C := ⟨[1], [], [(19, (4, 0, 0)), (21, (6, 0, 0)), (23, (6, 0, 0)), (29, (4, 0, 0))]⟩) [1, 2, 3] [(3, 0, 0), (4, 0, 0)] g41 nodraw ?_; refine ⟨_, by (simp [*, F69, recvCells, flg]; exact Is.mk), ?_⟩)
      | (refine tri_step (id := 2) (C := ⟨[1], [], [(19, (4, 0, 0)), (21, (6, 0, 0)), (23, (6, 0, 0)), (29, (4, 0, 0))]⟩) [1, 2, 3] [(3, 0, 0), (4, 0, 0)] g41 nodraw ?_; refine ⟨_, by (simp [*, F69, recvCells, flg]; exact Is.mk), ?_⟩)
      | (refine tri_step (id := 3) (C := ⟨[1], [], [(19, (4, 0, 0)), (21, (6, 0, 0)), (23, (6, 0, 0)), (29, (4, 0, 0))]⟩) [2, 3, 13, 14, 15] [(3, 0, 0), (4, 0, 0)] g41 nodraw ?_; refine ⟨_, by (simp [*, F69, recvCells, flg]; exact Is.mk), ?_⟩)
      | (refine tri_seq ?_)
      ))
  refine tri_loop (fun n s => ∃ i d r, At q.ahead d r i ∧ n = r.length ∧ s = mkSt [(2, .ptr (3,0,0) 0), (3, .ptr (4,0,0) 0), (13, .sl 2 (encS pieceCells q.ahead) none), (14, .v (.int .i64 q.ahead.length)), (15, .v (.int .i64 i))] [((3,0,0), [.v (.int .u32 0), .v (.slice none 0 0), .v (.slice none 0 0), .v (.bool false), .v (.int .u32 0), .v (.bool false)]), ((4,0,0), [.v (.int .u32 q.next), .sl 1 (encB q.data) none, .sl 2 (encS pieceCells d) (some ((29,0,0),0)), .v (.bool q.known), .v (.int .u32 q.fin), .v (.bool q.done)])]) q.ahead.length _ (le_K (by simp) (by simp)) ⟨0, [], q.ahead, .start _, rfl, rfl⟩ ?_
  rintro n s ⟨i, d, r, hl, hn, rfl⟩
  cases r with
  | nil =>
    have hlt := hl.ge
    have hd := hl.end
    all_goals (repeat' (first
      | (refine tri_condF (b_true (by simp; with_reducible exact IsB.mk)) ?_)
      | (refine th_n ?_)
      | (refine in_e ?_)
      | (refine th_e ?_)
      | (refine tri_ret ?_)
      | (refine tri_exit ?_)
      | (refine tri_step (id := 4) (C := ⟨[1], [], [(19, (4, 0, 0)), (21, (6, 0, 0)), (23, (6, 0, 0)), (29, (4, 0, 0))]⟩) [2, 3, 13, 14, 15, 16] [(3, 0, 0), (4, 0, 0)] g41 nodraw ?_; refine ⟨_, by (simp [*, F69, recvCells, flg]; exact Is.mk), ?_⟩)
      | (refine tri_step (id := 8) (C := ⟨[1], [], [(19, (4, 0, 0)), (21, (6, 0, 0)), (23, (6, 0, 0)), (29, (4, 0, 0))]⟩) [2] [(3, 0, 0)] g41 nodraw ?_; refine ⟨_, by (simp [*, F69, recvCells, flg]; exact Is.mk), ?_⟩)
      | (refine tri_seq ?_)
      ))
    all_goals (refine post_plainV (P := Try.prog) (fn := Try.f41) (by simp; exact IsV.mk) rfl ?_)
    all_goals (first | (simp [F69, recvCells, flg]; done) | (simp [*, F69, recvCells, flg]; done) | (simp_all [F69, recvCells, flg]; done) | (simp [F69, recvCells, flg] <;> (repeat' split) <;> simp_all; done) | (simp [F69, recvCells, flg] <;> (repeat' split) <;> simp_all [Bool.and_assoc] <;> grind [List.length_eq_zero_iff, sendCells_co, recvCells_co, pieceCells_co, connCells_co, segCells_co, clockCells_co]))
  | cons x r =>
    have hlt := hl.lt
    have hget := hl.get
    have hw := hl.wi (by omega)
    have hx : Sm x.data := by have := hp3 x hl.mem; unfold Sm; omega
    have hfit : (d.length + 1) * 33 ≤ 1099511627776 := by have := hl.lt; have := hl.2; simp at *; omega
    all_goals (repeat' (first
      | (refine tri_condT (b_true (by simp; with_reducible exact IsB.mk)) ?_)
      | (refine tri_skipT ?_)
      | (refine th_n ?_)
      | (refine in_n ?_)
      | (refine tri_block ?_)
      | (refine tri_step (id := 4) (C := ⟨[1], [], [(19, (4, 0, 0)), (21, (6, 0, 0)), (23, (6, 0, 0)), (29, (4, 0, 0))]⟩) [2, 3, 13, 14, 15, 16] [(3, 0, 0), (4, 0, 0)] g41 nodraw ?_; refine ⟨_, by (simp [*, F69, recvCells, flg]; exact Is.mk), ?_⟩)
      | (refine tri_step (id := 5) (C := ⟨[1], [], [(19, (4, 0, 0)), (21, (6, 0, 0)), (23, (6, 0, 0)), (29, (4, 0, 0))]⟩) [2, 3, 5, 13, 14, 15] [(3, 0, 0), (4, 0, 0), (6, 0, 0)] g41 nodraw ?_; refine ⟨_, by (simp [*, F69, recvCells, flg]; exact Is.mk), ?_⟩)
      | (refine tri_last (id := 6) (C := ⟨[1], [], [(19, (4, 0, 0)), (21, (6, 0, 0)), (23, (6, 0, 0)), (29, (4, 0, 0))]⟩) [2, 3, 13, 14, 15] [(3, 0, 0), (4, 0, 0)] g41 (fun _ => ⟨q_mixed, by kernel_rfl⟩) ?_; refine ⟨_, by (simp [*, F69, recvCells, flg]; exact Is.mk), ?_⟩)
      | (refine tri_last (id := 7) (C := ⟨[1], [], [(19, (4, 0, 0)), (21, (6, 0, 0)), (23, (6, 0, 0)), (29, (4, 0, 0))]⟩) [2, 3, 13, 14, 15] [(3, 0, 0), (4, 0, 0)] g41 nodraw ?_; refine ⟨_, by (simp [*, F69, recvCells, flg]; exact Is.mk), ?_⟩)
      | (refine tri_seq ?_)
      ))
    refine ⟨r.length, _, by simp [hn], Le.trans le_cK (le_K (by simp [stripL]) (by simp [stripL])), i + 1, d ++ [x], r, hl.next, rfl, rfl⟩
open Classical in
noncomputable def F41 : Fn1
  | [x0] => (whole pRecv x0).bind fun q => if q.sm then some ((.agg (recvCells q)), none) else none
  | _ => none
theorem spec41 : Spec1 Try.prog 41 F41 := spec_of fun ys r o h => by
  unfold F41 at h
  split at h
  case h_2 => cases h
  obtain ⟨q, k0, h1⟩ := bind_some h
  obtain ⟨hpre, hz⟩ := ite_some h1
  cases hz
  exact ⟨_, at41 q hpre, rfl, le_plain ⟨whole_co pRecv_snd k0, trivial⟩ (by simp only [List.all_cons, List.all_nil, Bool.not_false, Bool.and_self, notRefB (whole_co pRecv_snd k0) rfl (by simp)]) rfl⟩
theorem en41 : Enters Try.prog 41 := enters_of Try.func41 (by kernel_rfl) (by kernel_rfl)

-- caravel/recvq.lay
theorem g87 : GOk1 Try.prog (ctxOf [(54, F54), (77, F77), (90, F90), (91, F91)]) := gok_cons spec54 en54 (gok_cons spec77 en77 (gok_cons spec90 en90 (gok_cons spec91 en91 (gok_nil))))
set_option maxHeartbeats 1600000 in
theorem at87 (q : Caw.Recv) (p0 : Caw.Piece) (hpre : layPre q p0) : SpecAt Try.prog 87 [.agg (recvCells q), .agg (pieceCells p0)] (.agg (recvCells (lay q p0))) none := by
  obtain ⟨⟨hp1, hp2, hp3⟩, hp4, hp5⟩ := hpre
  refine specAt_of_tri Try.func87 rfl (Nat.le_of_ble_eq_true rfl) ?_
  all_goals (repeat' (first
      | (refine tri_block ?_)
      | (refine tri_step (id := 0) (C := ⟨[], [], [(19, (8, 0, 0)), (21, (8, 0, 0)), (25, (4, 0, 0)), (34, (4, 0, 0)), (36, (4, 0, 0)), (40, (8, 0, 0)), (58, (3, 0, 0)), (61, (3, 0, 0)), (69, (3, 0, 0)), (70, (3, 0, 0)), (78, (3, 0, 0))]⟩) [2, 3, 4] [(3, 0, 0), (4, 0, 0), (5, 0, 0)] g87 nodraw ?_; refine ⟨_, by (simp [*, F54, F77, F90, F91, recvCells, flg]; exact Is.mk), ?_⟩)
      | (refine tri_step (id := 1) (C := ⟨[], [], [(19, (8, 0, 0)), (21, (8, 0, 0)), (25, (4, 0, 0)), (34, (4, 0, 0)), (36, (4, 0, 0)), (40, (8, 0, 0)), (58, (3, 0, 0)), (61, (3, 0, 0)), (69, (3, 0, 0)), (70, (3, 0, 0)), (78, (3, 0, 0))]⟩) [2, 3, 4, 5] [(3, 0, 0), (4, 0, 0), (5, 0, 0)] g87 nodraw ?_; refine ⟨_, by (simp [*, F54, F77, F90, F91, recvCells, flg]; exact Is.mk), ?_⟩)
      | (refine tri_step (id := 2) (C := ⟨[], [], [(19, (8, 0, 0)), (21, (8, 0, 0)), (25, (4, 0, 0)), (34, (4, 0, 0)), (36, (4, 0, 0)), (40, (8, 0, 0)), (58, (3, 0, 0)), (61, (3, 0, 0)), (69, (3, 0, 0)), (70, (3, 0, 0)), (78, (3, 0, 0))]⟩) [2, 3, 4, 5, 9, 10, 11] [(3, 0, 0), (4, 0, 0), (5, 0, 0)] g87 nodraw ?_; refine ⟨_, by (simp [*, F54, F77, F90, F91, recvCells, flg]; exact Is.mk), ?_⟩)
      | (refine tri_seq ?_)
      ))
  refine tri_loop (fun n s => ∃ i d r out p, At q.ahead d r i ∧ n = r.length ∧ out.length ≤ d.length ∧ layLoop q.ahead [] p0 = layLoop r out p ∧ layOk r p ∧ s = mkSt [(2, .ptr (3,0,0) 0), (3, .ptr (4,0,0) 0), (4, .ptr (5,0,0) 0), (5, .sl 2 (encS pieceCells out) (some ((6,0,0),0))), (9, .sl 2 (encS pieceCells q.ahead) none), (10, .v (.int .i64 q.ahead.length)), (11, .v (.int .i64 i))] [((3,0,0), [.v (.int .u32 q.next), .sl 1 (encB q.data) none, .sl 2 (encS pieceCells q.ahead) none, .v (.bool q.known), .v (.int .u32 q.fin), .v (.bool q.done)]), ((4,0,0), pieceCells p), ((5,0,0), [.v (.int .u32 0), .v (.slice none 0 0), .v (.slice none 0 0), .v (.bool false), .v (.int .u32 0), .v (.bool false)])]) q.ahead.length _ (le_K (by simp) (by simp)) ⟨0, [], q.ahead, [], p0, .start _, rfl, Nat.le_refl _, rfl, hp4, rfl⟩ ?_
  rintro n s ⟨i, d, r, out, p, hl, hn, ho, hx, hk, rfl⟩
  cases r with
  | nil =>
    have hlt := hl.ge
    have hd := hl.end
    obtain ⟨y, rest, hy⟩ : ∃ y rest, out ++ [p] = y :: rest := by cases out <;> simp
    have hall : layAll q.ahead p0 = y :: rest := by unfold layAll; rw [hx]; exact hy
    have hfit : (out.length + 1) * 33 ≤ 1099511627776 := by rw [hd] at ho; omega
    have hfit2 : (q.data.length + y.data.length) * 2 ≤ 1099511627776 := by have := hp5 y (by rw [hall]; simp); omega
    clear hp5 hp4 hp3 hd hx hk hl
    by_cases hs : y.seq = q.next
    · have hs' : (y.seq == q.next) = true := by simp [hs]
      by_cases h8 : (rest.length : Int) ≤ 8
      · have hlay : lay q p0 = { q with data := q.data ++ y.data, next := seqAdd q.next y.data.length, ahead := rest } := by unfold lay; rw [hall]; simp [layEnd, layPut, hs, h8]
        clear hall hs
        all_goals (repeat' (first
      | (refine tri_condT (b_true (by simp; with_reducible exact IsB.mk)) ?_)
      | (refine tri_condF (b_true (by simp; with_reducible exact IsB.mk)) ?_)
      | (refine th_n ?_)
      | (refine in_e ?_)
      | (refine th_e ?_)
      | (refine tri_ret ?_)
      | (refine tri_exit ?_)
      | (refine tri_step (id := 3) (C := ⟨[], [], [(19, (8, 0, 0)), (21, (8, 0, 0)), (25, (4, 0, 0)), (34, (4, 0, 0)), (36, (4, 0, 0)), (40, (8, 0, 0)), (58, (3, 0, 0)), (61, (3, 0, 0)), (69, (3, 0, 0)), (70, (3, 0, 0)), (78, (3, 0, 0))]⟩) [2, 3, 4, 5, 9, 10, 11, 12] [(3, 0, 0), (4, 0, 0), (5, 0, 0)] g87 nodraw ?_; refine ⟨_, by (simp [*, F54, F77, F90, F91, recvCells, flg]; exact Is.mk), ?_⟩)
      | (refine tri_step (id := 12) (C := ⟨[], [], [(19, (8, 0, 0)), (21, (8, 0, 0)), (25, (4, 0, 0)), (34, (4, 0, 0)), (36, (4, 0, 0)), (40, (8, 0, 0)), (58, (3, 0, 0)), (61, (3, 0, 0)), (69, (3, 0, 0)), (70, (3, 0, 0)), (78, (3, 0, 0))]⟩) [2, 4, 5] [(3, 0, 0), (5, 0, 0)] g87 nodraw ?_; refine ⟨_, by (simp [*, F54, F77, F90, F91, recvCells, flg]; exact Is.mk), ?_⟩)
      | (refine tri_step (id := 13) (C := ⟨[], [], [(19, (8, 0, 0)), (21, (8, 0, 0)), (25, (4, 0, 0)), (34, (4, 0, 0)), (36, (4, 0, 0)), (40, (8, 0, 0)), (58, (3, 0, 0)), (61, (3, 0, 0)), (69, (3, 0, 0)), (70, (3, 0, 0)), (78, (3, 0, 0))]⟩) [2, 4, 5, 60] [(3, 0, 0), (5, 0, 0)] g87 (fun _ => ⟨q_mixed, by kernel_rfl⟩) ?_; refine ⟨_, by (simp [*, F54, F77, F90, F91, recvCells, flg]; exact Is.mk), ?_⟩)
      | (refine tri_step (id := 14) (C := ⟨[], [], [(19, (8, 0, 0)), (21, (8, 0, 0)), (25, (4, 0, 0)), (34, (4, 0, 0)), (36, (4, 0, 0)), (40, (8, 0, 0)), (58, (3, 0, 0)), (61, (3, 0, 0)), (69, (3, 0, 0)), (70, (3, 0, 0)), (78, (3, 0, 0))]⟩) [2, 4, 5] [(3, 0, 0), (5, 0, 0)] g87 (fun _ => ⟨q_mixed, by kernel_rfl⟩) ?_; refine ⟨_, by (simp [*, F54, F77, F90, F91, recvCells, flg]; exact Is.mk), ?_⟩)
      | (refine tri_step (id := 15) (C := ⟨[], [], [(19, (8, 0, 0)), (21, (8, 0, 0)), (25, (4, 0, 0)), (34, (4, 0, 0)), (36, (4, 0, 0)), (40, (8, 0, 0)), (58, (3, 0, 0)), (61, (3, 0, 0)), (69, (3, 0, 0)), (70, (3, 0, 0)), (78, (3, 0, 0))]⟩) [2, 4, 5] [(3, 0, 0), (5, 0, 0)] g87 (fun _ => ⟨q_mixed, by kernel_rfl⟩) ?_; refine ⟨_, by (simp [*, F54, F77, F90, F91, recvCells, flg]; exact Is.mk), ?_⟩)
      | (refine tri_last (id := 16) (C := ⟨[], [], [(19, (8, 0, 0)), (21, (8, 0, 0)), (25, (4, 0, 0)), (34, (4, 0, 0)), (36, (4, 0, 0)), (40, (8, 0, 0)), (58, (3, 0, 0)), (61, (3, 0, 0)), (69, (3, 0, 0)), (70, (3, 0, 0)), (78, (3, 0, 0))]⟩) [2, 4, 5] [(3, 0, 0), (5, 0, 0)] g87 nodraw ?_; refine ⟨_, by (simp [*, F54, F77, F90, F91, recvCells, flg]; exact Is.mk), ?_⟩)
      | (refine tri_step (id := 17) (C := ⟨[], [], [(19, (8, 0, 0)), (21, (8, 0, 0)), (25, (4, 0, 0)), (34, (4, 0, 0)), (36, (4, 0, 0)), (40, (8, 0, 0)), (58, (3, 0, 0)), (61, (3, 0, 0)), (69, (3, 0, 0)), (70, (3, 0, 0)), (78, (3, 0, 0))]⟩) [2, 4, 5, 83] [(3, 0, 0), (5, 0, 0)] g87 nodraw ?_; refine ⟨_, by (simp [*, F54, F77, F90, F91, recvCells, flg]; exact Is.mk), ?_⟩)
      | (refine tri_last (id := 18) (C := ⟨[], [], [(19, (8, 0, 0)), (21, (8, 0, 0)), (25, (4, 0, 0)), (34, (4, 0, 0)), (36, (4, 0, 0)), (40, (8, 0, 0)), (58, (3, 0, 0)), (61, (3, 0, 0)), (69, (3, 0, 0)), (70, (3, 0, 0)), (78, (3, 0, 0))]⟩) [2, 4] [(3, 0, 0), (5, 0, 0)] g87 nodraw ?_; refine ⟨_, by (simp [*, F54, F77, F90, F91, recvCells, flg]; exact Is.mk), ?_⟩)
      | (refine tri_step (id := 19) (C := ⟨[], [], [(19, (8, 0, 0)), (21, (8, 0, 0)), (25, (4, 0, 0)), (34, (4, 0, 0)), (36, (4, 0, 0)), (40, (8, 0, 0)), (58, (3, 0, 0)), (61, (3, 0, 0)), (69, (3, 0, 0)), (70, (3, 0, 0)), (78, (3, 0, 0))]⟩) [4] [(5, 0, 0)] g87 nodraw ?_; refine ⟨_, by (simp [*, F54, F77, F90, F91, recvCells, flg]; exact Is.mk), ?_⟩)
      | (refine tri_seq ?_)
      ))
        all_goals (refine post_plainV (P := Try.prog) (fn := Try.f87) (by simp; exact IsV.mk) rfl ?_)
        all_goals (first | (simp [F54, F77, F90, F91, recvCells, flg]; done) | (simp [*, F54, F77, F90, F91, recvCells, flg]; done) | (simp_all [F54, F77, F90, F91, recvCells, flg]; done) | (simp [F54, F77, F90, F91, recvCells, flg] <;> (repeat' split) <;> simp_all; done) | (simp [F54, F77, F90, F91, recvCells, flg] <;> (repeat' split) <;> simp_all [Bool.and_assoc] <;> grind [List.length_eq_zero_iff, sendCells_co, recvCells_co, pieceCells_co, connCells_co, segCells_co, clockCells_co]))
      · have hlay : lay q p0 = { q with data := q.data ++ y.data, next := seqAdd q.next y.data.length } := by unfold lay; rw [hall]; simp [layEnd, layPut, hs, h8]
        clear hall hs
        all_goals (repeat' (first
      | (refine tri_condT (b_true (by simp; with_reducible exact IsB.mk)) ?_)
      | (refine tri_condF (b_true (by simp; with_reducible exact IsB.mk)) ?_)
      | (refine tri_skipT ?_)
      | (refine th_n ?_)
      | (refine in_e ?_)
      | (refine th_e ?_)
      | (refine tri_ret ?_)
      | (refine tri_exit ?_)
      | (refine tri_step (id := 3) (C := ⟨[], [], [(19, (8, 0, 0)), (21, (8, 0, 0)), (25, (4, 0, 0)), (34, (4, 0, 0)), (36, (4, 0, 0)), (40, (8, 0, 0)), (58, (3, 0, 0)), (61, (3, 0, 0)), (69, (3, 0, 0)), (70, (3, 0, 0)), (78, (3, 0, 0))]⟩) [2, 3, 4, 5, 9, 10, 11, 12] [(3, 0, 0), (4, 0, 0), (5, 0, 0)] g87 nodraw ?_; refine ⟨_, by (simp [*, F54, F77, F90, F91, recvCells, flg]; exact Is.mk), ?_⟩)
      | (refine tri_step (id := 12) (C := ⟨[], [], [(19, (8, 0, 0)), (21, (8, 0, 0)), (25, (4, 0, 0)), (34, (4, 0, 0)), (36, (4, 0, 0)), (40, (8, 0, 0)), (58, (3, 0, 0)), (61, (3, 0, 0)), (69, (3, 0, 0)), (70, (3, 0, 0)), (78, (3, 0, 0))]⟩) [2, 4, 5] [(3, 0, 0), (5, 0, 0)] g87 nodraw ?_; refine ⟨_, by (simp [*, F54, F77, F90, F91, recvCells, flg]; exact Is.mk), ?_⟩)
      | (refine tri_step (id := 13) (C := ⟨[], [], [(19, (8, 0, 0)), (21, (8, 0, 0)), (25, (4, 0, 0)), (34, (4, 0, 0)), (36, (4, 0, 0)), (40, (8, 0, 0)), (58, (3, 0, 0)), (61, (3, 0, 0)), (69, (3, 0, 0)), (70, (3, 0, 0)), (78, (3, 0, 0))]⟩) [2, 4, 5, 60] [(3, 0, 0), (5, 0, 0)] g87 (fun _ => ⟨q_mixed, by kernel_rfl⟩) ?_; refine ⟨_, by (simp [*, F54, F77, F90, F91, recvCells, flg]; exact Is.mk), ?_⟩)
      | (refine tri_step (id := 14) (C := ⟨[], [], [(19, (8, 0, 0)), (21, (8, 0, 0)), (25, (4, 0, 0)), (34, (4, 0, 0)), (36, (4, 0, 0)), (40, (8, 0, 0)), (58, (3, 0, 0)), (61, (3, 0, 0)), (69, (3, 0, 0)), (70, (3, 0, 0)), (78, (3, 0, 0))]⟩) [2, 4, 5] [(3, 0, 0), (5, 0, 0)] g87 (fun _ => ⟨q_mixed, by kernel_rfl⟩) ?_; refine ⟨_, by (simp [*, F54, F77, F90, F91, recvCells, flg]; exact Is.mk), ?_⟩)
      | (refine tri_step (id := 15) (C := ⟨[], [], [(19, (8, 0, 0)), (21, (8, 0, 0)), (25, (4, 0, 0)), (34, (4, 0, 0)), (36, (4, 0, 0)), (40, (8, 0, 0)), (58, (3, 0, 0)), (61, (3, 0, 0)), (69, (3, 0, 0)), (70, (3, 0, 0)), (78, (3, 0, 0))]⟩) [2, 4, 5] [(3, 0, 0), (5, 0, 0)] g87 (fun _ => ⟨q_mixed, by kernel_rfl⟩) ?_; refine ⟨_, by (simp [*, F54, F77, F90, F91, recvCells, flg]; exact Is.mk), ?_⟩)
      | (refine tri_last (id := 16) (C := ⟨[], [], [(19, (8, 0, 0)), (21, (8, 0, 0)), (25, (4, 0, 0)), (34, (4, 0, 0)), (36, (4, 0, 0)), (40, (8, 0, 0)), (58, (3, 0, 0)), (61, (3, 0, 0)), (69, (3, 0, 0)), (70, (3, 0, 0)), (78, (3, 0, 0))]⟩) [2, 4, 5] [(3, 0, 0), (5, 0, 0)] g87 nodraw ?_; refine ⟨_, by (simp [*, F54, F77, F90, F91, recvCells, flg]; exact Is.mk), ?_⟩)
      | (refine tri_step (id := 17) (C := ⟨[], [], [(19, (8, 0, 0)), (21, (8, 0, 0)), (25, (4, 0, 0)), (34, (4, 0, 0)), (36, (4, 0, 0)), (40, (8, 0, 0)), (58, (3, 0, 0)), (61, (3, 0, 0)), (69, (3, 0, 0)), (70, (3, 0, 0)), (78, (3, 0, 0))]⟩) [2, 4, 5, 83] [(3, 0, 0), (5, 0, 0)] g87 nodraw ?_; refine ⟨_, by (simp [*, F54, F77, F90, F91, recvCells, flg]; exact Is.mk), ?_⟩)
      | (refine tri_step (id := 19) (C := ⟨[], [], [(19, (8, 0, 0)), (21, (8, 0, 0)), (25, (4, 0, 0)), (34, (4, 0, 0)), (36, (4, 0, 0)), (40, (8, 0, 0)), (58, (3, 0, 0)), (61, (3, 0, 0)), (69, (3, 0, 0)), (70, (3, 0, 0)), (78, (3, 0, 0))]⟩) [4] [(5, 0, 0)] g87 nodraw ?_; refine ⟨_, by (simp [*, F54, F77, F90, F91, recvCells, flg]; exact Is.mk), ?_⟩)
      | (refine tri_seq ?_)
      ))
        all_goals (refine post_plainV (P := Try.prog) (fn := Try.f87) (by simp; exact IsV.mk) rfl ?_)
        all_goals (first | (simp [F54, F77, F90, F91, recvCells, flg]; done) | (simp [*, F54, F77, F90, F91, recvCells, flg]; done) | (simp_all [F54, F77, F90, F91, recvCells, flg]; done) | (simp [F54, F77, F90, F91, recvCells, flg] <;> (repeat' split) <;> simp_all; done) | (simp [F54, F77, F90, F91, recvCells, flg] <;> (repeat' split) <;> simp_all [Bool.and_assoc] <;> grind [List.length_eq_zero_iff, sendCells_co, recvCells_co, pieceCells_co, connCells_co, segCells_co, clockCells_co]))
    · have hs' : (y.seq == q.next) = false := by simp [hs]
      by_cases h8 : (rest.length : Int) + 1 ≤ 8
      · have hlay : lay q p0 = { q with ahead := y :: rest } := by unfold lay; rw [hall]; simp [layEnd, layPut, hs, h8]
        clear hall hs
        all_goals (repeat' (first
      | (refine tri_condT (b_true (by simp; with_reducible exact IsB.mk)) ?_)
      | (refine tri_condF (b_true (by simp; with_reducible exact IsB.mk)) ?_)
      | (refine tri_skipT ?_)
      | (refine th_n ?_)
      | (refine in_e ?_)
      | (refine th_e ?_)
      | (refine tri_ret ?_)
      | (refine tri_exit ?_)
      | (refine tri_step (id := 3) (C := ⟨[], [], [(19, (8, 0, 0)), (21, (8, 0, 0)), (25, (4, 0, 0)), (34, (4, 0, 0)), (36, (4, 0, 0)), (40, (8, 0, 0)), (58, (3, 0, 0)), (61, (3, 0, 0)), (69, (3, 0, 0)), (70, (3, 0, 0)), (78, (3, 0, 0))]⟩) [2, 3, 4, 5, 9, 10, 11, 12] [(3, 0, 0), (4, 0, 0), (5, 0, 0)] g87 nodraw ?_; refine ⟨_, by (simp [*, F54, F77, F90, F91, recvCells, flg]; exact Is.mk), ?_⟩)
      | (refine tri_step (id := 12) (C := ⟨[], [], [(19, (8, 0, 0)), (21, (8, 0, 0)), (25, (4, 0, 0)), (34, (4, 0, 0)), (36, (4, 0, 0)), (40, (8, 0, 0)), (58, (3, 0, 0)), (61, (3, 0, 0)), (69, (3, 0, 0)), (70, (3, 0, 0)), (78, (3, 0, 0))]⟩) [2, 4, 5] [(3, 0, 0), (5, 0, 0)] g87 nodraw ?_; refine ⟨_, by (simp [*, F54, F77, F90, F91, recvCells, flg]; exact Is.mk), ?_⟩)
      | (refine tri_step (id := 13) (C := ⟨[], [], [(19, (8, 0, 0)), (21, (8, 0, 0)), (25, (4, 0, 0)), (34, (4, 0, 0)), (36, (4, 0, 0)), (40, (8, 0, 0)), (58, (3, 0, 0)), (61, (3, 0, 0)), (69, (3, 0, 0)), (70, (3, 0, 0)), (78, (3, 0, 0))]⟩) [2, 4, 5, 60] [(3, 0, 0), (5, 0, 0)] g87 (fun _ => ⟨q_mixed, by kernel_rfl⟩) ?_; refine ⟨_, by (simp [*, F54, F77, F90, F91, recvCells, flg]; exact Is.mk), ?_⟩)
      | (refine tri_step (id := 17) (C := ⟨[], [], [(19, (8, 0, 0)), (21, (8, 0, 0)), (25, (4, 0, 0)), (34, (4, 0, 0)), (36, (4, 0, 0)), (40, (8, 0, 0)), (58, (3, 0, 0)), (61, (3, 0, 0)), (69, (3, 0, 0)), (70, (3, 0, 0)), (78, (3, 0, 0))]⟩) [2, 4, 5, 83] [(3, 0, 0), (5, 0, 0)] g87 nodraw ?_; refine ⟨_, by (simp [*, F54, F77, F90, F91, recvCells, flg]; exact Is.mk), ?_⟩)
      | (refine tri_last (id := 18) (C := ⟨[], [], [(19, (8, 0, 0)), (21, (8, 0, 0)), (25, (4, 0, 0)), (34, (4, 0, 0)), (36, (4, 0, 0)), (40, (8, 0, 0)), (58, (3, 0, 0)), (61, (3, 0, 0)), (69, (3, 0, 0)), (70, (3, 0, 0)), (78, (3, 0, 0))]⟩) [2, 4] [(3, 0, 0), (5, 0, 0)] g87 nodraw ?_; refine ⟨_, by (simp [*, F54, F77, F90, F91, recvCells, flg]; exact Is.mk), ?_⟩)
      | (refine tri_step (id := 19) (C := ⟨[], [], [(19, (8, 0, 0)), (21, (8, 0, 0)), (25, (4, 0, 0)), (34, (4, 0, 0)), (36, (4, 0, 0)), (40, (8, 0, 0)), (58, (3, 0, 0)), (61, (3, 0, 0)), (69, (3, 0, 0)), (70, (3, 0, 0)), (78, (3, 0, 0))]⟩) [4] [(5, 0, 0)] g87 nodraw ?_; refine ⟨_, by (simp [*, F54, F77, F90, F91, recvCells, flg]; exact Is.mk), ?_⟩)
      | (refine tri_seq ?_)
      ))
        all_goals (refine post_plainV (P := Try.prog) (fn := Try.f87) (by simp; exact IsV.mk) rfl ?_)
        all_goals (first | (simp [F54, F77, F90, F91, recvCells, flg]; done) | (simp [*, F54, F77, F90, F91, recvCells, flg]; done) | (simp_all [F54, F77, F90, F91, recvCells, flg]; done) | (simp [F54, F77, F90, F91, recvCells, flg] <;> (repeat' split) <;> simp_all; done) | (simp [F54, F77, F90, F91, recvCells, flg] <;> (repeat' split) <;> simp_all [Bool.and_assoc] <;> grind [List.length_eq_zero_iff, sendCells_co, recvCells_co, pieceCells_co, connCells_co, segCells_co, clockCells_co]))
      · have hlay : lay q p0 = q := by unfold lay; rw [hall]; simp [layEnd, layPut, hs, h8]
        clear hall hs
        all_goals (repeat' (first
      | (refine tri_condF (b_true (by simp; with_reducible exact IsB.mk)) ?_)
      | (refine tri_skipT ?_)
      | (refine th_n ?_)
      | (refine in_e ?_)
      | (refine th_e ?_)
      | (refine tri_ret ?_)
      | (refine tri_exit ?_)
      | (refine tri_step (id := 3) (C := ⟨[], [], [(19, (8, 0, 0)), (21, (8, 0, 0)), (25, (4, 0, 0)), (34, (4, 0, 0)), (36, (4, 0, 0)), (40, (8, 0, 0)), (58, (3, 0, 0)), (61, (3, 0, 0)), (69, (3, 0, 0)), (70, (3, 0, 0)), (78, (3, 0, 0))]⟩) [2, 3, 4, 5, 9, 10, 11, 12] [(3, 0, 0), (4, 0, 0), (5, 0, 0)] g87 nodraw ?_; refine ⟨_, by (simp [*, F54, F77, F90, F91, recvCells, flg]; exact Is.mk), ?_⟩)
      | (refine tri_step (id := 12) (C := ⟨[], [], [(19, (8, 0, 0)), (21, (8, 0, 0)), (25, (4, 0, 0)), (34, (4, 0, 0)), (36, (4, 0, 0)), (40, (8, 0, 0)), (58, (3, 0, 0)), (61, (3, 0, 0)), (69, (3, 0, 0)), (70, (3, 0, 0)), (78, (3, 0, 0))]⟩) [2, 4, 5] [(3, 0, 0), (5, 0, 0)] g87 nodraw ?_; refine ⟨_, by (simp [*, F54, F77, F90, F91, recvCells, flg]; exact Is.mk), ?_⟩)
      | (refine tri_step (id := 13) (C := ⟨[], [], [(19, (8, 0, 0)), (21, (8, 0, 0)), (25, (4, 0, 0)), (34, (4, 0, 0)), (36, (4, 0, 0)), (40, (8, 0, 0)), (58, (3, 0, 0)), (61, (3, 0, 0)), (69, (3, 0, 0)), (70, (3, 0, 0)), (78, (3, 0, 0))]⟩) [2, 4, 5, 60] [(3, 0, 0), (5, 0, 0)] g87 (fun _ => ⟨q_mixed, by kernel_rfl⟩) ?_; refine ⟨_, by (simp [*, F54, F77, F90, F91, recvCells, flg]; exact Is.mk), ?_⟩)
      | (refine tri_step (id := 17) (C := ⟨[], [], [(19, (8, 0, 0)), (21, (8, 0, 0)), (25, (4, 0, 0)), (34, (4, 0, 0)), (36, (4, 0, 0)), (40, (8, 0, 0)), (58, (3, 0, 0)), (61, (3, 0, 0)), (69, (3, 0, 0)), (70, (3, 0, 0)), (78, (3, 0, 0))]⟩) [2, 4, 5, 83] [(3, 0, 0), (5, 0, 0)] g87 nodraw ?_; refine ⟨_, by (simp [*, F54, F77, F90, F91, recvCells, flg]; exact Is.mk), ?_⟩)
      | (refine tri_step (id := 19) (C := ⟨[], [], [(19, (8, 0, 0)), (21, (8, 0, 0)), (25, (4, 0, 0)), (34, (4, 0, 0)), (36, (4, 0, 0)), (40, (8, 0, 0)), (58, (3, 0, 0)), (61, (3, 0, 0)), (69, (3, 0, 0)), (70, (3, 0, 0)), (78, (3, 0, 0))]⟩) [4] [(5, 0, 0)] g87 nodraw ?_; refine ⟨_, by (simp [*, F54, F77, F90, F91, recvCells, flg]; exact Is.mk), ?_⟩)
      | (refine tri_seq ?_)
      ))
        all_goals (refine post_plainV (P := Try.prog) (fn := Try.f87) (by simp; exact IsV.mk) rfl ?_)
        all_goals (first | (simp [F54, F77, F90, F91, recvCells, flg]; done) | (simp [*, F54, F77, F90, F91, recvCells, flg]; done) | (simp_all [F54, F77, F90, F91, recvCells, flg]; done) | (simp [F54, F77, F90, F91, recvCells, flg] <;> (repeat' split) <;> simp_all; done) | (simp [F54, F77, F90, F91, recvCells, flg] <;> (repeat' split) <;> simp_all [Bool.and_assoc] <;> grind [List.length_eq_zero_iff, sendCells_co, recvCells_co, pieceCells_co, connCells_co, segCells_co, clockCells_co]))
  | cons x r =>
    have hlt := hl.lt
    have hget := hl.get
    have hw := hl.wi (by omega)
    have hfit : (out.length + 1) * 33 ≤ 1099511627776 := by have := hl.lt; have := hl.2; simp at *; omega
    have hl2 := hl.next
    clear hp5 hp3 hp4 hl
    simp only [layLoop] at hx
    simp only [layOk] at hk
    by_cases h1 : seqDiff (seqAdd x.seq x.data.length) p.seq < 0
    · rw [if_pos h1] at hx hk
      all_goals (repeat' (first
      | (refine tri_condT (b_true (by simp; with_reducible exact IsB.mk)) ?_)
      | (refine tri_skipT ?_)
      | (refine th_n ?_)
      | (refine in_n ?_)
      | (refine tri_block ?_)
      | (refine tri_step (id := 3) (C := ⟨[], [], [(19, (8, 0, 0)), (21, (8, 0, 0)), (25, (4, 0, 0)), (34, (4, 0, 0)), (36, (4, 0, 0)), (40, (8, 0, 0)), (58, (3, 0, 0)), (61, (3, 0, 0)), (69, (3, 0, 0)), (70, (3, 0, 0)), (78, (3, 0, 0))]⟩) [2, 3, 4, 5, 9, 10, 11, 12] [(3, 0, 0), (4, 0, 0), (5, 0, 0)] g87 nodraw ?_; refine ⟨_, by (simp [*, F54, F77, F90, F91, recvCells, flg]; exact Is.mk), ?_⟩)
      | (refine tri_step (id := 4) (C := ⟨[], [], [(19, (8, 0, 0)), (21, (8, 0, 0)), (25, (4, 0, 0)), (34, (4, 0, 0)), (36, (4, 0, 0)), (40, (8, 0, 0)), (58, (3, 0, 0)), (61, (3, 0, 0)), (69, (3, 0, 0)), (70, (3, 0, 0)), (78, (3, 0, 0))]⟩) [2, 3, 4, 5, 7, 9, 10, 11] [(3, 0, 0), (4, 0, 0), (5, 0, 0), (8, 0, 0)] g87 nodraw ?_; refine ⟨_, by (simp [*, F54, F77, F90, F91, recvCells, flg]; exact Is.mk), ?_⟩)
      | (refine tri_step (id := 6) (C := ⟨[], [], [(19, (8, 0, 0)), (21, (8, 0, 0)), (25, (4, 0, 0)), (34, (4, 0, 0)), (36, (4, 0, 0)), (40, (8, 0, 0)), (58, (3, 0, 0)), (61, (3, 0, 0)), (69, (3, 0, 0)), (70, (3, 0, 0)), (78, (3, 0, 0))]⟩) [2, 3, 4, 5, 7, 9, 10, 11, 18] [(3, 0, 0), (4, 0, 0), (5, 0, 0), (8, 0, 0)] g87 (fun _ => ⟨q_mixed, by kernel_rfl⟩) ?_; refine ⟨_, by (simp [*, F54, F77, F90, F91, recvCells, flg]; exact Is.mk), ?_⟩)
      | (refine tri_last (id := 7) (C := ⟨[], [], [(19, (8, 0, 0)), (21, (8, 0, 0)), (25, (4, 0, 0)), (34, (4, 0, 0)), (36, (4, 0, 0)), (40, (8, 0, 0)), (58, (3, 0, 0)), (61, (3, 0, 0)), (69, (3, 0, 0)), (70, (3, 0, 0)), (78, (3, 0, 0))]⟩) [2, 3, 4, 5, 9, 10, 11] [(3, 0, 0), (4, 0, 0), (5, 0, 0)] g87 nodraw ?_; refine ⟨_, by (simp [*, F54, F77, F90, F91, recvCells, flg]; exact Is.mk), ?_⟩)
      | (refine tri_last (id := 11) (C := ⟨[], [], [(19, (8, 0, 0)), (21, (8, 0, 0)), (25, (4, 0, 0)), (34, (4, 0, 0)), (36, (4, 0, 0)), (40, (8, 0, 0)), (58, (3, 0, 0)), (61, (3, 0, 0)), (69, (3, 0, 0)), (70, (3, 0, 0)), (78, (3, 0, 0))]⟩) [2, 3, 4, 5, 9, 10, 11] [(3, 0, 0), (4, 0, 0), (5, 0, 0)] g87 nodraw ?_; refine ⟨_, by (simp [*, F54, F77, F90, F91, recvCells, flg]; exact Is.mk), ?_⟩)
      | (refine tri_seq ?_)
      ))
      refine ⟨r.length, _, by simp [hn], le_Kn [((6,0,0),(33,0,0))] ⟨rfl, trivial⟩ (by simp) (by simp), i + 1, d ++ [x], r, out ++ [x], p, hl2, rfl, by simp; omega, hx, hk, rfl⟩
    · rw [if_neg h1] at hx hk
      by_cases h2 : seqDiff (seqAdd p.seq p.data.length) x.seq < 0
      · rw [if_pos h2] at hx hk
        all_goals (repeat' (first
      | (refine tri_condT (b_true (by simp; with_reducible exact IsB.mk)) ?_)
      | (refine tri_condF (b_true (by simp; with_reducible exact IsB.mk)) ?_)
      | (refine tri_skipT ?_)
      | (refine th_n ?_)
      | (refine in_n ?_)
      | (refine tri_block ?_)
      | (refine tri_step (id := 3) (C := ⟨[], [], [(19, (8, 0, 0)), (21, (8, 0, 0)), (25, (4, 0, 0)), (34, (4, 0, 0)), (36, (4, 0, 0)), (40, (8, 0, 0)), (58, (3, 0, 0)), (61, (3, 0, 0)), (69, (3, 0, 0)), (70, (3, 0, 0)), (78, (3, 0, 0))]⟩) [2, 3, 4, 5, 9, 10, 11, 12] [(3, 0, 0), (4, 0, 0), (5, 0, 0)] g87 nodraw ?_; refine ⟨_, by (simp [*, F54, F77, F90, F91, recvCells, flg]; exact Is.mk), ?_⟩)
      | (refine tri_step (id := 4) (C := ⟨[], [], [(19, (8, 0, 0)), (21, (8, 0, 0)), (25, (4, 0, 0)), (34, (4, 0, 0)), (36, (4, 0, 0)), (40, (8, 0, 0)), (58, (3, 0, 0)), (61, (3, 0, 0)), (69, (3, 0, 0)), (70, (3, 0, 0)), (78, (3, 0, 0))]⟩) [2, 3, 4, 5, 7, 9, 10, 11] [(3, 0, 0), (4, 0, 0), (5, 0, 0), (8, 0, 0)] g87 nodraw ?_; refine ⟨_, by (simp [*, F54, F77, F90, F91, recvCells, flg]; exact Is.mk), ?_⟩)
      | (refine tri_step (id := 6) (C := ⟨[], [], [(19, (8, 0, 0)), (21, (8, 0, 0)), (25, (4, 0, 0)), (34, (4, 0, 0)), (36, (4, 0, 0)), (40, (8, 0, 0)), (58, (3, 0, 0)), (61, (3, 0, 0)), (69, (3, 0, 0)), (70, (3, 0, 0)), (78, (3, 0, 0))]⟩) [2, 3, 4, 5, 7, 9, 10, 11, 18] [(3, 0, 0), (4, 0, 0), (5, 0, 0), (8, 0, 0)] g87 (fun _ => ⟨q_mixed, by kernel_rfl⟩) ?_; refine ⟨_, by (simp [*, F54, F77, F90, F91, recvCells, flg]; exact Is.mk), ?_⟩)
      | (refine tri_step (id := 8) (C := ⟨[], [], [(19, (8, 0, 0)), (21, (8, 0, 0)), (25, (4, 0, 0)), (34, (4, 0, 0)), (36, (4, 0, 0)), (40, (8, 0, 0)), (58, (3, 0, 0)), (61, (3, 0, 0)), (69, (3, 0, 0)), (70, (3, 0, 0)), (78, (3, 0, 0))]⟩) [2, 3, 4, 5, 7, 9, 10, 11, 33] [(3, 0, 0), (4, 0, 0), (5, 0, 0), (8, 0, 0)] g87 (fun _ => ⟨q_mixed, by kernel_rfl⟩) ?_; refine ⟨_, by (simp [*, F54, F77, F90, F91, recvCells, flg]; exact Is.mk), ?_⟩)
      | (refine tri_step (id := 9) (C := ⟨[], [], [(19, (8, 0, 0)), (21, (8, 0, 0)), (25, (4, 0, 0)), (34, (4, 0, 0)), (36, (4, 0, 0)), (40, (8, 0, 0)), (58, (3, 0, 0)), (61, (3, 0, 0)), (69, (3, 0, 0)), (70, (3, 0, 0)), (78, (3, 0, 0))]⟩) [2, 3, 4, 5, 7, 9, 10, 11] [(3, 0, 0), (4, 0, 0), (5, 0, 0), (8, 0, 0)] g87 nodraw ?_; refine ⟨_, by (simp [*, F54, F77, F90, F91, recvCells, flg]; exact Is.mk), ?_⟩)
      | (refine tri_last (id := 10) (C := ⟨[], [], [(19, (8, 0, 0)), (21, (8, 0, 0)), (25, (4, 0, 0)), (34, (4, 0, 0)), (36, (4, 0, 0)), (40, (8, 0, 0)), (58, (3, 0, 0)), (61, (3, 0, 0)), (69, (3, 0, 0)), (70, (3, 0, 0)), (78, (3, 0, 0))]⟩) [2, 3, 4, 5, 9, 10, 11] [(3, 0, 0), (4, 0, 0), (5, 0, 0)] g87 nodraw ?_; refine ⟨_, by (simp [*, F54, F77, F90, F91, recvCells, flg]; exact Is.mk), ?_⟩)
      | (refine tri_last (id := 11) (C := ⟨[], [], [(19, (8, 0, 0)), (21, (8, 0, 0)), (25, (4, 0, 0)), (34, (4, 0, 0)), (36, (4, 0, 0)), (40, (8, 0, 0)), (58, (3, 0, 0)), (61, (3, 0, 0)), (69, (3, 0, 0)), (70, (3, 0, 0)), (78, (3, 0, 0))]⟩) [2, 3, 4, 5, 9, 10, 11] [(3, 0, 0), (4, 0, 0), (5, 0, 0)] g87 nodraw ?_; refine ⟨_, by (simp [*, F54, F77, F90, F91, recvCells, flg]; exact Is.mk), ?_⟩)
      | (refine tri_seq ?_)
      ))
        refine ⟨r.length, _, by simp [hn], le_Kn [((6,0,0),(48,0,0))] ⟨rfl, trivial⟩ (by simp) (by simp), i + 1, d ++ [x], r, out ++ [p], x, hl2, rfl, by simp; omega, hx, hk, rfl⟩
      · rw [if_neg h2] at hx hk
        obtain ⟨hk1, hk2⟩ := hk
        all_goals (repeat' (first
      | (refine tri_condT (b_true (by simp; with_reducible exact IsB.mk)) ?_)
      | (refine tri_condF (b_true (by simp; with_reducible exact IsB.mk)) ?_)
      | (refine tri_skipT ?_)
      | (refine th_n ?_)
      | (refine in_n ?_)
      | (refine tri_block ?_)
      | (refine tri_step (id := 3) (C := ⟨[], [], [(19, (8, 0, 0)), (21, (8, 0, 0)), (25, (4, 0, 0)), (34, (4, 0, 0)), (36, (4, 0, 0)), (40, (8, 0, 0)), (58, (3, 0, 0)), (61, (3, 0, 0)), (69, (3, 0, 0)), (70, (3, 0, 0)), (78, (3, 0, 0))]⟩) [2, 3, 4, 5, 9, 10, 11, 12] [(3, 0, 0), (4, 0, 0), (5, 0, 0)] g87 nodraw ?_; refine ⟨_, by (simp [*, F54, F77, F90, F91, recvCells, flg]; exact Is.mk), ?_⟩)
      | (refine tri_step (id := 4) (C := ⟨[], [], [(19, (8, 0, 0)), (21, (8, 0, 0)), (25, (4, 0, 0)), (34, (4, 0, 0)), (36, (4, 0, 0)), (40, (8, 0, 0)), (58, (3, 0, 0)), (61, (3, 0, 0)), (69, (3, 0, 0)), (70, (3, 0, 0)), (78, (3, 0, 0))]⟩) [2, 3, 4, 5, 7, 9, 10, 11] [(3, 0, 0), (4, 0, 0), (5, 0, 0), (8, 0, 0)] g87 nodraw ?_; refine ⟨_, by (simp [*, F54, F77, F90, F91, recvCells, flg]; exact Is.mk), ?_⟩)
      | (refine tri_last (id := 5) (C := ⟨[], [], [(19, (8, 0, 0)), (21, (8, 0, 0)), (25, (4, 0, 0)), (34, (4, 0, 0)), (36, (4, 0, 0)), (40, (8, 0, 0)), (58, (3, 0, 0)), (61, (3, 0, 0)), (69, (3, 0, 0)), (70, (3, 0, 0)), (78, (3, 0, 0))]⟩) [2, 3, 4, 5, 9, 10, 11] [(3, 0, 0), (4, 0, 0), (5, 0, 0)] g87 nodraw ?_; refine ⟨_, by (simp [*, F54, F77, F90, F91, recvCells, flg]; exact Is.mk), ?_⟩)
      | (refine tri_step (id := 6) (C := ⟨[], [], [(19, (8, 0, 0)), (21, (8, 0, 0)), (25, (4, 0, 0)), (34, (4, 0, 0)), (36, (4, 0, 0)), (40, (8, 0, 0)), (58, (3, 0, 0)), (61, (3, 0, 0)), (69, (3, 0, 0)), (70, (3, 0, 0)), (78, (3, 0, 0))]⟩) [2, 3, 4, 5, 7, 9, 10, 11, 18] [(3, 0, 0), (4, 0, 0), (5, 0, 0), (8, 0, 0)] g87 (fun _ => ⟨q_mixed, by kernel_rfl⟩) ?_; refine ⟨_, by (simp [*, F54, F77, F90, F91, recvCells, flg]; exact Is.mk), ?_⟩)
      | (refine tri_step (id := 8) (C := ⟨[], [], [(19, (8, 0, 0)), (21, (8, 0, 0)), (25, (4, 0, 0)), (34, (4, 0, 0)), (36, (4, 0, 0)), (40, (8, 0, 0)), (58, (3, 0, 0)), (61, (3, 0, 0)), (69, (3, 0, 0)), (70, (3, 0, 0)), (78, (3, 0, 0))]⟩) [2, 3, 4, 5, 7, 9, 10, 11, 33] [(3, 0, 0), (4, 0, 0), (5, 0, 0), (8, 0, 0)] g87 (fun _ => ⟨q_mixed, by kernel_rfl⟩) ?_; refine ⟨_, by (simp [*, F54, F77, F90, F91, recvCells, flg]; exact Is.mk), ?_⟩)
      | (refine tri_last (id := 11) (C := ⟨[], [], [(19, (8, 0, 0)), (21, (8, 0, 0)), (25, (4, 0, 0)), (34, (4, 0, 0)), (36, (4, 0, 0)), (40, (8, 0, 0)), (58, (3, 0, 0)), (61, (3, 0, 0)), (69, (3, 0, 0)), (70, (3, 0, 0)), (78, (3, 0, 0))]⟩) [2, 3, 4, 5, 9, 10, 11] [(3, 0, 0), (4, 0, 0), (5, 0, 0)] g87 nodraw ?_; refine ⟨_, by (simp [*, F54, F77, F90, F91, recvCells, flg]; exact Is.mk), ?_⟩)
      | (refine tri_seq ?_)
      ))
        refine ⟨r.length, _, by simp [hn], le_K (by simp) (by simp), i + 1, d ++ [x], r, out, both x p, hl2, rfl, by simp; omega, hx, hk2, rfl⟩
open Classical in
noncomputable def F87 : Fn1
  | [x0, x1] => (whole pRecv x0).bind fun q => (whole pPiece x1).bind fun p0 => if layPre q p0 then some ((.agg (recvCells (lay q p0))), none) else none
  | _ => none
theorem spec87 : Spec1 Try.prog 87 F87 := spec_of fun ys r o h => by
  unfold F87 at h
  split at h
  case h_2 => cases h
  obtain ⟨q, k0, h1⟩ := bind_some h
  obtain ⟨p0, k1, h2⟩ := bind_some h1
  obtain ⟨hpre, hz⟩ := ite_some h2
  cases hz
  exact ⟨_, at87 q p0 hpre, rfl, le_plain ⟨whole_co pRecv_snd k0, ⟨whole_co pPiece_snd k1, trivial⟩⟩ (by simp only [List.all_cons, List.all_nil, Bool.not_false, Bool.and_self, notRefB (whole_co pRecv_snd k0) rfl (by simp), notRefB (whole_co pPiece_snd k1) rfl (by simp)]) rfl⟩
theorem en87 : Enters Try.prog 87 := enters_of Try.func87 (by kernel_rfl) (by kernel_rfl)

end Go.Proofs.Ytkjodjaamjnejaa

