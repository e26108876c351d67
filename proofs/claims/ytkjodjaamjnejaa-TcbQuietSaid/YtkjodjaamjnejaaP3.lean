import Derived.Test.YtkjodjaamjnejaaP2
set_option linter.all false
-- Printed by genwalk.py.
namespace Go.Proofs.Ytkjodjaamjnejaa
open Go Go.RowKit Caw
set_option linter.unusedSimpArgs false
set_option linter.unusedVariables false
set_option maxRecDepth 100000

-- caravel/tcb.Refuse
theorem g27 : GOk1 Try.prog (ctxOf [(48, F48), (54, F54)]) := gok_cons spec48 en48 (gok_cons spec54 en54 (gok_nil))
set_option maxHeartbeats 400000 in
theorem at27 (s : Caw.Seg) : SpecAt Try.prog 27 [.agg (segCells s)] (.agg (segCells (refuse s))) none := by
  all_goals refine specAt_of_tri Try.func27 rfl (Nat.le_of_ble_eq_true rfl) ?_
  all_goals (repeat' (first
    | (refine tri_skipT ?_)
    | (refine th_r ?_)
    | (refine tri_ret ?_)
    | (refine tri_step (id := 0) (C := ⟨[1], [], [(1, (2, 0, 0)), (17, (2, 0, 0)), (22, (4, 0, 0)), (23, (4, 0, 0))]⟩) [1, 2] [(3, 0, 0)] g27 nodraw ?_; refine ⟨_, by (simp [F48, F54, flg]; exact Is.mk), ?_⟩)
    | (refine tri_step (id := 1) (C := ⟨[1], [], [(1, (2, 0, 0)), (17, (2, 0, 0)), (22, (4, 0, 0)), (23, (4, 0, 0))]⟩) [1, 2, 3] [(3, 0, 0), (4, 0, 0)] g27 nodraw ?_; refine ⟨_, by (simp [F48, F54, flg]; exact Is.mk), ?_⟩)
    | (refine tri_step (id := 2) (C := ⟨[1], [], [(1, (2, 0, 0)), (17, (2, 0, 0)), (22, (4, 0, 0)), (23, (4, 0, 0))]⟩) [1, 2, 3, 12] [(3, 0, 0), (4, 0, 0)] g27 nodraw ?_; refine ⟨_, by (simp [F48, F54, flg]; exact Is.mk), ?_⟩)
    | (refine tri_step (id := 3) (C := ⟨[1], [], [(1, (2, 0, 0)), (17, (2, 0, 0)), (22, (4, 0, 0)), (23, (4, 0, 0))]⟩) [2, 3] [(3, 0, 0), (4, 0, 0)] g27 nodraw ?_; refine ⟨_, by (simp [F48, F54, flg]; exact Is.mk), ?_⟩)
    | (refine tri_step (id := 4) (C := ⟨[1], [], [(1, (2, 0, 0)), (17, (2, 0, 0)), (22, (4, 0, 0)), (23, (4, 0, 0))]⟩) [2] [(3, 0, 0)] g27 nodraw ?_; refine ⟨_, by (simp [F48, F54, flg]; exact Is.mk), ?_⟩)
    | (refine tri_step (id := 5) (C := ⟨[1], [], [(1, (2, 0, 0)), (17, (2, 0, 0)), (22, (4, 0, 0)), (23, (4, 0, 0))]⟩) [2, 3] [(3, 0, 0), (4, 0, 0)] g27 (fun _ => ⟨q_mixed, by kernel_rfl⟩) ?_; refine ⟨_, by (simp [F48, F54, flg]; exact Is.mk), ?_⟩)
    | (refine tri_step (id := 6) (C := ⟨[1], [], [(1, (2, 0, 0)), (17, (2, 0, 0)), (22, (4, 0, 0)), (23, (4, 0, 0))]⟩) [2] [(3, 0, 0)] g27 nodraw ?_; refine ⟨_, by (simp [F48, F54, flg]; exact Is.mk), ?_⟩)
    | (refine tri_cond (c := .tmp 12) (b_true (by simp; exact IsB.mk)) (fun hc => ?_) (fun hc => ?_))
    | (refine tri_seq ?_)
    ))
  all_goals (refine post_plainV (P := Try.prog) (fn := Try.f27) (by simp; exact IsV.mk) rfl ?_)
  all_goals (first | (simp [F48, F54, flg, refuse, hasF, segCells]; done) | (simp [*, F48, F54, flg, refuse, hasF, segCells]; done) | (simp_all [F48, F54, flg, refuse, hasF, segCells]; done) | (simp [F48, F54, flg, refuse, hasF, segCells] <;> (repeat' split) <;> simp_all; done) | (simp [F48, F54, flg, refuse, hasF, segCells] <;> (repeat' split) <;> simp_all [Bool.and_assoc] <;> grind [List.length_eq_zero_iff, sendCells_co, recvCells_co, pieceCells_co, connCells_co, segCells_co, clockCells_co]))
noncomputable def F27 : Fn1
  | [x0] => (whole pSeg x0).bind fun s => some ((.agg (segCells (refuse s))), none)
  | _ => none
theorem spec27 : Spec1 Try.prog 27 F27 := spec_of fun ys r o h => by
  unfold F27 at h
  split at h
  case h_2 => cases h
  obtain ⟨s, k0, h1⟩ := bind_some h
  cases h1
  exact ⟨_, at27 s, rfl, le_plain ⟨whole_co pSeg_snd k0, trivial⟩ (by simp only [List.all_cons, List.all_nil, Bool.not_false, Bool.and_self, notRefB (whole_co pSeg_snd k0) rfl (by simp)]) rfl⟩
theorem en27 : Enters Try.prog 27 := enters_of Try.func27 (by kernel_rfl) (by kernel_rfl)

-- (*caravel/tcb.end).shut
set_option maxHeartbeats 400000 in
theorem at57 (e : Caw.Ep) (y : Int) : SpecAt Try.prog 57 [.ref (epCells e flg), .v (.int .i64 y)] (.tup []) (some (epCells (epShut e y) flg)) := by
  all_goals refine specAt_of_tri Try.func57 rfl (Nat.le_of_ble_eq_true rfl) ?_
  all_goals (repeat' (first
    | (refine tri_last (id := 0) (C := ⟨[], [], []⟩) [] [(0, 1, 0)] gok_nil nodraw ?_; refine ⟨_, by (simp [*, flg]; exact Is.mk), ?_⟩)
    ))
  all_goals (refine post_obj [((0, 1, 38), _)] ⟨rfl, trivial⟩ _ rfl rfl (by simp) rfl (epCells_coE _ _ _ _ _ _ _ _ ⟨rfl, rfl⟩ ?_))
  all_goals (first | rfl | (simp [epShut]; done) | (simp [*, epShut]; done) | (simp_all [epShut]; done) | (simp [epShut] <;> (repeat' split) <;> simp_all; done) | (simp [epShut] <;> (repeat' split) <;> simp_all <;> grind) | (simp at hc; simp [*, epShut]; done) | trace_state)
noncomputable def F57 : Fn1
  | [x0, x1] => ((dR x0).bind (wholeC pEp)).bind fun e => (dI .i64 x1).bind fun y => some ((.tup []), (some (epCells (epShut e y) flg)))
  | _ => none
theorem spec57 : Spec1 Try.prog 57 F57 := spec_of fun ys r o h => by
  unfold F57 at h
  split at h
  case h_2 => cases h
  obtain ⟨e, k0, h1⟩ := bind_some h
  obtain ⟨cs0, kk0, j0⟩ := bind_some k0
  have e0 := dR_eq kk0
  subst e0
  obtain ⟨y, k1, h2⟩ := bind_some h1
  cases h2
  exact ⟨_, at57 e y, rfl, le_ref (fun s s2 hG => wholeC_coR pEp_snd j0 s s2 hG) ⟨dI_co k1, trivial⟩⟩
theorem en57 : Enters Try.prog 57 := enters_of Try.func57 (by kernel_rfl) (by kernel_rfl)

-- (*caravel/tcb.end).arm
set_option maxHeartbeats 400000 in
theorem at59 (e : Caw.Ep) : SpecAt Try.prog 59 [.ref (epCells e flg)] (.tup []) (some (epCells (epArm e) flg)) := by
  all_goals refine specAt_of_tri Try.func59 rfl (Nat.le_of_ble_eq_true rfl) ?_
  all_goals (repeat' (first
    | (refine tri_last (id := 0) (C := ⟨[], [], [(5, (0, 1, 0)), (11, (0, 1, 0)), (17, (0, 1, 0))]⟩) [] [(0, 1, 0)] gok_nil (fun _ => ⟨q_mixed, by kernel_rfl⟩) ?_; refine ⟨_, by (simp [*, flg]; exact Is.mk), ?_⟩)
    ))
  all_goals (refine post_obj [((0, 1, 38), _)] ⟨rfl, trivial⟩ _ rfl rfl (by simp) rfl (epCells_coE _ _ _ _ _ _ _ _ ⟨rfl, rfl⟩ ?_))
  all_goals (first | rfl | (simp [epArm]; done) | (simp [*, epArm]; done) | (simp_all [epArm]; done) | (simp [epArm] <;> (repeat' split) <;> simp_all; done) | (simp [epArm] <;> (repeat' split) <;> simp_all <;> grind) | (simp at hc; simp [*, epArm]; done) | trace_state)
noncomputable def F59 : Fn1
  | [x0] => ((dR x0).bind (wholeC pEp)).bind fun e => some ((.tup []), (some (epCells (epArm e) flg)))
  | _ => none
theorem spec59 : Spec1 Try.prog 59 F59 := spec_of fun ys r o h => by
  unfold F59 at h
  split at h
  case h_2 => cases h
  obtain ⟨e, k0, h1⟩ := bind_some h
  obtain ⟨cs0, kk0, j0⟩ := bind_some k0
  have e0 := dR_eq kk0
  subst e0
  cases h1
  exact ⟨_, at59 e, rfl, le_ref (fun s s2 hG => wholeC_coR pEp_snd j0 s s2 hG) trivial⟩
theorem en59 : Enters Try.prog 59 := enters_of Try.func59 (by kernel_rfl) (by kernel_rfl)

-- (*caravel/tcb.end).tell
theorem g72 : GOk1 Try.prog (ctxOf [(45, F45)]) := gok_cons spec45 en45 (gok_nil)
set_option maxHeartbeats 400000 in
theorem at72 (e : Caw.Ep) (f : Int) (p : Caw.Piece) (hpre : Rm 1 e.out) : SpecAt Try.prog 72 [.ref (epCells e flg), .v (.int .u8 f), .agg (pieceCells p)] (.tup []) (some (epCells (epTell e f p) flg)) := by
  have hf := rm_fit hpre
  all_goals refine specAt_of_tri Try.func72 rfl (Nat.le_of_ble_eq_true rfl) ?_
  all_goals (repeat' (first
    | (refine tri_skip ?_)
    | (refine th_n ?_)
    | (refine tri_step (id := 0) (C := ⟨[5], [], [(6, (7, 0, 0)), (11, (0, 1, 0)), (17, (0, 1, 0)), (19, (6, 0, 0)), (25, (0, 1, 0)), (29, (6, 0, 0)), (49, (0, 1, 0)), (55, (0, 1, 0))]⟩) [0, 1, 5] [(0, 1, 0)] g72 nodraw ?_; refine ⟨_, by (simp [*, F45, flg]; exact Is.mk), ?_⟩)
    | (refine tri_step (id := 1) (C := ⟨[5], [], [(6, (7, 0, 0)), (11, (0, 1, 0)), (17, (0, 1, 0)), (19, (6, 0, 0)), (25, (0, 1, 0)), (29, (6, 0, 0)), (49, (0, 1, 0)), (55, (0, 1, 0))]⟩) [0, 1, 6] [(0, 1, 0), (7, 0, 0)] g72 (fun _ => ⟨q_mixed, by kernel_rfl⟩) ?_; refine ⟨_, by (simp [*, F45, flg]; exact Is.mk), ?_⟩)
    | (refine tri_step (id := 2) (C := ⟨[5], [], [(6, (7, 0, 0)), (11, (0, 1, 0)), (17, (0, 1, 0)), (19, (6, 0, 0)), (25, (0, 1, 0)), (29, (6, 0, 0)), (49, (0, 1, 0)), (55, (0, 1, 0))]⟩) [0, 1, 6, 34] [(0, 1, 0), (7, 0, 0)] g72 nodraw ?_; refine ⟨_, by (simp [*, F45, flg]; exact Is.mk), ?_⟩)
    | (refine tri_last (id := 3) (C := ⟨[5], [], [(6, (7, 0, 0)), (11, (0, 1, 0)), (17, (0, 1, 0)), (19, (6, 0, 0)), (25, (0, 1, 0)), (29, (6, 0, 0)), (49, (0, 1, 0)), (55, (0, 1, 0))]⟩) [0, 1, 6] [(0, 1, 0), (7, 0, 0)] g72 nodraw ?_; refine ⟨_, by (simp [*, F45, flg]; exact Is.mk), ?_⟩)
    | (refine tri_step (id := 4) (C := ⟨[5], [], [(6, (7, 0, 0)), (11, (0, 1, 0)), (17, (0, 1, 0)), (19, (6, 0, 0)), (25, (0, 1, 0)), (29, (6, 0, 0)), (49, (0, 1, 0)), (55, (0, 1, 0))]⟩) [0, 6, 44] [(0, 1, 0), (7, 0, 0)] g72 nodraw ?_; refine ⟨_, by (simp [*, F45, flg]; exact Is.mk), ?_⟩)
    | (refine tri_last (id := 5) (C := ⟨[5], [], [(6, (7, 0, 0)), (11, (0, 1, 0)), (17, (0, 1, 0)), (19, (6, 0, 0)), (25, (0, 1, 0)), (29, (6, 0, 0)), (49, (0, 1, 0)), (55, (0, 1, 0))]⟩) [0, 6] [(0, 1, 0), (7, 0, 0)] g72 nodraw ?_; refine ⟨_, by (simp [*, F45, flg]; exact Is.mk), ?_⟩)
    | (refine tri_last (id := 6) (C := ⟨[5], [], [(6, (7, 0, 0)), (11, (0, 1, 0)), (17, (0, 1, 0)), (19, (6, 0, 0)), (25, (0, 1, 0)), (29, (6, 0, 0)), (49, (0, 1, 0)), (55, (0, 1, 0))]⟩) [] [(0, 1, 0)] g72 (fun _ => ⟨q_mixed, by kernel_rfl⟩) ?_; refine ⟨_, by (simp [*, F45, flg]; exact Is.mk), ?_⟩)
    | (apply tri_iteTo (c := .tmp 34) [0, 1, 6] [(0, 1, 0), (7, 0, 0)] (by simp; exact IsB.mk))
    | (apply tri_iteTo (c := .tmp 44) [0, 6] [(0, 1, 0), (7, 0, 0)] (by simp; exact IsB.mk))
    | (refine to_mk (by simp; exact IsK.mk))
    | (refine imp_ ?_)
    | ((simp; exact IsK.mk))
    | (refine tri_seq ?_)
    ))
  all_goals (refine post_obj [((0, 1, 38), _)] ⟨rfl, trivial⟩ _ rfl rfl (by simp) rfl (epCells_coE _ _ _ _ _ _ _ _ ⟨rfl, rfl⟩ ?_))
  all_goals (first | rfl | (simp [epTell, hasF]; done) | (simp [*, epTell, hasF]; done) | (simp_all [epTell, hasF]; done) | (simp [epTell, hasF] <;> (repeat' split) <;> simp_all; done) | (simp [epTell, hasF] <;> (repeat' split) <;> simp_all <;> grind) | (simp at hc; simp [*, epTell, hasF]; done) | trace_state)
open Classical in
noncomputable def F72 : Fn1
  | [x0, x1, x2] => ((dR x0).bind (wholeC pEp)).bind fun e => (dI .u8 x1).bind fun f => (whole pPiece x2).bind fun p => if Rm 1 e.out then some ((.tup []), (some (epCells (epTell e f p) flg))) else none
  | _ => none
theorem spec72 : Spec1 Try.prog 72 F72 := spec_of fun ys r o h => by
  unfold F72 at h
  split at h
  case h_2 => cases h
  obtain ⟨e, k0, h1⟩ := bind_some h
  obtain ⟨cs0, kk0, j0⟩ := bind_some k0
  have e0 := dR_eq kk0
  subst e0
  obtain ⟨f, k1, h2⟩ := bind_some h1
  obtain ⟨p, k2, h3⟩ := bind_some h2
  obtain ⟨hpre, hz⟩ := ite_some h3
  cases hz
  exact ⟨_, at72 e f p hpre, rfl, le_ref (fun s s2 hG => wholeC_coR pEp_snd j0 s s2 hG) ⟨dI_co k1, ⟨whole_co pPiece_snd k2, trivial⟩⟩⟩
theorem en72 : Enters Try.prog 72 := enters_of Try.func72 (by kernel_rfl) (by kernel_rfl)

-- (*caravel/tcb.end).ack
theorem g47 : GOk1 Try.prog (ctxOf [(72, F72), (56, F56), (54, F54)]) := gok_cons spec72 en72 (gok_cons spec56 en56 (gok_cons spec54 en54 (gok_nil)))
set_option maxHeartbeats 400000 in
theorem at47 (e : Caw.Ep) (hpre : Rm 1 e.out) : SpecAt Try.prog 47 [.ref (epCells e flg)] (.tup []) (some (epCells (epAck e) flg)) := by
  all_goals refine specAt_of_tri Try.func47 rfl (Nat.le_of_ble_eq_true rfl) ?_
  all_goals (repeat' (first
    | (refine tri_last (id := 0) (C := ⟨[], [72], [(7, (0, 1, 0)), (12, (0, 1, 0))]⟩) [] [(0, 1, 0)] g47 (fun _ => ⟨q_mixed, by kernel_rfl⟩) ?_; refine ⟨_, by (simp [*, F72, F56, F54, flg]; exact Is.mk), ?_⟩)
    ))
  all_goals (refine post_obj [((0, 1, 38), _)] ⟨rfl, trivial⟩ _ rfl rfl (by simp) rfl (epCells_coE _ _ _ _ _ _ _ _ ⟨rfl, rfl⟩ ?_))
  all_goals (first | rfl | (simp [epAck]; done) | (simp [*, epAck]; done) | (simp_all [epAck]; done) | (simp [epAck] <;> (repeat' split) <;> simp_all; done) | (simp [epAck] <;> (repeat' split) <;> simp_all <;> grind) | (simp at hc; simp [*, epAck]; done) | trace_state)
open Classical in
noncomputable def F47 : Fn1
  | [x0] => ((dR x0).bind (wholeC pEp)).bind fun e => if Rm 1 e.out then some ((.tup []), (some (epCells (epAck e) flg))) else none
  | _ => none
theorem spec47 : Spec1 Try.prog 47 F47 := spec_of fun ys r o h => by
  unfold F47 at h
  split at h
  case h_2 => cases h
  obtain ⟨e, k0, h1⟩ := bind_some h
  obtain ⟨cs0, kk0, j0⟩ := bind_some k0
  have e0 := dR_eq kk0
  subst e0
  obtain ⟨hpre, hz⟩ := ite_some h1
  cases hz
  exact ⟨_, at47 e hpre, rfl, le_ref (fun s s2 hG => wholeC_coR pEp_snd j0 s s2 hG) trivial⟩
theorem en47 : Enters Try.prog 47 := enters_of Try.func47 (by kernel_rfl) (by kernel_rfl)

-- (*caravel/tcb.end).hello
theorem g67 : GOk1 Try.prog (ctxOf [(72, F72)]) := gok_cons spec72 en72 (gok_nil)
set_option maxHeartbeats 400000 in
theorem at67 (e : Caw.Ep) (hpre : Rm 1 e.out) : SpecAt Try.prog 67 [.ref (epCells e flg)] (.tup []) (some (epCells (epHello e) flg)) := by
  all_goals refine specAt_of_tri Try.func67 rfl (Nat.le_of_ble_eq_true rfl) ?_
  all_goals (repeat' (first
    | (refine tri_skip ?_)
    | (refine th_n ?_)
    | (refine tri_step (id := 0) (C := ⟨[], [72], []⟩) [0, 2] [(0, 1, 0)] g67 nodraw ?_; refine ⟨_, by (simp [*, F72, flg]; exact Is.mk), ?_⟩)
    | (refine tri_step (id := 1) (C := ⟨[], [72], []⟩) [0, 2, 8] [(0, 1, 0)] g67 nodraw ?_; refine ⟨_, by (simp [*, F72, flg]; exact Is.mk), ?_⟩)
    | (refine tri_last (id := 2) (C := ⟨[], [72], []⟩) [0, 2] [(0, 1, 0)] g67 nodraw ?_; refine ⟨_, by (simp [*, F72, flg]; exact Is.mk), ?_⟩)
    | (refine tri_last (id := 3) (C := ⟨[], [72], []⟩) [] [(0, 1, 0)] g67 nodraw ?_; refine ⟨_, by (simp [*, F72, flg]; exact Is.mk), ?_⟩)
    | (apply tri_iteTo (c := .tmp 8) [0, 2] [(0, 1, 0)] (by simp; exact IsB.mk))
    | (refine to_mk (by simp; exact IsK.mk))
    | (refine imp_ ?_)
    | ((simp; exact IsK.mk))
    | (refine tri_seq ?_)
    ))
  all_goals (refine post_obj [((0, 1, 38), _)] ⟨rfl, trivial⟩ _ rfl rfl (by simp) rfl (epCells_coE _ _ _ _ _ _ _ _ ⟨rfl, rfl⟩ ?_))
  all_goals (first | rfl | (simp [epHello]; done) | (simp [*, epHello]; done) | (simp_all [epHello]; done) | (simp [epHello] <;> (repeat' split) <;> simp_all; done) | (simp [epHello] <;> (repeat' split) <;> simp_all <;> grind) | (simp at hc; simp [*, epHello]; done) | trace_state)
open Classical in
noncomputable def F67 : Fn1
  | [x0] => ((dR x0).bind (wholeC pEp)).bind fun e => if Rm 1 e.out then some ((.tup []), (some (epCells (epHello e) flg))) else none
  | _ => none
theorem spec67 : Spec1 Try.prog 67 F67 := spec_of fun ys r o h => by
  unfold F67 at h
  split at h
  case h_2 => cases h
  obtain ⟨e, k0, h1⟩ := bind_some h
  obtain ⟨cs0, kk0, j0⟩ := bind_some k0
  have e0 := dR_eq kk0
  subst e0
  obtain ⟨hpre, hz⟩ := ite_some h1
  cases hz
  exact ⟨_, at67 e hpre, rfl, le_ref (fun s s2 hG => wholeC_coR pEp_snd j0 s s2 hG) trivial⟩
theorem en67 : Enters Try.prog 67 := enters_of Try.func67 (by kernel_rfl) (by kernel_rfl)

-- (*caravel/tcb.end).broken
theorem g46 : GOk1 Try.prog (ctxOf [(57, F57)]) := gok_cons spec57 en57 (gok_nil)
set_option maxHeartbeats 400000 in
theorem at46 (e : Caw.Ep) : SpecAt Try.prog 46 [.ref (epCells e flg)] (.tup []) (some (epCells (epBroken e) flg)) := by
  all_goals refine specAt_of_tri Try.func46 rfl (Nat.le_of_ble_eq_true rfl) ?_
  all_goals (repeat' (first
    | (refine tri_skipT ?_)
    | (refine th_r ?_)
    | (refine tri_ret ?_)
    | (refine tri_step (id := 0) (C := ⟨[], [57], []⟩) [0, 7] [(0, 1, 0)] g46 nodraw ?_; refine ⟨_, by (simp [*, F57, flg]; exact Is.mk), ?_⟩)
    | (refine tri_step (id := 1) (C := ⟨[], [57], []⟩) [] [(0, 1, 0)] g46 nodraw ?_; refine ⟨_, by (simp [*, F57, flg]; exact Is.mk), ?_⟩)
    | (refine tri_last (id := 2) (C := ⟨[], [57], []⟩) [] [(0, 1, 0)] g46 nodraw ?_; refine ⟨_, by (simp [*, F57, flg]; exact Is.mk), ?_⟩)
    | (refine tri_cond (c := .tmp 7) (b_true (by simp; exact IsB.mk)) (fun hc => ?_) (fun hc => ?_))
    | (refine tri_seq ?_)
    ))
  all_goals (refine post_obj [((0, 1, 38), _)] ⟨rfl, trivial⟩ _ rfl rfl (by simp) rfl (epCells_coE _ _ _ _ _ _ _ _ ⟨rfl, rfl⟩ ?_))
  all_goals (first | rfl | (simp [epBroken]; done) | (simp [*, epBroken]; done) | (simp_all [epBroken]; done) | (simp [epBroken] <;> (repeat' split) <;> simp_all; done) | (simp [epBroken] <;> (repeat' split) <;> simp_all <;> grind) | (simp at hc; simp [*, epBroken]; done) | trace_state)
noncomputable def F46 : Fn1
  | [x0] => ((dR x0).bind (wholeC pEp)).bind fun e => some ((.tup []), (some (epCells (epBroken e) flg)))
  | _ => none
theorem spec46 : Spec1 Try.prog 46 F46 := spec_of fun ys r o h => by
  unfold F46 at h
  split at h
  case h_2 => cases h
  obtain ⟨e, k0, h1⟩ := bind_some h
  obtain ⟨cs0, kk0, j0⟩ := bind_some k0
  have e0 := dR_eq kk0
  subst e0
  cases h1
  exact ⟨_, at46 e, rfl, le_ref (fun s s2 hG => wholeC_coR pEp_snd j0 s s2 hG) trivial⟩
theorem en46 : Enters Try.prog 46 := enters_of Try.func46 (by kernel_rfl) (by kernel_rfl)

-- (*caravel/tcb.end).meet
theorem g68 : GOk1 Try.prog (ctxOf [(83, F83), (54, F54)]) := gok_cons spec83 en83 (gok_cons spec54 en54 (gok_nil))
set_option maxHeartbeats 400000 in
theorem at68 (e : Caw.Ep) (s : Caw.Seg) : SpecAt Try.prog 68 [.ref (epCells e flg), .agg (segCells s)] (.tup []) (some (epCells (epMeet e s) flg)) := by
  all_goals refine specAt_of_tri Try.func68 rfl (Nat.le_of_ble_eq_true rfl) ?_
  all_goals (repeat' (first
    | (refine tri_skip ?_)
    | (refine tri_step (id := 0) (C := ⟨[3], [], []⟩) [0, 3] [(0, 1, 0)] g68 nodraw ?_; refine ⟨_, by (simp [*, F83, F54, flg]; exact Is.mk), ?_⟩)
    | (refine tri_step (id := 1) (C := ⟨[3], [], []⟩) [0, 3] [(0, 1, 0)] g68 nodraw ?_; refine ⟨_, by (simp [*, F83, F54, flg]; exact Is.mk), ?_⟩)
    | (refine tri_step (id := 2) (C := ⟨[3], [], []⟩) [0, 3] [(0, 1, 0)] g68 nodraw ?_; refine ⟨_, by (simp [*, F83, F54, flg]; exact Is.mk), ?_⟩)
    | (refine tri_step (id := 3) (C := ⟨[3], [], []⟩) [0, 3, 21] [(0, 1, 0)] g68 nodraw ?_; refine ⟨_, by (simp [*, F83, F54, flg]; exact Is.mk), ?_⟩)
    | (refine tri_last (id := 4) (C := ⟨[3], [], []⟩) [] [(0, 1, 0)] g68 nodraw ?_; refine ⟨_, by (simp [*, F83, F54, flg]; exact Is.mk), ?_⟩)
    | (apply tri_iteTo (c := .tmp 21) [] [(0, 1, 0)] (by simp; exact IsB.mk))
    | (refine to_mk (by simp; exact IsK.mk))
    | (refine imp_ ?_)
    | ((simp; exact IsK.mk))
    ))
  all_goals (refine post_obj [((0, 1, 38), _)] ⟨rfl, trivial⟩ _ rfl rfl (by simp) rfl (epCells_coE _ _ _ _ _ _ _ _ ⟨rfl, rfl⟩ ?_))
  all_goals (first | rfl | (simp [epMeet]; done) | (simp [*, epMeet]; done) | (simp_all [epMeet]; done) | (simp [epMeet] <;> (repeat' split) <;> simp_all; done) | (simp [epMeet] <;> (repeat' split) <;> simp_all <;> grind) | (simp at hc; simp [*, epMeet]; done) | trace_state)
noncomputable def F68 : Fn1
  | [x0, x1] => ((dR x0).bind (wholeC pEp)).bind fun e => (whole pSeg x1).bind fun s => some ((.tup []), (some (epCells (epMeet e s) flg)))
  | _ => none
theorem spec68 : Spec1 Try.prog 68 F68 := spec_of fun ys r o h => by
  unfold F68 at h
  split at h
  case h_2 => cases h
  obtain ⟨e, k0, h1⟩ := bind_some h
  obtain ⟨cs0, kk0, j0⟩ := bind_some k0
  have e0 := dR_eq kk0
  subst e0
  obtain ⟨s, k1, h2⟩ := bind_some h1
  cases h2
  exact ⟨_, at68 e s, rfl, le_ref (fun s s2 hG => wholeC_coR pEp_snd j0 s s2 hG) ⟨whole_co pSeg_snd k1, trivial⟩⟩
theorem en68 : Enters Try.prog 68 := enters_of Try.func68 (by kernel_rfl) (by kernel_rfl)

-- (*caravel/tcb.end).measure
theorem g74 : GOk1 Try.prog (ctxOf [(84, F84), (85, F85)]) := gok_cons spec84 en84 (gok_cons spec85 en85 (gok_nil))
set_option maxHeartbeats 400000 in
theorem at74 (e : Caw.Ep) (a : Int) : SpecAt Try.prog 74 [.ref (epCells e flg), .v (.int .u32 a)] (.tup []) (some (epCells (epMeasure e a) flg)) := by
  all_goals refine specAt_of_tri Try.func74 rfl (Nat.le_of_ble_eq_true rfl) ?_
  all_goals (repeat' (first
    | (refine tri_skip ?_)
    | (refine tri_stepG (id := 0) (C := ⟨[], [], [(23, (0, 1, 0)), (27, (0, 1, 0)), (31, (0, 1, 0)), (36, (0, 1, 0)), (43, (0, 1, 0))]⟩) [0, 18] [(0, 1, 0)] g74 nodraw ?_; refine ⟨_, (run_split 0 6 9 (by simp [*, F84, F85, flg]; exact Is.mk) (by simp; exact IsB.mk) (by simp [*, F84, F85, flg]; exact IsK.mk) (by simp [*, F84, F85, flg]; exact IsK.mk) (by simp; exact IsK.mk)), ?_⟩)
    | (refine tri_step (id := 1) (C := ⟨[], [], [(23, (0, 1, 0)), (27, (0, 1, 0)), (31, (0, 1, 0)), (36, (0, 1, 0)), (43, (0, 1, 0))]⟩) [0] [(0, 1, 0)] g74 (fun _ => ⟨q_mixed, by kernel_rfl⟩) ?_; refine ⟨_, by (simp [*, F84, F85, flg]; exact Is.mk), ?_⟩)
    | (refine tri_last (id := 2) (C := ⟨[], [], [(23, (0, 1, 0)), (27, (0, 1, 0)), (31, (0, 1, 0)), (36, (0, 1, 0)), (43, (0, 1, 0))]⟩) [] [(0, 1, 0)] g74 nodraw ?_; refine ⟨_, by (simp [*, F84, F85, flg]; exact Is.mk), ?_⟩)
    | (apply tri_iteTo (c := .tmp 18) [] [(0, 1, 0)] (by simp; exact IsB.mk))
    | (refine to_mk (by simp; exact IsK.mk))
    | (refine imp_ ?_)
    | ((simp; exact IsK.mk))
    ))
  all_goals (refine post_obj [((0, 1, 38), _)] ⟨rfl, trivial⟩ _ rfl rfl (by simp) rfl (epCells_coE _ _ _ _ _ _ _ _ ⟨rfl, rfl⟩ ?_))
  all_goals (first | rfl | (simp [epMeasure]; done) | (simp [*, epMeasure]; done) | (simp_all [epMeasure]; done) | (simp [epMeasure] <;> (repeat' split) <;> simp_all; done) | (simp [epMeasure] <;> (repeat' split) <;> simp_all <;> grind) | (simp at hc; simp [*, epMeasure]; done) | trace_state)
noncomputable def F74 : Fn1
  | [x0, x1] => ((dR x0).bind (wholeC pEp)).bind fun e => (dI .u32 x1).bind fun a => some ((.tup []), (some (epCells (epMeasure e a) flg)))
  | _ => none
theorem spec74 : Spec1 Try.prog 74 F74 := spec_of fun ys r o h => by
  unfold F74 at h
  split at h
  case h_2 => cases h
  obtain ⟨e, k0, h1⟩ := bind_some h
  obtain ⟨cs0, kk0, j0⟩ := bind_some k0
  have e0 := dR_eq kk0
  subst e0
  obtain ⟨a, k1, h2⟩ := bind_some h1
  cases h2
  exact ⟨_, at74 e a, rfl, le_ref (fun s s2 hG => wholeC_coR pEp_snd j0 s s2 hG) ⟨dI_co k1, trivial⟩⟩
theorem en74 : Enters Try.prog 74 := enters_of Try.func74 (by kernel_rfl) (by kernel_rfl)

-- (*caravel/tcb.end).opened
theorem g70 : GOk1 Try.prog (ctxOf [(74, F74)]) := gok_cons spec74 en74 (gok_nil)
set_option maxHeartbeats 400000 in
theorem at70 (e : Caw.Ep) (s : Caw.Seg) : SpecAt Try.prog 70 [.ref (epCells e flg), .agg (segCells s)] (.tup []) (some (epCells (epOpened e s) flg)) := by
  all_goals refine specAt_of_tri Try.func70 rfl (Nat.le_of_ble_eq_true rfl) ?_
  all_goals (repeat' (first
    | (refine tri_step (id := 0) (C := ⟨[3], [74], []⟩) [0, 3] [(0, 1, 0)] g70 nodraw ?_; refine ⟨_, by (simp [*, F74, flg]; exact Is.mk), ?_⟩)
    | (refine tri_step (id := 1) (C := ⟨[3], [74], []⟩) [0, 3] [(0, 1, 0)] g70 nodraw ?_; refine ⟨_, by (simp [*, F74, flg]; exact Is.mk), ?_⟩)
    | (refine tri_last (id := 2) (C := ⟨[3], [74], []⟩) [] [(0, 1, 0)] g70 nodraw ?_; refine ⟨_, by (simp [*, F74, flg]; exact Is.mk), ?_⟩)
    ))
  all_goals (refine post_obj [((0, 1, 38), _)] ⟨rfl, trivial⟩ _ rfl rfl (by simp) rfl (epCells_coE _ _ _ _ _ _ _ _ ⟨rfl, rfl⟩ ?_))
  all_goals (first | rfl | (simp [epOpened]; done) | (simp [*, epOpened]; done) | (simp_all [epOpened]; done) | (simp [epOpened] <;> (repeat' split) <;> simp_all; done) | (simp [epOpened] <;> (repeat' split) <;> simp_all <;> grind) | (simp at hc; simp [*, epOpened]; done) | trace_state)
noncomputable def F70 : Fn1
  | [x0, x1] => ((dR x0).bind (wholeC pEp)).bind fun e => (whole pSeg x1).bind fun s => some ((.tup []), (some (epCells (epOpened e s) flg)))
  | _ => none
theorem spec70 : Spec1 Try.prog 70 F70 := spec_of fun ys r o h => by
  unfold F70 at h
  split at h
  case h_2 => cases h
  obtain ⟨e, k0, h1⟩ := bind_some h
  obtain ⟨cs0, kk0, j0⟩ := bind_some k0
  have e0 := dR_eq kk0
  subst e0
  obtain ⟨s, k1, h2⟩ := bind_some h1
  cases h2
  exact ⟨_, at70 e s, rfl, le_ref (fun s s2 hG => wholeC_coR pEp_snd j0 s s2 hG) ⟨whole_co pSeg_snd k1, trivial⟩⟩
theorem en70 : Enters Try.prog 70 := enters_of Try.func70 (by kernel_rfl) (by kernel_rfl)

-- (*caravel/tcb.end).over
theorem g76 : GOk1 Try.prog (ctxOf [(57, F57)]) := gok_cons spec57 en57 (gok_nil)
set_option maxHeartbeats 400000 in
theorem at76 (e : Caw.Ep) : SpecAt Try.prog 76 [.ref (epCells e flg)] (.tup []) (some (epCells (epOver e) flg)) := by
  all_goals refine specAt_of_tri Try.func76 rfl (Nat.le_of_ble_eq_true rfl) ?_
  all_goals (repeat' (first
    | (refine tri_skip ?_)
    | (refine in_n ?_)
    | (refine tri_block ?_)
    | (refine tri_last (id := 0) (C := ⟨[], [57], []⟩) [] [(0, 1, 0)] g76 nodraw ?_; refine ⟨_, by (simp [*, F57, flg]; exact Is.mk), ?_⟩)
    | (refine tri_stepG (id := 1) (C := ⟨[], [57], []⟩) [0, 4] [(0, 1, 0)] g76 nodraw ?_; refine ⟨_, (run_split 0 7 11 (by simp [*, F57, flg]; exact Is.mk) (by simp; exact IsB.mk) (run_split 7 9 20 (by simp [*, F57, flg]; exact Is.mk) (by simp; exact IsB.mk) (by simp [*, F57, flg]; exact IsK.mk) (by simp [*, F57, flg]; exact IsK.mk) (by simp; exact IsK.mk)) (run_split 7 9 20 (by simp [*, F57, flg]; exact Is.mk) (by simp; exact IsB.mk) (by simp [*, F57, flg]; exact IsK.mk) (by simp [*, F57, flg]; exact IsK.mk) (by simp; exact IsK.mk)) (by simp; exact IsK.mk)), ?_⟩)
    | (refine tri_step (id := 2) (C := ⟨[], [57], []⟩) [0, 29] [(0, 1, 0)] g76 nodraw ?_; refine ⟨_, by (simp [*, F57, flg]; exact Is.mk), ?_⟩)
    | (refine tri_last (id := 3) (C := ⟨[], [57], []⟩) [] [(0, 1, 0)] g76 nodraw ?_; refine ⟨_, by (simp [*, F57, flg]; exact Is.mk), ?_⟩)
    | (apply tri_iteTo (c := .tmp 4) [] [(0, 1, 0)] (by simp; exact IsB.mk))
    | (apply tri_iteTo (c := .tmp 29) [] [(0, 1, 0)] (by simp; exact IsB.mk))
    | (refine to_mk (by simp; exact IsK.mk))
    | (refine imp_ ?_)
    | ((simp; exact IsK.mk))
    ))
  all_goals (refine post_obj [((0, 1, 38), _)] ⟨rfl, trivial⟩ _ rfl rfl (by simp) rfl (epCells_coE _ _ _ _ _ _ _ _ ⟨rfl, rfl⟩ ?_))
  all_goals (first | rfl | (simp [epOver]; done) | (simp [*, epOver]; done) | (simp_all [epOver]; done) | (simp [epOver] <;> (repeat' split) <;> simp_all; done) | (simp [epOver] <;> (repeat' split) <;> simp_all <;> grind) | (simp at hc; simp [*, epOver]; done) | trace_state)
noncomputable def F76 : Fn1
  | [x0] => ((dR x0).bind (wholeC pEp)).bind fun e => some ((.tup []), (some (epCells (epOver e) flg)))
  | _ => none
theorem spec76 : Spec1 Try.prog 76 F76 := spec_of fun ys r o h => by
  unfold F76 at h
  split at h
  case h_2 => cases h
  obtain ⟨e, k0, h1⟩ := bind_some h
  obtain ⟨cs0, kk0, j0⟩ := bind_some k0
  have e0 := dR_eq kk0
  subst e0
  cases h1
  exact ⟨_, at76 e, rfl, le_ref (fun s s2 hG => wholeC_coR pEp_snd j0 s s2 hG) trivial⟩
theorem en76 : Enters Try.prog 76 := enters_of Try.func76 (by kernel_rfl) (by kernel_rfl)

-- (*caravel/tcb.end).again
theorem g60 : GOk1 Try.prog (ctxOf [(67, F67), (72, F72), (79, F79)]) := gok_cons spec67 en67 (gok_cons spec72 en72 (gok_cons spec79 en79 (gok_nil)))
set_option maxHeartbeats 400000 in
theorem at60 (e : Caw.Ep) (hpre : Rm 1 e.out ∧ e.conn.send.sm) : SpecAt Try.prog 60 [.ref (epCells e flg)] (.tup []) (some (epCells (epAgain e) flg)) := by
  obtain ⟨hp1, hp2⟩ := hpre
  all_goals refine specAt_of_tri Try.func60 rfl (Nat.le_of_ble_eq_true rfl) ?_
  all_goals (repeat' (first
    | (refine tri_skipT ?_)
    | (refine tri_skip ?_)
    | (refine th_n ?_)
    | (refine th_r ?_)
    | (refine tri_ret ?_)
    | (refine tri_step (id := 0) (C := ⟨[], [67, 72], [(2, (3, 0, 0)), (18, (0, 1, 0)), (23, (0, 1, 0))]⟩) [0, 11] [(0, 1, 0)] g60 nodraw ?_; refine ⟨_, by (simp [*, F67, F72, F79, flg]; exact Is.mk), ?_⟩)
    | (refine tri_step (id := 1) (C := ⟨[], [67, 72], [(2, (3, 0, 0)), (18, (0, 1, 0)), (23, (0, 1, 0))]⟩) [] [(0, 1, 0)] g60 nodraw ?_; refine ⟨_, by (simp [*, F67, F72, F79, flg]; exact Is.mk), ?_⟩)
    | (refine tri_step (id := 2) (C := ⟨[], [67, 72], [(2, (3, 0, 0)), (18, (0, 1, 0)), (23, (0, 1, 0))]⟩) [0, 2, 3, 4] [(0, 1, 0), (3, 0, 0)] g60 (fun _ => ⟨q_mixed, by kernel_rfl⟩) ?_; refine ⟨_, by (simp [*, F67, F72, F79, flg]; exact Is.mk), ?_⟩)
    | (refine tri_step (id := 3) (C := ⟨[], [67, 72], [(2, (3, 0, 0)), (18, (0, 1, 0)), (23, (0, 1, 0))]⟩) [0, 2, 3, 30] [(0, 1, 0), (3, 0, 0)] g60 nodraw ?_; refine ⟨_, by (simp [*, F67, F72, F79, flg]; exact Is.mk), ?_⟩)
    | (refine tri_step (id := 4) (C := ⟨[], [67, 72], [(2, (3, 0, 0)), (18, (0, 1, 0)), (23, (0, 1, 0))]⟩) [] [(0, 1, 0)] g60 nodraw ?_; refine ⟨_, by (simp [*, F67, F72, F79, flg]; exact Is.mk), ?_⟩)
    | (refine tri_step (id := 5) (C := ⟨[], [67, 72], [(2, (3, 0, 0)), (18, (0, 1, 0)), (23, (0, 1, 0))]⟩) [0, 2, 3, 5] [(0, 1, 0), (3, 0, 0)] g60 nodraw ?_; refine ⟨_, by (simp [*, F67, F72, F79, flg]; exact Is.mk), ?_⟩)
    | (refine tri_step (id := 6) (C := ⟨[], [67, 72], [(2, (3, 0, 0)), (18, (0, 1, 0)), (23, (0, 1, 0))]⟩) [0, 2, 3, 5, 38] [(0, 1, 0), (3, 0, 0)] g60 nodraw ?_; refine ⟨_, by (simp [*, F67, F72, F79, flg]; exact Is.mk), ?_⟩)
    | (refine tri_last (id := 7) (C := ⟨[], [67, 72], [(2, (3, 0, 0)), (18, (0, 1, 0)), (23, (0, 1, 0))]⟩) [0, 2, 3, 5] [(0, 1, 0), (3, 0, 0)] g60 nodraw ?_; refine ⟨_, by (simp [*, F67, F72, F79, flg]; exact Is.mk), ?_⟩)
    | (refine tri_step (id := 8) (C := ⟨[], [67, 72], [(2, (3, 0, 0)), (18, (0, 1, 0)), (23, (0, 1, 0))]⟩) [0, 2, 5, 41] [(0, 1, 0), (3, 0, 0)] g60 nodraw ?_; refine ⟨_, by (simp [*, F67, F72, F79, flg]; exact Is.mk), ?_⟩)
    | (refine tri_last (id := 9) (C := ⟨[], [67, 72], [(2, (3, 0, 0)), (18, (0, 1, 0)), (23, (0, 1, 0))]⟩) [0, 2, 5] [(0, 1, 0), (3, 0, 0)] g60 nodraw ?_; refine ⟨_, by (simp [*, F67, F72, F79, flg]; exact Is.mk), ?_⟩)
    | (refine tri_last (id := 10) (C := ⟨[], [67, 72], [(2, (3, 0, 0)), (18, (0, 1, 0)), (23, (0, 1, 0))]⟩) [] [(0, 1, 0)] g60 nodraw ?_; refine ⟨_, by (simp [*, F67, F72, F79, flg]; exact Is.mk), ?_⟩)
    | (refine tri_cond (c := .tmp 11) (b_true (by simp; exact IsB.mk)) (fun hc => ?_) (fun hc => ?_))
    | (refine tri_cond (c := .tmp 30) (b_true (by simp; exact IsB.mk)) (fun hc => ?_) (fun hc => ?_))
    | (apply tri_iteTo (c := .tmp 38) [0, 2, 3, 5] [(0, 1, 0), (3, 0, 0)] (by simp; exact IsB.mk))
    | (apply tri_iteTo (c := .tmp 41) [0, 2, 5] [(0, 1, 0), (3, 0, 0)] (by simp; exact IsB.mk))
    | (refine to_mk (by simp; exact IsK.mk))
    | (refine imp_ ?_)
    | ((simp; exact IsK.mk))
    | (refine tri_seq ?_)
    ))
  all_goals (refine post_obj [((0, 1, 38), _)] ⟨rfl, trivial⟩ _ rfl rfl (by simp) rfl (epCells_coE _ _ _ _ _ _ _ _ ⟨rfl, rfl⟩ ?_))
  all_goals (first | rfl | (simp [epAgain, pshF]; done) | (simp [*, epAgain, pshF]; done) | (simp_all [epAgain, pshF]; done) | (simp [epAgain, pshF] <;> (repeat' split) <;> simp_all; done) | (simp [epAgain, pshF] <;> (repeat' split) <;> simp_all <;> grind) | (simp at hc; simp [*, epAgain, pshF]; done) | trace_state)
open Classical in
noncomputable def F60 : Fn1
  | [x0] => ((dR x0).bind (wholeC pEp)).bind fun e => if Rm 1 e.out ∧ e.conn.send.sm then some ((.tup []), (some (epCells (epAgain e) flg))) else none
  | _ => none
theorem spec60 : Spec1 Try.prog 60 F60 := spec_of fun ys r o h => by
  unfold F60 at h
  split at h
  case h_2 => cases h
  obtain ⟨e, k0, h1⟩ := bind_some h
  obtain ⟨cs0, kk0, j0⟩ := bind_some k0
  have e0 := dR_eq kk0
  subst e0
  obtain ⟨hpre, hz⟩ := ite_some h1
  cases hz
  exact ⟨_, at60 e hpre, rfl, le_ref (fun s s2 hG => wholeC_coR pEp_snd j0 s s2 hG) trivial⟩
theorem en60 : Enters Try.prog 60 := enters_of Try.func60 (by kernel_rfl) (by kernel_rfl)

end Go.Proofs.Ytkjodjaamjnejaa

