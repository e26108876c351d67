import Derived.Test.YtkjodjaamjnejaaP6
import Derived.Test.YtkjodjaamjnejaaP7
import Derived.Test.YtkjodjaamjnejaaP8
set_option linter.all false
-- Printed by genwalk.py.
namespace Go.Proofs.Ytkjodjaamjnejaa
open Go Go.RowKit Caw
set_option linter.unusedSimpArgs false
set_option linter.unusedVariables false
set_option maxRecDepth 100000

-- caravel/tcb.Write
theorem g32 : GOk1 Try.prog (ctxOf [(42, F42), (63, F63), (64, F64), (62, F62)]) := gok_cons spec42 en42 (gok_cons spec63 en63 (gok_cons spec64 en64 (gok_cons spec62 en62 (gok_nil))))
set_option maxHeartbeats 2000000 in
theorem at32 (c : Caw.Conn) (d : List Int) (now : Int) (hpre : c.sm ∧ c.send.data.length ≤ 256) : SpecAt Try.prog 32 [.agg (connCells c), .sl 1 (encB d) none, .v (.int .u64 now)] (.tup [.agg (connCells (epWrite c d now).1), .v (.int .i64 (epWrite c d now).2.1), .sl 8 (encS segCells (epWrite c d now).2.2.1) none, .v (.int .i64 (epWrite c d now).2.2.2)]) none := by
  obtain ⟨hp1, hp2⟩ := hpre
  obtain ⟨hp3, hp4⟩ := write_pre d hp1 hp2
  all_goals refine specAt_of_tri Try.func32 rfl (Nat.le_of_ble_eq_true rfl) ?_
  all_goals (repeat' (first
    | (refine tri_skip ?_)
    | (refine th_n ?_)
    | (refine in_n ?_)
    | (refine th_r ?_)
    | (refine in_r ?_)
    | (refine tri_ret ?_)
    | (refine tri_block ?_)
    | (refine tri_step (id := 0) (C := ⟨[3], [62], [(6, (7, 0, 0)), (27, (16, 0, 0)), (29, (4, 0, 0)), (82, (16, 0, 0)), (87, (16, 0, 0))]⟩) [1, 2, 3, 6] [(7, 0, 0)] g32 nodraw ?_; refine ⟨_, by (simp [*, F42, F63, F64, F62, flg]; exact Is.mk), ?_⟩)
    | (refine tri_step (id := 1) (C := ⟨[3], [62], [(6, (7, 0, 0)), (27, (16, 0, 0)), (29, (4, 0, 0)), (82, (16, 0, 0)), (87, (16, 0, 0))]⟩) [1, 3, 6, 10] [(7, 0, 0), (16, 0, 0)] g32 nodraw ?_; refine ⟨_, by (simp [*, F42, F63, F64, F62, flg]; exact Is.mk), ?_⟩)
    | (refine tri_stepG (id := 2) (C := ⟨[3], [62], [(6, (7, 0, 0)), (27, (16, 0, 0)), (29, (4, 0, 0)), (82, (16, 0, 0)), (87, (16, 0, 0))]⟩) [1, 3, 6, 10, 16] [(7, 0, 0), (16, 0, 0)] g32 nodraw ?_; refine ⟨_, (run_split 0 4 20 (by simp [*, F42, F63, F64, F62, flg]; exact Is.mk) (by simp; exact IsB.mk) (by simp [*, F42, F63, F64, F62, flg]; exact IsK.mk) (by simp [*, F42, F63, F64, F62, flg]; exact IsK.mk) (by simp; exact IsK.mk)), ?_⟩)
    | (refine tri_step (id := 3) (C := ⟨[3], [62], [(6, (7, 0, 0)), (27, (16, 0, 0)), (29, (4, 0, 0)), (82, (16, 0, 0)), (87, (16, 0, 0))]⟩) [6, 7, 8, 9] [(7, 0, 0)] g32 (fun _ => ⟨q_mixed, by kernel_rfl⟩) ?_; refine ⟨_, by (simp [*, F42, F63, F64, F62, flg]; exact Is.mk), ?_⟩)
    | (refine tri_stepG (id := 4) (C := ⟨[3], [62], [(6, (7, 0, 0)), (27, (16, 0, 0)), (29, (4, 0, 0)), (82, (16, 0, 0)), (87, (16, 0, 0))]⟩) [1, 3, 6, 10, 31] [(7, 0, 0), (16, 0, 0)] g32 nodraw ?_; refine ⟨_, (run_split 0 4 35 (by simp [*, F42, F63, F64, F62, flg]; exact Is.mk) (by simp; exact IsB.mk) (run_split 4 5 40 (by simp [*, F42, F63, F64, F62, flg]; exact Is.mk) (by simp; exact IsB.mk) (by simp [*, F42, F63, F64, F62, flg]; exact IsK.mk) (by simp [*, F42, F63, F64, F62, flg]; exact IsK.mk) (by simp; exact IsK.mk)) (run_split 4 5 40 (by simp [*, F42, F63, F64, F62, flg]; exact Is.mk) (by simp; exact IsB.mk) (by simp [*, F42, F63, F64, F62, flg]; exact IsK.mk) (by simp [*, F42, F63, F64, F62, flg]; exact IsK.mk) (by simp; exact IsK.mk)) (by simp; exact IsK.mk)), ?_⟩)
    | (refine tri_step (id := 5) (C := ⟨[3], [62], [(6, (7, 0, 0)), (27, (16, 0, 0)), (29, (4, 0, 0)), (82, (16, 0, 0)), (87, (16, 0, 0))]⟩) [6, 7, 8, 9] [(7, 0, 0)] g32 nodraw ?_; refine ⟨_, by (simp [*, F42, F63, F64, F62, flg]; exact Is.mk), ?_⟩)
    | (refine tri_stepG (id := 6) (C := ⟨[3], [62], [(6, (7, 0, 0)), (27, (16, 0, 0)), (29, (4, 0, 0)), (82, (16, 0, 0)), (87, (16, 0, 0))]⟩) [1, 6, 10, 49] [(7, 0, 0), (16, 0, 0)] g32 nodraw ?_; refine ⟨_, (run_split 0 5 54 (by simp [*, F42, F63, F64, F62, flg]; exact Is.mk) (by simp; exact IsB.mk) (by simp [*, F42, F63, F64, F62, flg]; exact IsK.mk) (by simp [*, F42, F63, F64, F62, flg]; exact IsK.mk) (by simp; exact IsK.mk)), ?_⟩)
    | (refine tri_step (id := 7) (C := ⟨[3], [62], [(6, (7, 0, 0)), (27, (16, 0, 0)), (29, (4, 0, 0)), (82, (16, 0, 0)), (87, (16, 0, 0))]⟩) [6, 7, 8, 9] [(7, 0, 0)] g32 nodraw ?_; refine ⟨_, by (simp [*, F42, F63, F64, F62, flg]; exact Is.mk), ?_⟩)
    | (refine tri_step (id := 8) (C := ⟨[3], [62], [(6, (7, 0, 0)), (27, (16, 0, 0)), (29, (4, 0, 0)), (82, (16, 0, 0)), (87, (16, 0, 0))]⟩) [6, 10, 11, 12] [(7, 0, 0), (12, 0, 0), (16, 0, 0)] g32 nodraw ?_; refine ⟨_, by (simp [*, F42, F63, F64, F62, flg]; exact Is.mk), ?_⟩)
    | (refine tri_step (id := 9) (C := ⟨[3], [62], [(6, (7, 0, 0)), (27, (16, 0, 0)), (29, (4, 0, 0)), (82, (16, 0, 0)), (87, (16, 0, 0))]⟩) [6, 10, 12] [(7, 0, 0), (16, 0, 0)] g32 nodraw ?_; refine ⟨_, by (simp [*, F42, F63, F64, F62, flg]; exact Is.mk), ?_⟩)
    | (refine tri_step (id := 10) (C := ⟨[3], [62], [(6, (7, 0, 0)), (27, (16, 0, 0)), (29, (4, 0, 0)), (82, (16, 0, 0)), (87, (16, 0, 0))]⟩) [6, 10, 12] [(7, 0, 0), (16, 0, 0)] g32 nodraw ?_; refine ⟨_, by (simp [*, F42, F63, F64, F62, flg]; exact Is.mk), ?_⟩)
    | (refine tri_step (id := 11) (C := ⟨[3], [62], [(6, (7, 0, 0)), (27, (16, 0, 0)), (29, (4, 0, 0)), (82, (16, 0, 0)), (87, (16, 0, 0))]⟩) [6, 7, 8, 9] [(7, 0, 0)] g32 (fun _ => ⟨q_mixed, by kernel_rfl⟩) ?_; refine ⟨_, by (simp [*, F42, F63, F64, F62, flg]; exact Is.mk), ?_⟩)
    | (refine tri_cond (c := .tmp 16) (b_true (by simp; exact IsB.mk)) (fun hc => ?_) (fun hc => ?_))
    | (refine tri_cond (c := .tmp 31) (b_true (by simp; exact IsB.mk)) (fun hc => ?_) (fun hc => ?_))
    | (refine tri_cond (c := .tmp 49) (b_true (by simp; exact IsB.mk)) (fun hc => ?_) (fun hc => ?_))
    | (refine tri_seq ?_)
    ))
  all_goals (refine post_plainV (P := Try.prog) (fn := Try.f32) (by simp; exact IsV.mk) rfl ?_)
  all_goals (first | (simp [epWrite, epAt]; done) | (simp [*, epWrite, epAt]; done) | (simp_all [epWrite, epAt]; done) | (simp [*, epWrite, epAt] <;> (repeat' split) <;> simp_all; done) | (fail) | (simp [*]; trace_state))
open Classical in
noncomputable def F32 : Fn1
  | [x0, x1, x2] => (whole pConn x0).bind fun c => (decB x1).bind fun d => (dI .u64 x2).bind fun now => if c.sm ∧ c.send.data.length ≤ 256 then some ((.tup [.agg (connCells (epWrite c d now).1), .v (.int .i64 (epWrite c d now).2.1), .sl 8 (encS segCells (epWrite c d now).2.2.1) none, .v (.int .i64 (epWrite c d now).2.2.2)]), none) else none
  | _ => none
theorem spec32 : Spec1 Try.prog 32 F32 := spec_of fun ys r o h => by
  unfold F32 at h
  split at h
  case h_2 => cases h
  obtain ⟨c, k0, h1⟩ := bind_some h
  obtain ⟨d, k1, h2⟩ := bind_some h1
  obtain ⟨now, k2, h3⟩ := bind_some h2
  obtain ⟨hpre, hz⟩ := ite_some h3
  cases hz
  exact ⟨_, at32 c d now hpre, rfl, le_plain ⟨whole_co pConn_snd k0, ⟨decB_coA k1, ⟨dI_co k2, trivial⟩⟩⟩ (by simp only [List.all_cons, List.all_nil, Bool.not_false, Bool.and_self, notRefB (whole_co pConn_snd k0) rfl (by simp), notRefB (decB_coA k1) rfl (by simp), notRefB (dI_co k2) rfl (by simp)]) rfl⟩
theorem en32 : Enters Try.prog 32 := enters_of Try.func32 (by kernel_rfl) (by kernel_rfl)

-- caravel/tcb.Read
theorem g33 : GOk1 Try.prog (ctxOf [(42, F42), (65, F65), (45, F45), (47, F47)]) := gok_cons spec42 en42 (gok_cons spec65 en65 (gok_cons spec45 en45 (gok_cons spec47 en47 (gok_nil))))
set_option maxHeartbeats 2000000 in
theorem at33 (c : Caw.Conn) (n : Int) (now : Int) (hpre : c.sm) : SpecAt Try.prog 33 [.agg (connCells c), .v (.int .i64 n), .v (.int .u64 now)] (.tup [.agg (connCells (epRead c n now).1), .sl 1 (encB (epRead c n now).2.1) none, .sl 8 (encS segCells (epRead c n now).2.2.1) none, .v (.int .i64 (epRead c n now).2.2.2)]) none := by
  have hp1 := hpre.r
  all_goals refine specAt_of_tri Try.func33 rfl (Nat.le_of_ble_eq_true rfl) ?_
  all_goals (repeat' (first
    | (refine tri_skip ?_)
    | (refine th_n ?_)
    | (refine in_n ?_)
    | (refine th_r ?_)
    | (refine in_r ?_)
    | (refine tri_ret ?_)
    | (refine tri_block ?_)
    | (refine tri_step (id := 0) (C := ⟨[3], [47], [(6, (7, 0, 0)), (57, (16, 0, 0)), (62, (16, 0, 0)), (83, (16, 0, 0)), (85, (4, 0, 0))]⟩) [1, 2, 3, 6] [(7, 0, 0)] g33 nodraw ?_; refine ⟨_, by (simp [*, F42, F65, F45, F47, flg]; exact Is.mk), ?_⟩)
    | (refine tri_step (id := 1) (C := ⟨[3], [47], [(6, (7, 0, 0)), (57, (16, 0, 0)), (62, (16, 0, 0)), (83, (16, 0, 0)), (85, (4, 0, 0))]⟩) [1, 3, 6, 10] [(7, 0, 0), (16, 0, 0)] g33 nodraw ?_; refine ⟨_, by (simp [*, F42, F65, F45, F47, flg]; exact Is.mk), ?_⟩)
    | (refine tri_step (id := 2) (C := ⟨[3], [47], [(6, (7, 0, 0)), (57, (16, 0, 0)), (62, (16, 0, 0)), (83, (16, 0, 0)), (85, (4, 0, 0))]⟩) [1, 3, 6, 10, 16] [(7, 0, 0), (16, 0, 0)] g33 nodraw ?_; refine ⟨_, by (simp [*, F42, F65, F45, F47, flg]; exact Is.mk), ?_⟩)
    | (refine tri_step (id := 3) (C := ⟨[3], [47], [(6, (7, 0, 0)), (57, (16, 0, 0)), (62, (16, 0, 0)), (83, (16, 0, 0)), (85, (4, 0, 0))]⟩) [6, 7, 8, 9] [(7, 0, 0)] g33 nodraw ?_; refine ⟨_, by (simp [*, F42, F65, F45, F47, flg]; exact Is.mk), ?_⟩)
    | (refine tri_step (id := 4) (C := ⟨[3], [47], [(6, (7, 0, 0)), (57, (16, 0, 0)), (62, (16, 0, 0)), (83, (16, 0, 0)), (85, (4, 0, 0))]⟩) [1, 3, 6, 10, 23] [(7, 0, 0), (16, 0, 0)] g33 nodraw ?_; refine ⟨_, by (simp [*, F42, F65, F45, F47, flg]; exact Is.mk), ?_⟩)
    | (refine tri_step (id := 5) (C := ⟨[3], [47], [(6, (7, 0, 0)), (57, (16, 0, 0)), (62, (16, 0, 0)), (83, (16, 0, 0)), (85, (4, 0, 0))]⟩) [3, 6, 10, 11, 12] [(7, 0, 0), (12, 0, 0), (16, 0, 0)] g33 nodraw ?_; refine ⟨_, by (simp [*, F42, F65, F45, F47, flg]; exact Is.mk), ?_⟩)
    | (refine tri_step (id := 6) (C := ⟨[3], [47], [(6, (7, 0, 0)), (57, (16, 0, 0)), (62, (16, 0, 0)), (83, (16, 0, 0)), (85, (4, 0, 0))]⟩) [3, 6, 10, 12] [(7, 0, 0), (16, 0, 0)] g33 nodraw ?_; refine ⟨_, by (simp [*, F42, F65, F45, F47, flg]; exact Is.mk), ?_⟩)
    | (refine tri_stepG (id := 7) (C := ⟨[3], [47], [(6, (7, 0, 0)), (57, (16, 0, 0)), (62, (16, 0, 0)), (83, (16, 0, 0)), (85, (4, 0, 0))]⟩) [6, 10, 12, 52] [(7, 0, 0), (16, 0, 0)] g33 nodraw ?_; refine ⟨_, (run_split 0 4 47 (by simp [*, F42, F65, F45, F47, flg]; exact Is.mk) (by simp; exact IsB.mk) (by simp [*, F42, F65, F45, F47, flg]; exact IsK.mk) (by simp [*, F42, F65, F45, F47, flg]; exact IsK.mk) (by simp; exact IsK.mk)), ?_⟩)
    | (refine tri_last (id := 8) (C := ⟨[3], [47], [(6, (7, 0, 0)), (57, (16, 0, 0)), (62, (16, 0, 0)), (83, (16, 0, 0)), (85, (4, 0, 0))]⟩) [6, 10, 12] [(7, 0, 0), (16, 0, 0)] g33 nodraw ?_; refine ⟨_, by (simp [*, F42, F65, F45, F47, flg]; exact Is.mk), ?_⟩)
    | (refine tri_step (id := 9) (C := ⟨[3], [47], [(6, (7, 0, 0)), (57, (16, 0, 0)), (62, (16, 0, 0)), (83, (16, 0, 0)), (85, (4, 0, 0))]⟩) [6, 7, 8, 9] [(7, 0, 0)] g33 (fun _ => ⟨q_mixed, by kernel_rfl⟩) ?_; refine ⟨_, by (simp [*, F42, F65, F45, F47, flg]; exact Is.mk), ?_⟩)
    | (refine tri_step (id := 10) (C := ⟨[3], [47], [(6, (7, 0, 0)), (57, (16, 0, 0)), (62, (16, 0, 0)), (83, (16, 0, 0)), (85, (4, 0, 0))]⟩) [3, 6, 10, 64] [(7, 0, 0), (16, 0, 0)] g33 nodraw ?_; refine ⟨_, by (simp [*, F42, F65, F45, F47, flg]; exact Is.mk), ?_⟩)
    | (refine tri_step (id := 11) (C := ⟨[3], [47], [(6, (7, 0, 0)), (57, (16, 0, 0)), (62, (16, 0, 0)), (83, (16, 0, 0)), (85, (4, 0, 0))]⟩) [6, 7, 8, 9] [(7, 0, 0)] g33 nodraw ?_; refine ⟨_, by (simp [*, F42, F65, F45, F47, flg]; exact Is.mk), ?_⟩)
    | (refine tri_stepG (id := 12) (C := ⟨[3], [47], [(6, (7, 0, 0)), (57, (16, 0, 0)), (62, (16, 0, 0)), (83, (16, 0, 0)), (85, (4, 0, 0))]⟩) [3, 6, 10, 72] [(7, 0, 0), (16, 0, 0)] g33 nodraw ?_; refine ⟨_, (run_split 0 4 76 (by simp [*, F42, F65, F45, F47, flg]; exact Is.mk) (by simp; exact IsB.mk) (by simp [*, F42, F65, F45, F47, flg]; exact IsK.mk) (by simp [*, F42, F65, F45, F47, flg]; exact IsK.mk) (by simp; exact IsK.mk)), ?_⟩)
    | (refine tri_step (id := 13) (C := ⟨[3], [47], [(6, (7, 0, 0)), (57, (16, 0, 0)), (62, (16, 0, 0)), (83, (16, 0, 0)), (85, (4, 0, 0))]⟩) [6, 7, 8, 9] [(7, 0, 0)] g33 (fun _ => ⟨q_mixed, by kernel_rfl⟩) ?_; refine ⟨_, by (simp [*, F42, F65, F45, F47, flg]; exact Is.mk), ?_⟩)
    | (refine tri_step (id := 14) (C := ⟨[3], [47], [(6, (7, 0, 0)), (57, (16, 0, 0)), (62, (16, 0, 0)), (83, (16, 0, 0)), (85, (4, 0, 0))]⟩) [6, 10, 87] [(7, 0, 0), (16, 0, 0)] g33 nodraw ?_; refine ⟨_, by (simp [*, F42, F65, F45, F47, flg]; exact Is.mk), ?_⟩)
    | (refine tri_step (id := 15) (C := ⟨[3], [47], [(6, (7, 0, 0)), (57, (16, 0, 0)), (62, (16, 0, 0)), (83, (16, 0, 0)), (85, (4, 0, 0))]⟩) [6, 7, 8, 9] [(7, 0, 0)] g33 nodraw ?_; refine ⟨_, by (simp [*, F42, F65, F45, F47, flg]; exact Is.mk), ?_⟩)
    | (refine tri_step (id := 16) (C := ⟨[3], [47], [(6, (7, 0, 0)), (57, (16, 0, 0)), (62, (16, 0, 0)), (83, (16, 0, 0)), (85, (4, 0, 0))]⟩) [6, 7, 8, 9] [(7, 0, 0)] g33 nodraw ?_; refine ⟨_, by (simp [*, F42, F65, F45, F47, flg]; exact Is.mk), ?_⟩)
    | (refine tri_cond (c := .tmp 16) (b_true (by simp; exact IsB.mk)) (fun hc => ?_) (fun hc => ?_))
    | (refine tri_cond (c := .tmp 23) (b_true (by simp; exact IsB.mk)) (fun hc => ?_) (fun hc => ?_))
    | (apply tri_iteTo (c := .tmp 52) [6, 10, 12] [(7, 0, 0), (16, 0, 0)] (by simp; exact IsB.mk))
    | (refine tri_cond (c := .tmp 64) (b_true (by simp; exact IsB.mk)) (fun hc => ?_) (fun hc => ?_))
    | (refine tri_cond (c := .tmp 72) (b_true (by simp; exact IsB.mk)) (fun hc => ?_) (fun hc => ?_))
    | (refine tri_cond (c := .tmp 87) (b_true (by simp; exact IsB.mk)) (fun hc => ?_) (fun hc => ?_))
    | (refine to_mk (by simp; exact IsK.mk))
    | (refine imp_ ?_)
    | ((simp; exact IsK.mk))
    | (refine tri_seq ?_)
    ))
  all_goals (refine post_plainV (P := Try.prog) (fn := Try.f33) (by simp; exact IsV.mk) rfl ?_)
  all_goals (first | (simp [epRead, epAt]; done) | (simp [*, epRead, epAt]; done) | (simp_all [epRead, epAt]; done) | (simp [*, epRead, epAt] <;> (repeat' split) <;> simp_all; done) | (fail) | (simp [*]; trace_state))
open Classical in
noncomputable def F33 : Fn1
  | [x0, x1, x2] => (whole pConn x0).bind fun c => (dI .i64 x1).bind fun n => (dI .u64 x2).bind fun now => if c.sm then some ((.tup [.agg (connCells (epRead c n now).1), .sl 1 (encB (epRead c n now).2.1) none, .sl 8 (encS segCells (epRead c n now).2.2.1) none, .v (.int .i64 (epRead c n now).2.2.2)]), none) else none
  | _ => none
theorem spec33 : Spec1 Try.prog 33 F33 := spec_of fun ys r o h => by
  unfold F33 at h
  split at h
  case h_2 => cases h
  obtain ⟨c, k0, h1⟩ := bind_some h
  obtain ⟨n, k1, h2⟩ := bind_some h1
  obtain ⟨now, k2, h3⟩ := bind_some h2
  obtain ⟨hpre, hz⟩ := ite_some h3
  cases hz
  exact ⟨_, at33 c n now hpre, rfl, le_plain ⟨whole_co pConn_snd k0, ⟨dI_co k1, ⟨dI_co k2, trivial⟩⟩⟩ (by simp only [List.all_cons, List.all_nil, Bool.not_false, Bool.and_self, notRefB (whole_co pConn_snd k0) rfl (by simp), notRefB (dI_co k1) rfl (by simp), notRefB (dI_co k2) rfl (by simp)]) rfl⟩
theorem en33 : Enters Try.prog 33 := enters_of Try.func33 (by kernel_rfl) (by kernel_rfl)

-- caravel/tcb.Close
theorem g31 : GOk1 Try.prog (ctxOf [(42, F42), (57, F57), (61, F61), (62, F62)]) := gok_cons spec42 en42 (gok_cons spec57 en57 (gok_cons spec61 en61 (gok_cons spec62 en62 (gok_nil))))
set_option maxHeartbeats 2000000 in
theorem at31 (c : Caw.Conn) (now : Int) (hpre : c.sm) : SpecAt Try.prog 31 [.agg (connCells c), .v (.int .u64 now)] (.tup [.agg (connCells (epClose c now).conn), .sl 8 (encS segCells (epClose c now).out) none]) none := by
  have hp1 := hpre.s.l
  obtain ⟨hp3, hp4⟩ := close_pre hpre
  all_goals refine specAt_of_tri Try.func31 rfl (Nat.le_of_ble_eq_true rfl) ?_
  all_goals (repeat' (first
    | (refine tri_skip ?_)
    | (refine th_n ?_)
    | (refine in_n ?_)
    | (refine tri_ret ?_)
    | (refine tri_block ?_)
    | (refine tri_step (id := 0) (C := ⟨[2], [57, 62], [(4, (5, 0, 0)), (53, (10, 0, 0)), (57, (10, 0, 0))]⟩) [1, 2, 4] [(5, 0, 0)] g31 nodraw ?_; refine ⟨_, by (simp [*, F42, F57, F61, F62, flg]; exact Is.mk), ?_⟩)
    | (refine tri_step (id := 1) (C := ⟨[2], [57, 62], [(4, (5, 0, 0)), (53, (10, 0, 0)), (57, (10, 0, 0))]⟩) [2, 4, 6] [(5, 0, 0), (10, 0, 0)] g31 nodraw ?_; refine ⟨_, by (simp [*, F42, F57, F61, F62, flg]; exact Is.mk), ?_⟩)
    | (refine tri_step (id := 2) (C := ⟨[2], [57, 62], [(4, (5, 0, 0)), (53, (10, 0, 0)), (57, (10, 0, 0))]⟩) [2, 4, 6, 10] [(5, 0, 0), (10, 0, 0)] g31 nodraw ?_; refine ⟨_, by (simp [*, F42, F57, F61, F62, flg]; exact Is.mk), ?_⟩)
    | (refine tri_last (id := 3) (C := ⟨[2], [57, 62], [(4, (5, 0, 0)), (53, (10, 0, 0)), (57, (10, 0, 0))]⟩) [4, 6] [(5, 0, 0), (10, 0, 0)] g31 nodraw ?_; refine ⟨_, by (simp [*, F42, F57, F61, F62, flg]; exact Is.mk), ?_⟩)
    | (refine tri_stepG (id := 4) (C := ⟨[2], [57, 62], [(4, (5, 0, 0)), (53, (10, 0, 0)), (57, (10, 0, 0))]⟩) [2, 4, 6, 16] [(5, 0, 0), (10, 0, 0)] g31 nodraw ?_; refine ⟨_, (run_split 0 4 20 (by simp [*, F42, F57, F61, F62, flg]; exact Is.mk) (by simp; exact IsB.mk) (run_split 4 5 25 (by simp [*, F42, F57, F61, F62, flg]; exact Is.mk) (by simp; exact IsB.mk) (by simp [*, F42, F57, F61, F62, flg]; exact IsK.mk) (by simp [*, F42, F57, F61, F62, flg]; exact IsK.mk) (by simp; exact IsK.mk)) (run_split 4 5 25 (by simp [*, F42, F57, F61, F62, flg]; exact Is.mk) (by simp; exact IsB.mk) (by simp [*, F42, F57, F61, F62, flg]; exact IsK.mk) (by simp [*, F42, F57, F61, F62, flg]; exact IsK.mk) (by simp; exact IsK.mk)) (by simp; exact IsK.mk)), ?_⟩)
    | (refine tri_step (id := 5) (C := ⟨[2], [57, 62], [(4, (5, 0, 0)), (53, (10, 0, 0)), (57, (10, 0, 0))]⟩) [2, 4, 6] [(5, 0, 0), (10, 0, 0)] g31 nodraw ?_; refine ⟨_, by (simp [*, F42, F57, F61, F62, flg]; exact Is.mk), ?_⟩)
    | (refine tri_step (id := 6) (C := ⟨[2], [57, 62], [(4, (5, 0, 0)), (53, (10, 0, 0)), (57, (10, 0, 0))]⟩) [4, 6] [(5, 0, 0), (10, 0, 0)] g31 nodraw ?_; refine ⟨_, by (simp [*, F42, F57, F61, F62, flg]; exact Is.mk), ?_⟩)
    | (refine tri_last (id := 7) (C := ⟨[2], [57, 62], [(4, (5, 0, 0)), (53, (10, 0, 0)), (57, (10, 0, 0))]⟩) [4, 6] [(5, 0, 0), (10, 0, 0)] g31 nodraw ?_; refine ⟨_, by (simp [*, F42, F57, F61, F62, flg]; exact Is.mk), ?_⟩)
    | (refine tri_step (id := 8) (C := ⟨[2], [57, 62], [(4, (5, 0, 0)), (53, (10, 0, 0)), (57, (10, 0, 0))]⟩) [4, 5] [(5, 0, 0)] g31 (fun _ => ⟨q_mixed, by kernel_rfl⟩) ?_; refine ⟨_, by (simp [*, F42, F57, F61, F62, flg]; exact Is.mk), ?_⟩)
    | (apply tri_iteTo (c := .tmp 10) [4, 6] [(5, 0, 0), (10, 0, 0)] (by simp; exact IsB.mk))
    | (apply tri_iteTo (c := .tmp 16) [4, 6] [(5, 0, 0), (10, 0, 0)] (by simp; exact IsB.mk))
    | (refine to_mk (by simp; exact IsK.mk))
    | (refine imp_ ?_)
    | ((simp; exact IsK.mk))
    | (refine tri_seq ?_)
    ))
  all_goals (refine post_plainV (P := Try.prog) (fn := Try.f31) (by simp; exact IsV.mk) rfl ?_)
  all_goals (first | (simp [epClose, epAt]; done) | (simp [*, epClose, epAt]; done) | (simp_all [epClose, epAt]; done) | (simp [*, epClose, epAt] <;> (repeat' split) <;> simp_all; done) | (fail) | (simp [*]; trace_state))
open Classical in
noncomputable def F31 : Fn1
  | [x0, x1] => (whole pConn x0).bind fun c => (dI .u64 x1).bind fun now => if c.sm then some ((.tup [.agg (connCells (epClose c now).conn), .sl 8 (encS segCells (epClose c now).out) none]), none) else none
  | _ => none
theorem spec31 : Spec1 Try.prog 31 F31 := spec_of fun ys r o h => by
  unfold F31 at h
  split at h
  case h_2 => cases h
  obtain ⟨c, k0, h1⟩ := bind_some h
  obtain ⟨now, k1, h2⟩ := bind_some h1
  obtain ⟨hpre, hz⟩ := ite_some h2
  cases hz
  exact ⟨_, at31 c now hpre, rfl, le_plain ⟨whole_co pConn_snd k0, ⟨dI_co k1, trivial⟩⟩ (by simp only [List.all_cons, List.all_nil, Bool.not_false, Bool.and_self, notRefB (whole_co pConn_snd k0) rfl (by simp), notRefB (dI_co k1) rfl (by simp)]) rfl⟩
theorem en31 : Enters Try.prog 31 := enters_of Try.func31 (by kernel_rfl) (by kernel_rfl)

-- caravel/tcb.Abort
theorem g29 : GOk1 Try.prog (ctxOf [(42, F42), (56, F56), (54, F54), (57, F57)]) := gok_cons spec42 en42 (gok_cons spec56 en56 (gok_cons spec54 en54 (gok_cons spec57 en57 (gok_nil))))
set_option maxHeartbeats 2000000 in
theorem at29 (c : Caw.Conn) (y : Int) (hpre : c.sm) : SpecAt Try.prog 29 [.agg (connCells c), .v (.int .i64 y)] (.tup [.agg (connCells (epAbort c y).conn), .sl 8 (encS segCells (epAbort c y).out) none]) none := by
  all_goals refine specAt_of_tri Try.func29 rfl (Nat.le_of_ble_eq_true rfl) ?_
  all_goals (repeat' (first
    | (refine tri_skip ?_)
    | (refine th_n ?_)
    | (refine tri_ret ?_)
    | (refine tri_step (id := 0) (C := ⟨[2], [57], [(4, (5, 0, 0)), (20, (9, 0, 0)), (23, (3, 0, 0)), (26, (3, 0, 0)), (29, (3, 0, 0)), (31, (3, 0, 0)), (36, (3, 0, 0)), (42, (9, 0, 0)), (51, (9, 0, 0)), (55, (9, 0, 0))]⟩) [1, 2, 4] [(5, 0, 0)] g29 nodraw ?_; refine ⟨_, by (simp [*, F42, F56, F54, F57, one_seg0, flg]; exact Is.mk), ?_⟩)
    | (refine tri_step (id := 1) (C := ⟨[2], [57], [(4, (5, 0, 0)), (20, (9, 0, 0)), (23, (3, 0, 0)), (26, (3, 0, 0)), (29, (3, 0, 0)), (31, (3, 0, 0)), (36, (3, 0, 0)), (42, (9, 0, 0)), (51, (9, 0, 0)), (55, (9, 0, 0))]⟩) [1, 2, 4, 6] [(5, 0, 0), (9, 0, 0)] g29 nodraw ?_; refine ⟨_, by (simp [*, F42, F56, F54, F57, one_seg0, flg]; exact Is.mk), ?_⟩)
    | (refine tri_stepG (id := 2) (C := ⟨[2], [57], [(4, (5, 0, 0)), (20, (9, 0, 0)), (23, (3, 0, 0)), (26, (3, 0, 0)), (29, (3, 0, 0)), (31, (3, 0, 0)), (36, (3, 0, 0)), (42, (9, 0, 0)), (51, (9, 0, 0)), (55, (9, 0, 0))]⟩) [1, 2, 4, 6, 16] [(5, 0, 0), (9, 0, 0)] g29 nodraw ?_; refine ⟨_, (run_split 0 4 12 (by simp [*, F42, F56, F54, F57, one_seg0, flg]; exact Is.mk) (by simp; exact IsB.mk) (by simp [*, F42, F56, F54, F57, one_seg0, flg]; exact IsK.mk) (by simp [*, F42, F56, F54, F57, one_seg0, flg]; exact IsK.mk) (by simp; exact IsK.mk)), ?_⟩)
    | (refine tri_last (id := 3) (C := ⟨[2], [57], [(4, (5, 0, 0)), (20, (9, 0, 0)), (23, (3, 0, 0)), (26, (3, 0, 0)), (29, (3, 0, 0)), (31, (3, 0, 0)), (36, (3, 0, 0)), (42, (9, 0, 0)), (51, (9, 0, 0)), (55, (9, 0, 0))]⟩) [1, 2, 4, 6] [(5, 0, 0), (9, 0, 0)] g29 (fun _ => ⟨q_mixed, by kernel_rfl⟩) ?_; refine ⟨_, by (simp [*, F42, F56, F54, F57, one_seg0, flg]; exact Is.mk), ?_⟩)
    | (refine tri_step (id := 4) (C := ⟨[2], [57], [(4, (5, 0, 0)), (20, (9, 0, 0)), (23, (3, 0, 0)), (26, (3, 0, 0)), (29, (3, 0, 0)), (31, (3, 0, 0)), (36, (3, 0, 0)), (42, (9, 0, 0)), (51, (9, 0, 0)), (55, (9, 0, 0))]⟩) [1, 4, 6, 45] [(5, 0, 0), (9, 0, 0)] g29 nodraw ?_; refine ⟨_, by (simp [*, F42, F56, F54, F57, one_seg0, flg]; exact Is.mk), ?_⟩)
    | (refine tri_last (id := 5) (C := ⟨[2], [57], [(4, (5, 0, 0)), (20, (9, 0, 0)), (23, (3, 0, 0)), (26, (3, 0, 0)), (29, (3, 0, 0)), (31, (3, 0, 0)), (36, (3, 0, 0)), (42, (9, 0, 0)), (51, (9, 0, 0)), (55, (9, 0, 0))]⟩) [4, 6] [(5, 0, 0), (9, 0, 0)] g29 nodraw ?_; refine ⟨_, by (simp [*, F42, F56, F54, F57, one_seg0, flg]; exact Is.mk), ?_⟩)
    | (refine tri_step (id := 6) (C := ⟨[2], [57], [(4, (5, 0, 0)), (20, (9, 0, 0)), (23, (3, 0, 0)), (26, (3, 0, 0)), (29, (3, 0, 0)), (31, (3, 0, 0)), (36, (3, 0, 0)), (42, (9, 0, 0)), (51, (9, 0, 0)), (55, (9, 0, 0))]⟩) [4, 5] [(5, 0, 0)] g29 (fun _ => ⟨q_mixed, by kernel_rfl⟩) ?_; refine ⟨_, by (simp [*, F42, F56, F54, F57, one_seg0, flg]; exact Is.mk), ?_⟩)
    | (apply tri_iteTo (c := .tmp 16) [1, 2, 4, 6] [(5, 0, 0), (9, 0, 0)] (by simp; exact IsB.mk))
    | (apply tri_iteTo (c := .tmp 45) [4, 6] [(5, 0, 0), (9, 0, 0)] (by simp; exact IsB.mk))
    | (refine to_mk (by simp; exact IsK.mk))
    | (refine imp_ ?_)
    | ((simp; exact IsK.mk))
    | (refine tri_seq ?_)
    ))
  all_goals (refine post_plainV (P := Try.prog) (fn := Try.f29) (by simp; exact IsV.mk) rfl ?_)
  all_goals (first | (simp [epAbort, epAt]; done) | (simp [*, epAbort, epAt]; done) | (simp_all [epAbort, epAt]; done) | (simp [*, epAbort, epAt] <;> (repeat' split) <;> simp_all; done) | (fail) | (simp [*]; trace_state))
open Classical in
noncomputable def F29 : Fn1
  | [x0, x1] => (whole pConn x0).bind fun c => (dI .i64 x1).bind fun y => if c.sm then some ((.tup [.agg (connCells (epAbort c y).conn), .sl 8 (encS segCells (epAbort c y).out) none]), none) else none
  | _ => none
theorem spec29 : Spec1 Try.prog 29 F29 := spec_of fun ys r o h => by
  unfold F29 at h
  split at h
  case h_2 => cases h
  obtain ⟨c, k0, h1⟩ := bind_some h
  obtain ⟨y, k1, h2⟩ := bind_some h1
  obtain ⟨hpre, hz⟩ := ite_some h2
  cases hz
  exact ⟨_, at29 c y hpre, rfl, le_plain ⟨whole_co pConn_snd k0, ⟨dI_co k1, trivial⟩⟩ (by simp only [List.all_cons, List.all_nil, Bool.not_false, Bool.and_self, notRefB (whole_co pConn_snd k0) rfl (by simp), notRefB (dI_co k1) rfl (by simp)]) rfl⟩
theorem en29 : Enters Try.prog 29 := enters_of Try.func29 (by kernel_rfl) (by kernel_rfl)

-- caravel/tcb.Tick
theorem g30 : GOk1 Try.prog (ctxOf [(42, F42), (57, F57), (58, F58), (59, F59), (60, F60)]) := gok_cons spec42 en42 (gok_cons spec57 en57 (gok_cons spec58 en58 (gok_cons spec59 en59 (gok_cons spec60 en60 (gok_nil)))))
set_option maxHeartbeats 2000000 in
theorem at30 (c : Caw.Conn) (now : Int) (hpre : c.sm) : SpecAt Try.prog 30 [.agg (connCells c), .v (.int .u64 now)] (.tup [.agg (connCells (epTick c now).conn), .sl 8 (encS segCells (epTick c now).out) none]) none := by
  have hp1 := hpre.s
  all_goals refine specAt_of_tri Try.func30 rfl (Nat.le_of_ble_eq_true rfl) ?_
  all_goals (repeat' (first
    | (refine tri_skip ?_)
    | (refine th_n ?_)
    | (refine in_n ?_)
    | (refine tri_ret ?_)
    | (refine tri_block ?_)
    | (refine tri_step (id := 0) (C := ⟨[2], [57, 59, 60], [(4, (5, 0, 0)), (67, (10, 0, 0)), (71, (10, 0, 0))]⟩) [1, 2, 4] [(5, 0, 0)] g30 nodraw ?_; refine ⟨_, by (simp [*, F42, F57, F58, F59, F60, epArm_out, epArm_send, flg]; exact Is.mk), ?_⟩)
    | (refine tri_step (id := 1) (C := ⟨[2], [57, 59, 60], [(4, (5, 0, 0)), (67, (10, 0, 0)), (71, (10, 0, 0))]⟩) [1, 2, 4, 6] [(5, 0, 0), (10, 0, 0)] g30 nodraw ?_; refine ⟨_, by (simp [*, F42, F57, F58, F59, F60, epArm_out, epArm_send, flg]; exact Is.mk), ?_⟩)
    | (refine tri_step (id := 2) (C := ⟨[2], [57, 59, 60], [(4, (5, 0, 0)), (67, (10, 0, 0)), (71, (10, 0, 0))]⟩) [4, 6] [(5, 0, 0), (10, 0, 0)] g30 nodraw ?_; refine ⟨_, by (simp [*, F42, F57, F58, F59, F60, epArm_out, epArm_send, flg]; exact Is.mk), ?_⟩)
    | (refine tri_step (id := 3) (C := ⟨[2], [57, 59, 60], [(4, (5, 0, 0)), (67, (10, 0, 0)), (71, (10, 0, 0))]⟩) [4, 6] [(5, 0, 0), (10, 0, 0)] g30 nodraw ?_; refine ⟨_, by (simp [*, F42, F57, F58, F59, F60, epArm_out, epArm_send, flg]; exact Is.mk), ?_⟩)
    | (refine tri_step (id := 4) (C := ⟨[2], [57, 59, 60], [(4, (5, 0, 0)), (67, (10, 0, 0)), (71, (10, 0, 0))]⟩) [4, 6] [(5, 0, 0), (10, 0, 0)] g30 nodraw ?_; refine ⟨_, by (simp [*, F42, F57, F58, F59, F60, epArm_out, epArm_send, flg]; exact Is.mk), ?_⟩)
    | (refine tri_last (id := 5) (C := ⟨[2], [57, 59, 60], [(4, (5, 0, 0)), (67, (10, 0, 0)), (71, (10, 0, 0))]⟩) [4, 6] [(5, 0, 0), (10, 0, 0)] g30 nodraw ?_; refine ⟨_, by (simp [*, F42, F57, F58, F59, F60, epArm_out, epArm_send, flg]; exact Is.mk), ?_⟩)
    | (refine tri_stepG (id := 6) (C := ⟨[2], [57, 59, 60], [(4, (5, 0, 0)), (67, (10, 0, 0)), (71, (10, 0, 0))]⟩) [1, 2, 4, 6, 37] [(5, 0, 0), (10, 0, 0)] g30 nodraw ?_; refine ⟨_, (run_split 0 4 41 (by simp [*, F42, F57, F58, F59, F60, epArm_out, epArm_send, flg]; exact Is.mk) (by simp; exact IsB.mk) (by simp [*, F42, F57, F58, F59, F60, epArm_out, epArm_send, flg]; exact IsK.mk) (by simp [*, F42, F57, F58, F59, F60, epArm_out, epArm_send, flg]; exact IsK.mk) (by simp; exact IsK.mk)), ?_⟩)
    | (refine tri_last (id := 7) (C := ⟨[2], [57, 59, 60], [(4, (5, 0, 0)), (67, (10, 0, 0)), (71, (10, 0, 0))]⟩) [4, 6] [(5, 0, 0), (10, 0, 0)] g30 nodraw ?_; refine ⟨_, by (simp [*, F42, F57, F58, F59, F60, epArm_out, epArm_send, flg]; exact Is.mk), ?_⟩)
    | (refine tri_stepG (id := 8) (C := ⟨[2], [57, 59, 60], [(4, (5, 0, 0)), (67, (10, 0, 0)), (71, (10, 0, 0))]⟩) [2, 4, 6, 49] [(5, 0, 0), (10, 0, 0)] g30 nodraw ?_; refine ⟨_, (run_split 0 4 53 (by simp [*, F42, F57, F58, F59, F60, epArm_out, epArm_send, flg]; exact Is.mk) (by simp; exact IsB.mk) (by simp [*, F42, F57, F58, F59, F60, epArm_out, epArm_send, flg]; exact IsK.mk) (by simp [*, F42, F57, F58, F59, F60, epArm_out, epArm_send, flg]; exact IsK.mk) (by simp; exact IsK.mk)), ?_⟩)
    | (refine tri_step (id := 9) (C := ⟨[2], [57, 59, 60], [(4, (5, 0, 0)), (67, (10, 0, 0)), (71, (10, 0, 0))]⟩) [4, 6, 59] [(5, 0, 0), (10, 0, 0)] g30 nodraw ?_; refine ⟨_, by (simp [*, F42, F57, F58, F59, F60, epArm_out, epArm_send, flg]; exact Is.mk), ?_⟩)
    | (refine tri_last (id := 10) (C := ⟨[2], [57, 59, 60], [(4, (5, 0, 0)), (67, (10, 0, 0)), (71, (10, 0, 0))]⟩) [4, 6] [(5, 0, 0), (10, 0, 0)] g30 nodraw ?_; refine ⟨_, by (simp [*, F42, F57, F58, F59, F60, epArm_out, epArm_send, flg]; exact Is.mk), ?_⟩)
    | (refine tri_step (id := 11) (C := ⟨[2], [57, 59, 60], [(4, (5, 0, 0)), (67, (10, 0, 0)), (71, (10, 0, 0))]⟩) [4, 5] [(5, 0, 0)] g30 (fun _ => ⟨q_mixed, by kernel_rfl⟩) ?_; refine ⟨_, by (simp [*, F42, F57, F58, F59, F60, epArm_out, epArm_send, flg]; exact Is.mk), ?_⟩)
    | (apply tri_iteTo (c := .tmp 37) [4, 6] [(5, 0, 0), (10, 0, 0)] (by simp; exact IsB.mk))
    | (apply tri_iteTo (c := .tmp 49) [4, 6] [(5, 0, 0), (10, 0, 0)] (by simp; exact IsB.mk))
    | (apply tri_iteTo (c := .tmp 59) [4, 6] [(5, 0, 0), (10, 0, 0)] (by simp; exact IsB.mk))
    | (refine to_mk (by simp; exact IsK.mk))
    | (refine imp_ ?_)
    | ((simp; exact IsK.mk))
    | (refine tri_seq ?_)
    ))
  all_goals (refine post_plainV (P := Try.prog) (fn := Try.f30) (by simp; exact IsV.mk) rfl ?_)
  all_goals (first | (simp [epTick, epAt]; done) | (simp [*, epTick, epAt]; done) | (simp_all [epTick, epAt]; done) | (simp [*, epTick, epAt] <;> (repeat' split) <;> simp_all; done) | (fail) | (simp [*]; trace_state))
open Classical in
noncomputable def F30 : Fn1
  | [x0, x1] => (whole pConn x0).bind fun c => (dI .u64 x1).bind fun now => if c.sm then some ((.tup [.agg (connCells (epTick c now).conn), .sl 8 (encS segCells (epTick c now).out) none]), none) else none
  | _ => none
theorem spec30 : Spec1 Try.prog 30 F30 := spec_of fun ys r o h => by
  unfold F30 at h
  split at h
  case h_2 => cases h
  obtain ⟨c, k0, h1⟩ := bind_some h
  obtain ⟨now, k1, h2⟩ := bind_some h1
  obtain ⟨hpre, hz⟩ := ite_some h2
  cases hz
  exact ⟨_, at30 c now hpre, rfl, le_plain ⟨whole_co pConn_snd k0, ⟨dI_co k1, trivial⟩⟩ (by simp only [List.all_cons, List.all_nil, Bool.not_false, Bool.and_self, notRefB (whole_co pConn_snd k0) rfl (by simp), notRefB (dI_co k1) rfl (by simp)]) rfl⟩
theorem en30 : Enters Try.prog 30 := enters_of Try.func30 (by kernel_rfl) (by kernel_rfl)

-- caravel/tcb.open
set_option maxHeartbeats 400000 in
theorem at39 (c : Caw.Conn) : SpecAt Try.prog 39 [.agg (connCells c)] (.v (.string (stOpen c))) none := by
  all_goals refine specAt_of_tri Try.func39 rfl (Nat.le_of_ble_eq_true rfl) ?_
  all_goals (repeat' (first
    | (refine tri_skip ?_)
    | (refine th_n ?_)
    | (refine in_n ?_)
    | (refine th_r ?_)
    | (refine in_r ?_)
    | (refine tri_ret ?_)
    | (refine tri_block ?_)
    | (refine tri_step (id := 0) (C := ⟨[1], [], []⟩) [1] [] gok_nil nodraw ?_; refine ⟨_, by (simp [*, flg]; exact Is.mk), ?_⟩)
    | (refine tri_stepG (id := 1) (C := ⟨[1], [], []⟩) [1, 3] [] gok_nil nodraw ?_; refine ⟨_, (run_split 0 5 8 (by simp [*, flg]; exact Is.mk) (by simp; exact IsB.mk) (by simp [*, flg]; exact IsK.mk) (by simp [*, flg]; exact IsK.mk) (by simp; exact IsK.mk)), ?_⟩)
    | (refine tri_step (id := 2) (C := ⟨[1], [], []⟩) [2] [] gok_nil nodraw ?_; refine ⟨_, by (simp [*, flg]; exact Is.mk), ?_⟩)
    | (refine tri_step (id := 3) (C := ⟨[1], [], []⟩) [1, 14] [] gok_nil nodraw ?_; refine ⟨_, by (simp [*, flg]; exact Is.mk), ?_⟩)
    | (refine tri_step (id := 4) (C := ⟨[1], [], []⟩) [2] [] gok_nil nodraw ?_; refine ⟨_, by (simp [*, flg]; exact Is.mk), ?_⟩)
    | (refine tri_stepG (id := 5) (C := ⟨[1], [], []⟩) [1, 19] [] gok_nil nodraw ?_; refine ⟨_, (run_split 0 5 24 (by simp [*, flg]; exact Is.mk) (by simp; exact IsB.mk) (by simp [*, flg]; exact IsK.mk) (by simp [*, flg]; exact IsK.mk) (by simp; exact IsK.mk)), ?_⟩)
    | (refine tri_step (id := 6) (C := ⟨[1], [], []⟩) [2] [] gok_nil nodraw ?_; refine ⟨_, by (simp [*, flg]; exact Is.mk), ?_⟩)
    | (refine tri_step (id := 7) (C := ⟨[1], [], []⟩) [1, 29] [] gok_nil nodraw ?_; refine ⟨_, by (simp [*, flg]; exact Is.mk), ?_⟩)
    | (refine tri_step (id := 8) (C := ⟨[1], [], []⟩) [2] [] gok_nil nodraw ?_; refine ⟨_, by (simp [*, flg]; exact Is.mk), ?_⟩)
    | (refine tri_step (id := 9) (C := ⟨[1], [], []⟩) [34] [] gok_nil nodraw ?_; refine ⟨_, by (simp [*, flg]; exact Is.mk), ?_⟩)
    | (refine tri_step (id := 10) (C := ⟨[1], [], []⟩) [2] [] gok_nil nodraw ?_; refine ⟨_, by (simp [*, flg]; exact Is.mk), ?_⟩)
    | (refine tri_step (id := 11) (C := ⟨[1], [], []⟩) [2] [] gok_nil nodraw ?_; refine ⟨_, by (simp [*, flg]; exact Is.mk), ?_⟩)
    | (refine tri_cond (c := .tmp 3) (b_true (by simp; exact IsB.mk)) (fun hc => ?_) (fun hc => ?_))
    | (refine tri_cond (c := .tmp 14) (b_true (by simp; exact IsB.mk)) (fun hc => ?_) (fun hc => ?_))
    | (refine tri_cond (c := .tmp 19) (b_true (by simp; exact IsB.mk)) (fun hc => ?_) (fun hc => ?_))
    | (refine tri_cond (c := .tmp 29) (b_true (by simp; exact IsB.mk)) (fun hc => ?_) (fun hc => ?_))
    | (refine tri_cond (c := .tmp 34) (b_true (by simp; exact IsB.mk)) (fun hc => ?_) (fun hc => ?_))
    | (refine tri_seq ?_)
    ))
  all_goals (refine post_plainV (P := Try.prog) (fn := Try.f39) (by simp; exact IsV.mk) rfl ?_)
  all_goals (first | (simp [flg, stOpen]; done) | (simp [*, flg, stOpen]; done) | (simp_all [flg, stOpen]; done) | (simp [flg, stOpen] <;> (repeat' split) <;> simp_all; done) | (simp [flg, stOpen] <;> (repeat' split) <;> simp_all [Bool.and_assoc] <;> grind [List.length_eq_zero_iff, sendCells_co, recvCells_co, pieceCells_co, connCells_co, segCells_co, clockCells_co]))
noncomputable def F39 : Fn1
  | [x0] => (whole pConn x0).bind fun c => some ((.v (.string (stOpen c))), none)
  | _ => none
theorem spec39 : Spec1 Try.prog 39 F39 := spec_of fun ys r o h => by
  unfold F39 at h
  split at h
  case h_2 => cases h
  obtain ⟨c, k0, h1⟩ := bind_some h
  cases h1
  exact ⟨_, at39 c, rfl, le_plain ⟨whole_co pConn_snd k0, trivial⟩ (by simp only [List.all_cons, List.all_nil, Bool.not_false, Bool.and_self, notRefB (whole_co pConn_snd k0) rfl (by simp)]) rfl⟩
theorem en39 : Enters Try.prog 39 := enters_of Try.func39 (by kernel_rfl) (by kernel_rfl)

-- caravel/tcb.State
theorem g20 : GOk1 Try.prog (ctxOf [(39, F39)]) := gok_cons spec39 en39 (gok_nil)
set_option maxHeartbeats 400000 in
theorem at20 (c : Caw.Conn) : SpecAt Try.prog 20 [.agg (connCells c)] (.v (.string (stName c))) none := by
  all_goals refine specAt_of_tri Try.func20 rfl (Nat.le_of_ble_eq_true rfl) ?_
  all_goals (repeat' (first
    | (refine tri_skip ?_)
    | (refine th_n ?_)
    | (refine in_n ?_)
    | (refine th_r ?_)
    | (refine in_r ?_)
    | (refine tri_ret ?_)
    | (refine tri_block ?_)
    | (refine tri_step (id := 0) (C := ⟨[1], [], []⟩) [1] [] g20 nodraw ?_; refine ⟨_, by (simp [*, F39, flg]; exact Is.mk), ?_⟩)
    | (refine tri_step (id := 1) (C := ⟨[1], [], []⟩) [1, 4] [] g20 nodraw ?_; refine ⟨_, by (simp [*, F39, flg]; exact Is.mk), ?_⟩)
    | (refine tri_step (id := 2) (C := ⟨[1], [], []⟩) [1, 4, 5] [] g20 nodraw ?_; refine ⟨_, by (simp [*, F39, flg]; exact Is.mk), ?_⟩)
    | (refine tri_step (id := 3) (C := ⟨[1], [], []⟩) [2] [] g20 nodraw ?_; refine ⟨_, by (simp [*, F39, flg]; exact Is.mk), ?_⟩)
    | (refine tri_step (id := 4) (C := ⟨[1], [], []⟩) [1, 4, 7] [] g20 nodraw ?_; refine ⟨_, by (simp [*, F39, flg]; exact Is.mk), ?_⟩)
    | (refine tri_step (id := 5) (C := ⟨[1], [], []⟩) [2] [] g20 nodraw ?_; refine ⟨_, by (simp [*, F39, flg]; exact Is.mk), ?_⟩)
    | (refine tri_step (id := 6) (C := ⟨[1], [], []⟩) [1, 4, 9] [] g20 nodraw ?_; refine ⟨_, by (simp [*, F39, flg]; exact Is.mk), ?_⟩)
    | (refine tri_step (id := 7) (C := ⟨[1], [], []⟩) [2] [] g20 nodraw ?_; refine ⟨_, by (simp [*, F39, flg]; exact Is.mk), ?_⟩)
    | (refine tri_step (id := 8) (C := ⟨[1], [], []⟩) [1, 11] [] g20 nodraw ?_; refine ⟨_, by (simp [*, F39, flg]; exact Is.mk), ?_⟩)
    | (refine tri_step (id := 9) (C := ⟨[1], [], []⟩) [2] [] g20 nodraw ?_; refine ⟨_, by (simp [*, F39, flg]; exact Is.mk), ?_⟩)
    | (refine tri_step (id := 10) (C := ⟨[1], [], []⟩) [2] [] g20 nodraw ?_; refine ⟨_, by (simp [*, F39, flg]; exact Is.mk), ?_⟩)
    | (refine tri_cond (c := .tmp 5) (b_true (by simp; exact IsB.mk)) (fun hc => ?_) (fun hc => ?_))
    | (refine tri_cond (c := .tmp 7) (b_true (by simp; exact IsB.mk)) (fun hc => ?_) (fun hc => ?_))
    | (refine tri_cond (c := .tmp 9) (b_true (by simp; exact IsB.mk)) (fun hc => ?_) (fun hc => ?_))
    | (refine tri_cond (c := .tmp 11) (b_true (by simp; exact IsB.mk)) (fun hc => ?_) (fun hc => ?_))
    | (refine tri_seq ?_)
    ))
  all_goals (refine post_plainV (P := Try.prog) (fn := Try.f20) (by simp; exact IsV.mk) rfl ?_)
  all_goals (first | (simp [F39, flg, stName]; done) | (simp [*, F39, flg, stName]; done) | (simp_all [F39, flg, stName]; done) | (simp [F39, flg, stName] <;> (repeat' split) <;> simp_all; done) | (simp [F39, flg, stName] <;> (repeat' split) <;> simp_all [Bool.and_assoc] <;> grind [List.length_eq_zero_iff, sendCells_co, recvCells_co, pieceCells_co, connCells_co, segCells_co, clockCells_co]))
noncomputable def F20 : Fn1
  | [x0] => (whole pConn x0).bind fun c => some ((.v (.string (stName c))), none)
  | _ => none
theorem spec20 : Spec1 Try.prog 20 F20 := spec_of fun ys r o h => by
  unfold F20 at h
  split at h
  case h_2 => cases h
  obtain ⟨c, k0, h1⟩ := bind_some h
  cases h1
  exact ⟨_, at20 c, rfl, le_plain ⟨whole_co pConn_snd k0, trivial⟩ (by simp only [List.all_cons, List.all_nil, Bool.not_false, Bool.and_self, notRefB (whole_co pConn_snd k0) rfl (by simp)]) rfl⟩
theorem en20 : Enters Try.prog 20 := enters_of Try.func20 (by kernel_rfl) (by kernel_rfl)

end Go.Proofs.Ytkjodjaamjnejaa

