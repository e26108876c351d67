import Derived.Test.YtljlhooodbfpiaaGreatDoorK10
import Derived.Test.YtljlhooodbfpiaaGreatDoorK8
set_option linter.all false
-- Printed by genwalk.py.
namespace Go.Proofs.YtljlhooodbfpiaaGreatDoor
open Go Go.RowKit Caw
set_option linter.unusedSimpArgs false
set_option linter.unusedVariables false
set_option maxRecDepth 100000

-- slices.Clone[[]byte,byte]
set_option maxHeartbeats 400000 in
theorem at44 (d : List Int) (hpre : d.length ≤ 100000) : SpecAt Tryz.prog 44 [.sl 1 (encB d) none] (.sl 1 (encB d) none) none := by
  refine specAt_of_tri Tryz.func44 rfl (Nat.le_of_ble_eq_true rfl) ?_
  cases d with
  | nil =>
    refine tri_nil (i := 0) (sz := 1) (tg := none) rfl (by decide) ?_
    intro a cap
    cases a with
    | none =>
      all_goals (repeat' (first
      | (refine tri_condT (b_true (by simp; with_reducible exact IsB.mk)) ?_)
      | (refine tri_condF (b_true (by simp; with_reducible exact IsB.mk)) ?_)
      | (refine tri_skipT ?_)
      | (refine tri_skip ?_)
      | (refine then_to ?_)
      | (refine th_n ?_)
      | (refine in_n ?_)
      | (refine in_e ?_)
      | (refine in_x rfl ?_)
      | (refine th_e ?_)
      | (refine th_r ?_)
      | (refine in_r ?_)
      | (refine tri_ret ?_)
      | (refine tri_exit ?_)
      | (refine tri_block ?_)
      | (refine tri_step (id := 0) (C := ⟨[], [], []⟩) [0] [] gok_nil nodraw ?_; refine ⟨_, by (simp [*, encB_cons, flg]; exact Is.mk), ?_⟩)
      | (refine tri_last (id := 0) (C := ⟨[], [], []⟩) [0] [] gok_nil nodraw ?_; refine ⟨_, by (simp [*, encB_cons, flg]; exact Is.mk), ?_⟩)
      | (refine tri_step (id := 1) (C := ⟨[], [], []⟩) [0, 4] [] gok_nil nodraw ?_; refine ⟨_, by (simp [*, encB_cons, flg]; exact Is.mk), ?_⟩)
      | (refine tri_last (id := 1) (C := ⟨[], [], []⟩) [0, 4] [] gok_nil nodraw ?_; refine ⟨_, by (simp [*, encB_cons, flg]; exact Is.mk), ?_⟩)
      | (refine tri_step (id := 2) (C := ⟨[], [], []⟩) [2] [] gok_nil nodraw ?_; refine ⟨_, by (simp [*, encB_cons, flg]; exact Is.mk), ?_⟩)
      | (refine tri_last (id := 2) (C := ⟨[], [], []⟩) [2] [] gok_nil nodraw ?_; refine ⟨_, by (simp [*, encB_cons, flg]; exact Is.mk), ?_⟩)
      | (refine tri_step (id := 3) (C := ⟨[], [], []⟩) [2] [] gok_nil nodraw ?_; refine ⟨_, by (simp [*, encB_cons, flg]; exact Is.mk), ?_⟩)
      | (refine tri_last (id := 3) (C := ⟨[], [], []⟩) [2] [] gok_nil nodraw ?_; refine ⟨_, by (simp [*, encB_cons, flg]; exact Is.mk), ?_⟩)
      | (refine tri_cond (c := .tmp 4) (b_true (by simp; exact IsB.mk)) (fun hc => ?_) (fun hc => ?_))
      | (refine to_mk (by simp; exact IsK.mk))
      | (refine imp_ ?_)
      | ((simp; exact IsK.mk))
      | (refine tri_seq ?_)
      ))
      all_goals (refine post_plainV (P := Tryz.prog) (fn := Tryz.f44) (by simp; exact IsV.mk) rfl ?_)
      all_goals (simp [encB]; done)
    | some a =>
      all_goals (repeat' (first
      | (refine tri_condT (b_true (by simp; with_reducible exact IsB.mk)) ?_)
      | (refine tri_condF (b_true (by simp; with_reducible exact IsB.mk)) ?_)
      | (refine tri_skipT ?_)
      | (refine tri_skip ?_)
      | (refine then_to ?_)
      | (refine th_n ?_)
      | (refine in_n ?_)
      | (refine in_e ?_)
      | (refine in_x rfl ?_)
      | (refine th_e ?_)
      | (refine th_r ?_)
      | (refine in_r ?_)
      | (refine tri_ret ?_)
      | (refine tri_exit ?_)
      | (refine tri_block ?_)
      | (refine tri_step (id := 0) (C := ⟨[], [], []⟩) [0] [] gok_nil nodraw ?_; refine ⟨_, by (simp [*, encB_cons, flg]; exact Is.mk), ?_⟩)
      | (refine tri_last (id := 0) (C := ⟨[], [], []⟩) [0] [] gok_nil nodraw ?_; refine ⟨_, by (simp [*, encB_cons, flg]; exact Is.mk), ?_⟩)
      | (refine tri_step (id := 1) (C := ⟨[], [], []⟩) [0, 4] [] gok_nil nodraw ?_; refine ⟨_, by (simp [*, encB_cons, flg]; exact Is.mk), ?_⟩)
      | (refine tri_last (id := 1) (C := ⟨[], [], []⟩) [0, 4] [] gok_nil nodraw ?_; refine ⟨_, by (simp [*, encB_cons, flg]; exact Is.mk), ?_⟩)
      | (refine tri_step (id := 2) (C := ⟨[], [], []⟩) [2] [] gok_nil nodraw ?_; refine ⟨_, by (simp [*, encB_cons, flg]; exact Is.mk), ?_⟩)
      | (refine tri_last (id := 2) (C := ⟨[], [], []⟩) [2] [] gok_nil nodraw ?_; refine ⟨_, by (simp [*, encB_cons, flg]; exact Is.mk), ?_⟩)
      | (refine tri_step (id := 3) (C := ⟨[], [], []⟩) [2] [] gok_nil nodraw ?_; refine ⟨_, by (simp [*, encB_cons, flg]; exact Is.mk), ?_⟩)
      | (refine tri_last (id := 3) (C := ⟨[], [], []⟩) [2] [] gok_nil nodraw ?_; refine ⟨_, by (simp [*, encB_cons, flg]; exact Is.mk), ?_⟩)
      | (refine tri_cond (c := .tmp 4) (b_true (by simp; exact IsB.mk)) (fun hc => ?_) (fun hc => ?_))
      | (refine to_mk (by simp; exact IsK.mk))
      | (refine imp_ ?_)
      | ((simp; exact IsK.mk))
      | (refine tri_seq ?_)
      ))
      all_goals (refine post_plainV (P := Tryz.prog) (fn := Tryz.f44) (by simp; exact IsV.mk) rfl ?_)
      all_goals (simp [encB]; done)
  | cons x r =>
    have hl : (r.length + 1) * 2 ≤ 1099511627776 := by simp at hpre; omega
    clear hpre
    all_goals (repeat' (first
      | (refine tri_condT (b_true (by simp; with_reducible exact IsB.mk)) ?_)
      | (refine tri_condF (b_true (by simp; with_reducible exact IsB.mk)) ?_)
      | (refine tri_skipT ?_)
      | (refine tri_skip ?_)
      | (refine then_to ?_)
      | (refine th_n ?_)
      | (refine in_n ?_)
      | (refine in_e ?_)
      | (refine in_x rfl ?_)
      | (refine th_e ?_)
      | (refine th_r ?_)
      | (refine in_r ?_)
      | (refine tri_ret ?_)
      | (refine tri_exit ?_)
      | (refine tri_block ?_)
      | (refine tri_step (id := 0) (C := ⟨[], [], []⟩) [0] [] gok_nil nodraw ?_; refine ⟨_, by (simp [*, encB_cons, flg]; exact Is.mk), ?_⟩)
      | (refine tri_last (id := 0) (C := ⟨[], [], []⟩) [0] [] gok_nil nodraw ?_; refine ⟨_, by (simp [*, encB_cons, flg]; exact Is.mk), ?_⟩)
      | (refine tri_step (id := 1) (C := ⟨[], [], []⟩) [0, 4] [] gok_nil nodraw ?_; refine ⟨_, by (simp [*, encB_cons, flg]; exact Is.mk), ?_⟩)
      | (refine tri_last (id := 1) (C := ⟨[], [], []⟩) [0, 4] [] gok_nil nodraw ?_; refine ⟨_, by (simp [*, encB_cons, flg]; exact Is.mk), ?_⟩)
      | (refine tri_step (id := 2) (C := ⟨[], [], []⟩) [2] [] gok_nil nodraw ?_; refine ⟨_, by (simp [*, encB_cons, flg]; exact Is.mk), ?_⟩)
      | (refine tri_last (id := 2) (C := ⟨[], [], []⟩) [2] [] gok_nil nodraw ?_; refine ⟨_, by (simp [*, encB_cons, flg]; exact Is.mk), ?_⟩)
      | (refine tri_step (id := 3) (C := ⟨[], [], []⟩) [2] [] gok_nil nodraw ?_; refine ⟨_, by (simp [*, encB_cons, flg]; exact Is.mk), ?_⟩)
      | (refine tri_last (id := 3) (C := ⟨[], [], []⟩) [2] [] gok_nil nodraw ?_; refine ⟨_, by (simp [*, encB_cons, flg]; exact Is.mk), ?_⟩)
      | (refine tri_cond (c := .tmp 4) (b_true (by simp; exact IsB.mk)) (fun hc => ?_) (fun hc => ?_))
      | (refine to_mk (by simp; exact IsK.mk))
      | (refine imp_ ?_)
      | ((simp; exact IsK.mk))
      | (refine tri_seq ?_)
      ))
    all_goals (refine post_plainV (P := Tryz.prog) (fn := Tryz.f44) (by simp; exact IsV.mk) rfl ?_)
    all_goals (simp [encB]; done)
open Classical in
noncomputable def F44 : Fn1
  | [x0] => (decB x0).bind fun d => if d.length ≤ 100000 then some ((.sl 1 (encB d) none), none) else none
  | _ => none
theorem spec44 : Spec1 Tryz.prog 44 F44 := spec_of fun ys r o h => by
  unfold F44 at h
  split at h
  case h_2 => cases h
  obtain ⟨d, k0, h1⟩ := bind_some h
  obtain ⟨hpre, hz⟩ := ite_some h1
  cases hz
  exact ⟨_, at44 d hpre, rfl, le_plain ⟨decB_coA k0, trivial⟩ (by simp only [List.all_cons, List.all_nil, Bool.not_false, Bool.and_self, notRefB (decB_coA k0) rfl (by simp)]) rfl⟩
theorem en44 : Enters Tryz.prog 44 := enters_of Tryz.func44 (by kernel_rfl) rfl

-- caravel/carry.CloneTarget
theorem g21 : GOk1 Tryz.prog (ctxOf [(44, F44)]) := gok_cons spec44 en44 (gok_nil)
set_option maxHeartbeats 400000 in
theorem at21 (t : Caw.Targ) (hpre : t.bytes.length ≤ 100000 ∧ t.kernel.length ≤ 100000) : SpecAt Tryz.prog 21 [.agg (targCells t)] (.agg (targCells t)) none := by
  obtain ⟨hp1, hp2⟩ := hpre
  all_goals refine specAt_of_tri Tryz.func21 rfl (Nat.le_of_ble_eq_true rfl) ?_
  all_goals (repeat' (first
    | (refine tri_condT (b_true (by simp; with_reducible exact IsB.mk)) ?_)
    | (refine tri_condF (b_true (by simp; with_reducible exact IsB.mk)) ?_)
    | (refine tri_skipT ?_)
    | (refine tri_skip ?_)
    | (refine then_to ?_)
    | (refine th_n ?_)
    | (refine in_n ?_)
    | (refine in_e ?_)
    | (refine in_x rfl ?_)
    | (refine th_e ?_)
    | (refine th_r ?_)
    | (refine in_r ?_)
    | (refine tri_ret ?_)
    | (refine tri_exit ?_)
    | (refine tri_block ?_)
    | (refine tri_step (id := 0) (C := ⟨[], [], [(3, (2, 0, 0)), (6, (2, 0, 0)), (9, (2, 0, 0)), (10, (2, 0, 0))]⟩) [1, 2] [(2, 0, 0), (3, 0, 0)] g21 nodraw ?_; refine ⟨_, by (simp [*, F44, flg]; exact Is.mk), ?_⟩)
    | (refine tri_last (id := 0) (C := ⟨[], [], [(3, (2, 0, 0)), (6, (2, 0, 0)), (9, (2, 0, 0)), (10, (2, 0, 0))]⟩) [1, 2] [(2, 0, 0), (3, 0, 0)] g21 nodraw ?_; refine ⟨_, by (simp [*, F44, flg]; exact Is.mk), ?_⟩)
    | (refine tri_step (id := 1) (C := ⟨[], [], [(3, (2, 0, 0)), (6, (2, 0, 0)), (9, (2, 0, 0)), (10, (2, 0, 0))]⟩) [1, 2] [(2, 0, 0), (3, 0, 0)] g21 (fun _ => ⟨q_mixed, by kernel_rfl⟩) ?_; refine ⟨_, by (simp [*, F44, flg]; exact Is.mk), ?_⟩)
    | (refine tri_last (id := 1) (C := ⟨[], [], [(3, (2, 0, 0)), (6, (2, 0, 0)), (9, (2, 0, 0)), (10, (2, 0, 0))]⟩) [1, 2] [(2, 0, 0), (3, 0, 0)] g21 (fun _ => ⟨q_mixed, by kernel_rfl⟩) ?_; refine ⟨_, by (simp [*, F44, flg]; exact Is.mk), ?_⟩)
    | (refine tri_step (id := 2) (C := ⟨[], [], [(3, (2, 0, 0)), (6, (2, 0, 0)), (9, (2, 0, 0)), (10, (2, 0, 0))]⟩) [2] [(3, 0, 0)] g21 nodraw ?_; refine ⟨_, by (simp [*, F44, flg]; exact Is.mk), ?_⟩)
    | (refine tri_last (id := 2) (C := ⟨[], [], [(3, (2, 0, 0)), (6, (2, 0, 0)), (9, (2, 0, 0)), (10, (2, 0, 0))]⟩) [2] [(3, 0, 0)] g21 nodraw ?_; refine ⟨_, by (simp [*, F44, flg]; exact Is.mk), ?_⟩)
    | (refine to_mk (by simp; exact IsK.mk))
    | (refine imp_ ?_)
    | ((simp; exact IsK.mk))
    | (refine tri_seq ?_)
    ))
  all_goals (refine post_plainV (P := Tryz.prog) (fn := Tryz.f21) (by simp; exact IsV.mk) rfl ?_)
  all_goals (first | (simp [F44, flg]; done) | (simp [*, F44, flg]; done) | (simp_all [F44, flg]; done) | (simp [F44, flg] <;> (repeat' split) <;> simp_all; done) | (simp [F44, flg] <;> (repeat' split) <;> simp_all [Bool.and_assoc] <;> grind [List.length_eq_zero_iff, sendCells_co, recvCells_co, pieceCells_co, connCells_co, segCells_co, clockCells_co]))
open Classical in
noncomputable def F21 : Fn1
  | [x0] => (whole pTarg x0).bind fun t => if t.bytes.length ≤ 100000 ∧ t.kernel.length ≤ 100000 then some ((.agg (targCells t)), none) else none
  | _ => none
theorem spec21 : Spec1 Tryz.prog 21 F21 := spec_of fun ys r o h => by
  unfold F21 at h
  split at h
  case h_2 => cases h
  obtain ⟨t, k0, h1⟩ := bind_some h
  obtain ⟨hpre, hz⟩ := ite_some h1
  cases hz
  exact ⟨_, at21 t hpre, rfl, le_plain ⟨whole_co pTarg_snd k0, trivial⟩ (by simp only [List.all_cons, List.all_nil, Bool.not_false, Bool.and_self, notRefB (whole_co pTarg_snd k0) rfl (by simp)]) rfl⟩
theorem en21 : Enters Tryz.prog 21 := enters_of Tryz.func21 (by kernel_rfl) rfl

-- caravel/carry.Crash
set_option maxHeartbeats 400000 in
theorem at10 (t : Caw.Targ) : SpecAt Tryz.prog 10 [.agg (targCells t)] (.agg (targCells (crashF t))) none := by
  all_goals refine specAt_of_tri Tryz.func10 rfl (Nat.le_of_ble_eq_true rfl) ?_
  all_goals (repeat' (first
    | (refine tri_condT (b_true (by simp; with_reducible exact IsB.mk)) ?_)
    | (refine tri_condF (b_true (by simp; with_reducible exact IsB.mk)) ?_)
    | (refine tri_skipT ?_)
    | (refine tri_skip ?_)
    | (refine then_to ?_)
    | (refine th_n ?_)
    | (refine in_n ?_)
    | (refine in_e ?_)
    | (refine in_x rfl ?_)
    | (refine th_e ?_)
    | (refine th_r ?_)
    | (refine in_r ?_)
    | (refine tri_ret ?_)
    | (refine tri_exit ?_)
    | (refine tri_block ?_)
    | (refine tri_step (id := 0) (C := ⟨[1], [], []⟩) [1, 2] [(3, 0, 0)] gok_nil nodraw ?_; refine ⟨_, by (simp [flg]; exact Is.mk), ?_⟩)
    | (refine tri_last (id := 0) (C := ⟨[1], [], []⟩) [1, 2] [(3, 0, 0)] gok_nil nodraw ?_; refine ⟨_, by (simp [flg]; exact Is.mk), ?_⟩)
    | (refine tri_step (id := 1) (C := ⟨[1], [], []⟩) [2] [(3, 0, 0)] gok_nil nodraw ?_; refine ⟨_, by (simp [flg]; exact Is.mk), ?_⟩)
    | (refine tri_last (id := 1) (C := ⟨[1], [], []⟩) [2] [(3, 0, 0)] gok_nil nodraw ?_; refine ⟨_, by (simp [flg]; exact Is.mk), ?_⟩)
    | (refine to_mk (by simp; exact IsK.mk))
    | (refine imp_ ?_)
    | ((simp; exact IsK.mk))
    | (refine tri_seq ?_)
    ))
  all_goals (refine post_plainV (P := Tryz.prog) (fn := Tryz.f10) (by simp; exact IsV.mk) rfl ?_)
  all_goals (first | (simp [flg, crashF, targCells]; done) | (simp [*, flg, crashF, targCells]; done) | (simp_all [flg, crashF, targCells]; done) | (simp [flg, crashF, targCells] <;> (repeat' split) <;> simp_all; done) | (simp [flg, crashF, targCells] <;> (repeat' split) <;> simp_all [Bool.and_assoc] <;> grind [List.length_eq_zero_iff, sendCells_co, recvCells_co, pieceCells_co, connCells_co, segCells_co, clockCells_co]))
noncomputable def F10 : Fn1
  | [x0] => (whole pTarg x0).bind fun t => some ((.agg (targCells (crashF t))), none)
  | _ => none
theorem spec10 : Spec1 Tryz.prog 10 F10 := spec_of fun ys r o h => by
  unfold F10 at h
  split at h
  case h_2 => cases h
  obtain ⟨t, k0, h1⟩ := bind_some h
  cases h1
  exact ⟨_, at10 t, rfl, le_plain ⟨whole_co pTarg_snd k0, trivial⟩ (by simp only [List.all_cons, List.all_nil, Bool.not_false, Bool.and_self, notRefB (whole_co pTarg_snd k0) rfl (by simp)]) rfl⟩
theorem en10 : Enters Tryz.prog 10 := enters_of Tryz.func10 (by kernel_rfl) rfl

end Go.Proofs.YtljlhooodbfpiaaGreatDoor

