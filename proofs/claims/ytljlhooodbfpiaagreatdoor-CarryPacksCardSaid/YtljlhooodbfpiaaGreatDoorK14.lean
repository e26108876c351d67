import Derived.Test.YtljlhooodbfpiaaGreatDoorK11
import Derived.Test.YtljlhooodbfpiaaGreatDoorK12
set_option linter.all false
-- Printed by genwalk.py.
namespace Go.Proofs.YtljlhooodbfpiaaGreatDoor
open Go Go.RowKit Caw
set_option linter.unusedSimpArgs false
set_option linter.unusedVariables false
set_option maxRecDepth 100000

-- caravel/cksum.add
set_option maxHeartbeats 400000 in
theorem at75 (a : Int) (b : Int) (hpre : (0 ≤ a ∧ a < 65536) ∧ 0 ≤ b ∧ b < 65536) : SpecAt Tryz.prog 75 [.v (.int .u16 a), .v (.int .u16 b)] (.v (.int .u16 (addN a b))) none := by
  obtain ⟨h1, h2⟩ := hpre
  obtain ⟨e1, e2, e3, e4⟩ := add_facts h1 h2
  clear h1 h2
  all_goals refine specAt_of_tri Tryz.func75 rfl (Nat.le_of_ble_eq_true rfl) ?_
  all_goals (repeat' (first
    | (refine tri_condT (b_true (by simp; with_reducible exact IsB.mk)) ?_)
    | (refine tri_condF (b_true (by simp; with_reducible exact IsB.mk)) ?_)
    | (refine tri_skipT ?_)
    | (refine tri_skip ?_)
    | (refine then_to ?_)
    | (refine th_n ?_)
    | (refine in_n ?_)
    | (refine in_e ?_)
    | (refine in_x rfl ?_)
    | (refine th_e ?_)
    | (refine th_r ?_)
    | (refine in_r ?_)
    | (refine tri_ret ?_)
    | (refine tri_exit ?_)
    | (refine tri_block ?_)
    | (refine tri_step (id := 0) (C := ⟨[], [], []⟩) [0, 1] [] gok_nil nodraw ?_; refine ⟨_, by (simp [*, flg]; exact Is.mk), ?_⟩)
    | (refine tri_last (id := 0) (C := ⟨[], [], []⟩) [0, 1] [] gok_nil nodraw ?_; refine ⟨_, by (simp [*, flg]; exact Is.mk), ?_⟩)
    | (refine tri_step (id := 1) (C := ⟨[], [], []⟩) [5] [] gok_nil nodraw ?_; refine ⟨_, by (simp [*, flg]; exact Is.mk), ?_⟩)
    | (refine tri_last (id := 1) (C := ⟨[], [], []⟩) [5] [] gok_nil nodraw ?_; refine ⟨_, by (simp [*, flg]; exact Is.mk), ?_⟩)
    | (refine tri_step (id := 2) (C := ⟨[], [], []⟩) [4] [] gok_nil nodraw ?_; refine ⟨_, by (simp [*, flg]; exact Is.mk), ?_⟩)
    | (refine tri_last (id := 2) (C := ⟨[], [], []⟩) [4] [] gok_nil nodraw ?_; refine ⟨_, by (simp [*, flg]; exact Is.mk), ?_⟩)
    | (refine to_mk (by simp; exact IsK.mk))
    | (refine imp_ ?_)
    | ((simp; exact IsK.mk))
    | (refine tri_seq ?_)
    ))
  all_goals (refine post_plainV (P := Tryz.prog) (fn := Tryz.f75) (by simp; exact IsV.mk) rfl ?_)
  all_goals (first | (simp [flg]; done) | (simp [*, flg]; done) | (simp_all [flg]; done) | (simp [flg] <;> (repeat' split) <;> simp_all; done) | (simp [flg] <;> (repeat' split) <;> simp_all [Bool.and_assoc] <;> grind [List.length_eq_zero_iff, sendCells_co, recvCells_co, pieceCells_co, connCells_co, segCells_co, clockCells_co]))
open Classical in
noncomputable def F75 : Fn1
  | [x0, x1] => (dI .u16 x0).bind fun a => (dI .u16 x1).bind fun b => if (0 ≤ a ∧ a < 65536) ∧ 0 ≤ b ∧ b < 65536 then some ((.v (.int .u16 (addN a b))), none) else none
  | _ => none
theorem spec75 : Spec1 Tryz.prog 75 F75 := spec_of fun ys r o h => by
  unfold F75 at h
  split at h
  case h_2 => cases h
  obtain ⟨a, k0, h1⟩ := bind_some h
  obtain ⟨b, k1, h2⟩ := bind_some h1
  obtain ⟨hpre, hz⟩ := ite_some h2
  cases hz
  exact ⟨_, at75 a b hpre, rfl, le_plain ⟨dI_co k0, ⟨dI_co k1, trivial⟩⟩ (by simp only [List.all_cons, List.all_nil, Bool.not_false, Bool.and_self, notRefB (dI_co k0) rfl (by simp), notRefB (dI_co k1) rfl (by simp)]) rfl⟩
theorem en75 : Enters Tryz.prog 75 := enters_of Tryz.func75 (by kernel_rfl) rfl

-- caravel/cksum.Fold
theorem g47 : GOk1 Tryz.prog (ctxOf [(75, F75)]) := gok_cons spec75 en75 (gok_nil)
set_option maxHeartbeats 2000000 in
theorem at47 (b : List Int) (hpre : u8L b ∧ b.length ≤ 100000) : SpecAt Tryz.prog 47 [.sl 1 [.sl 1 (encB b) none] none] (.v (.int .u16 (sumF b))) none := by
  obtain ⟨hu, hn⟩ := hpre
  refine specAt_of_tri Tryz.func47 rfl (Nat.le_of_ble_eq_true rfl) ?_
  all_goals (repeat' (first
      | (refine tri_condT (b_true (by simp; with_reducible exact IsB.mk)) ?_)
      | (refine tri_condF (b_true (by simp; with_reducible exact IsB.mk)) ?_)
      | (refine tri_skipT ?_)
      | (refine tri_skip ?_)
      | (refine then_to ?_)
      | (refine th_n ?_)
      | (refine in_n ?_)
      | (refine in_e ?_)
      | (refine in_x rfl ?_)
      | (refine th_e ?_)
      | (refine th_r ?_)
      | (refine in_r ?_)
      | (refine tri_ret ?_)
      | (refine tri_exit ?_)
      | (refine tri_block ?_)
      | (refine tri_step (id := 0) (C := ⟨[], [], []⟩) [0] [] g47 nodraw ?_; refine ⟨_, by (simp [*, F75, flg]; exact Is.mk), ?_⟩)
      | (refine tri_last (id := 0) (C := ⟨[], [], []⟩) [0] [] g47 nodraw ?_; refine ⟨_, by (simp [*, F75, flg]; exact Is.mk), ?_⟩)
      | (refine tri_step (id := 1) (C := ⟨[], [], []⟩) [0, 3, 4] [] g47 nodraw ?_; refine ⟨_, by (simp [*, F75, flg]; exact Is.mk), ?_⟩)
      | (refine tri_last (id := 1) (C := ⟨[], [], []⟩) [0, 3, 4] [] g47 nodraw ?_; refine ⟨_, by (simp [*, F75, flg]; exact Is.mk), ?_⟩)
      | (refine tri_step (id := 2) (C := ⟨[], [], []⟩) [3, 4, 9, 10, 11] [] g47 nodraw ?_; refine ⟨_, by (simp [*, F75, flg]; exact Is.mk), ?_⟩)
      | (refine tri_last (id := 2) (C := ⟨[], [], []⟩) [3, 4, 9, 10, 11] [] g47 nodraw ?_; refine ⟨_, by (simp [*, F75, flg]; exact Is.mk), ?_⟩)
      | (refine tri_step (id := 3) (C := ⟨[], [], []⟩) [3, 4, 9, 10, 11, 12] [] g47 nodraw ?_; refine ⟨_, by (simp [*, F75, flg]; exact Is.mk), ?_⟩)
      | (refine tri_last (id := 3) (C := ⟨[], [], []⟩) [3, 4, 9, 10, 11, 12] [] g47 nodraw ?_; refine ⟨_, by (simp [*, F75, flg]; exact Is.mk), ?_⟩)
      | (refine tri_step (id := 4) (C := ⟨[], [], []⟩) [3, 4, 6, 9, 10, 11] [] g47 nodraw ?_; refine ⟨_, by (simp [*, F75, flg]; exact Is.mk), ?_⟩)
      | (refine tri_last (id := 4) (C := ⟨[], [], []⟩) [3, 4, 6, 9, 10, 11] [] g47 nodraw ?_; refine ⟨_, by (simp [*, F75, flg]; exact Is.mk), ?_⟩)
      | (refine tri_step (id := 5) (C := ⟨[], [], []⟩) [3, 4, 9, 10, 11, 15, 16, 17] [] g47 nodraw ?_; refine ⟨_, by (simp [*, F75, flg]; exact Is.mk), ?_⟩)
      | (refine tri_last (id := 5) (C := ⟨[], [], []⟩) [3, 4, 9, 10, 11, 15, 16, 17] [] g47 nodraw ?_; refine ⟨_, by (simp [*, F75, flg]; exact Is.mk), ?_⟩)
      | (refine tri_step (id := 6) (C := ⟨[], [], []⟩) [3, 4, 9, 10, 11, 15, 16, 17, 18] [] g47 nodraw ?_; refine ⟨_, by (simp [*, F75, flg]; exact Is.mk), ?_⟩)
      | (refine tri_last (id := 6) (C := ⟨[], [], []⟩) [3, 4, 9, 10, 11, 15, 16, 17, 18] [] g47 nodraw ?_; refine ⟨_, by (simp [*, F75, flg]; exact Is.mk), ?_⟩)
      | (refine tri_step (id := 7) (C := ⟨[], [], []⟩) [3, 4, 8, 9, 10, 11, 15, 16, 17] [] g47 nodraw ?_; refine ⟨_, by (simp [*, F75, flg]; exact Is.mk), ?_⟩)
      | (refine tri_last (id := 7) (C := ⟨[], [], []⟩) [3, 4, 8, 9, 10, 11, 15, 16, 17] [] g47 nodraw ?_; refine ⟨_, by (simp [*, F75, flg]; exact Is.mk), ?_⟩)
      | (refine tri_step (id := 8) (C := ⟨[], [], []⟩) [3, 4, 8, 9, 10, 11, 15, 16, 17, 21] [] g47 nodraw ?_; refine ⟨_, by (simp [*, F75, flg]; exact Is.mk), ?_⟩)
      | (refine tri_last (id := 8) (C := ⟨[], [], []⟩) [3, 4, 8, 9, 10, 11, 15, 16, 17, 21] [] g47 nodraw ?_; refine ⟨_, by (simp [*, F75, flg]; exact Is.mk), ?_⟩)
      | (refine tri_step (id := 9) (C := ⟨[], [], []⟩) [3, 4, 9, 10, 11, 15, 16, 17] [] g47 nodraw ?_; refine ⟨_, by (simp [*, F75, flg]; exact Is.mk), ?_⟩)
      | (refine tri_last (id := 9) (C := ⟨[], [], []⟩) [3, 4, 9, 10, 11, 15, 16, 17] [] g47 nodraw ?_; refine ⟨_, by (simp [*, F75, flg]; exact Is.mk), ?_⟩)
      | (refine tri_step (id := 10) (C := ⟨[], [], []⟩) [3, 4, 9, 10, 11, 15, 16, 17] [] g47 nodraw ?_; refine ⟨_, by (simp [*, F75, flg]; exact Is.mk), ?_⟩)
      | (refine tri_last (id := 10) (C := ⟨[], [], []⟩) [3, 4, 9, 10, 11, 15, 16, 17] [] g47 nodraw ?_; refine ⟨_, by (simp [*, F75, flg]; exact Is.mk), ?_⟩)
      | (refine tri_step (id := 11) (C := ⟨[], [], []⟩) [3, 4, 9, 10, 11, 15, 16, 17] [] g47 nodraw ?_; refine ⟨_, by (simp [*, F75, flg]; exact Is.mk), ?_⟩)
      | (refine tri_last (id := 11) (C := ⟨[], [], []⟩) [3, 4, 9, 10, 11, 15, 16, 17] [] g47 nodraw ?_; refine ⟨_, by (simp [*, F75, flg]; exact Is.mk), ?_⟩)
      | (refine tri_step (id := 12) (C := ⟨[], [], []⟩) [3, 4, 9, 10, 11, 15, 16, 17] [] g47 nodraw ?_; refine ⟨_, by (simp [*, F75, flg]; exact Is.mk), ?_⟩)
      | (refine tri_last (id := 12) (C := ⟨[], [], []⟩) [3, 4, 9, 10, 11, 15, 16, 17] [] g47 nodraw ?_; refine ⟨_, by (simp [*, F75, flg]; exact Is.mk), ?_⟩)
      | (refine tri_step (id := 13) (C := ⟨[], [], []⟩) [3, 4, 9, 10, 11] [] g47 nodraw ?_; refine ⟨_, by (simp [*, F75, flg]; exact Is.mk), ?_⟩)
      | (refine tri_last (id := 13) (C := ⟨[], [], []⟩) [3, 4, 9, 10, 11] [] g47 nodraw ?_; refine ⟨_, by (simp [*, F75, flg]; exact Is.mk), ?_⟩)
      | (refine tri_step (id := 14) (C := ⟨[], [], []⟩) [2] [] g47 nodraw ?_; refine ⟨_, by (simp [*, F75, flg]; exact Is.mk), ?_⟩)
      | (refine tri_last (id := 14) (C := ⟨[], [], []⟩) [2] [] g47 nodraw ?_; refine ⟨_, by (simp [*, F75, flg]; exact Is.mk), ?_⟩)
      | (refine tri_cond (c := .tmp 12) (b_true (by simp; exact IsB.mk)) (fun hc => ?_) (fun hc => ?_))
      | (refine tri_cond (c := .tmp 18) (b_true (by simp; exact IsB.mk)) (fun hc => ?_) (fun hc => ?_))
      | (refine tri_cond (c := .tmp 21) (b_true (by simp; exact IsB.mk)) (fun hc => ?_) (fun hc => ?_))
      | (refine to_mk (by simp; exact IsK.mk))
      | (refine imp_ ?_)
      | ((simp; exact IsK.mk))
      | (refine tri_seq ?_)
      ))
  refine tri_loop (fun n st => ∃ i : Nat, i ≤ 1 ∧ n = 1 - i ∧ st = mkSt [(3, .v (.int .u16 (if i = 0 then 0 else sumF b))), (4, .v (.bool (if i = 0 then true else hiF true b))), (9, .sl 1 [.sl 1 (encB b) none] none), (10, .v (.int .i64 1)), (11, .v (.int .i64 i))] []) 1 _ (Le.refl _) ⟨0, by omega, rfl, rfl⟩ ?_
  rintro n st ⟨i, hi, hn2, rfl⟩
  rcases (by omega : i = 0 ∨ i = 1) with rfl | rfl
  · all_goals (repeat' (first
      | (refine tri_condT (b_true (by simp; with_reducible exact IsB.mk)) ?_)
      | (refine tri_condF (b_true (by simp; with_reducible exact IsB.mk)) ?_)
      | (refine tri_skipT ?_)
      | (refine tri_skip ?_)
      | (refine then_to ?_)
      | (refine th_n ?_)
      | (refine in_n ?_)
      | (refine in_e ?_)
      | (refine in_x rfl ?_)
      | (refine th_e ?_)
      | (refine th_r ?_)
      | (refine in_r ?_)
      | (refine tri_ret ?_)
      | (refine tri_exit ?_)
      | (refine tri_block ?_)
      | (refine tri_step (id := 0) (C := ⟨[], [], []⟩) [0] [] g47 nodraw ?_; refine ⟨_, by (simp [*, F75, flg]; exact Is.mk), ?_⟩)
      | (refine tri_last (id := 0) (C := ⟨[], [], []⟩) [0] [] g47 nodraw ?_; refine ⟨_, by (simp [*, F75, flg]; exact Is.mk), ?_⟩)
      | (refine tri_step (id := 1) (C := ⟨[], [], []⟩) [0, 3, 4] [] g47 nodraw ?_; refine ⟨_, by (simp [*, F75, flg]; exact Is.mk), ?_⟩)
      | (refine tri_last (id := 1) (C := ⟨[], [], []⟩) [0, 3, 4] [] g47 nodraw ?_; refine ⟨_, by (simp [*, F75, flg]; exact Is.mk), ?_⟩)
      | (refine tri_step (id := 2) (C := ⟨[], [], []⟩) [3, 4, 9, 10, 11] [] g47 nodraw ?_; refine ⟨_, by (simp [*, F75, flg]; exact Is.mk), ?_⟩)
      | (refine tri_last (id := 2) (C := ⟨[], [], []⟩) [3, 4, 9, 10, 11] [] g47 nodraw ?_; refine ⟨_, by (simp [*, F75, flg]; exact Is.mk), ?_⟩)
      | (refine tri_step (id := 3) (C := ⟨[], [], []⟩) [3, 4, 9, 10, 11, 12] [] g47 nodraw ?_; refine ⟨_, by (simp [*, F75, flg]; exact Is.mk), ?_⟩)
      | (refine tri_last (id := 3) (C := ⟨[], [], []⟩) [3, 4, 9, 10, 11, 12] [] g47 nodraw ?_; refine ⟨_, by (simp [*, F75, flg]; exact Is.mk), ?_⟩)
      | (refine tri_step (id := 4) (C := ⟨[], [], []⟩) [3, 4, 6, 9, 10, 11] [] g47 nodraw ?_; refine ⟨_, by (simp [*, F75, flg]; exact Is.mk), ?_⟩)
      | (refine tri_last (id := 4) (C := ⟨[], [], []⟩) [3, 4, 6, 9, 10, 11] [] g47 nodraw ?_; refine ⟨_, by (simp [*, F75, flg]; exact Is.mk), ?_⟩)
      | (refine tri_step (id := 5) (C := ⟨[], [], []⟩) [3, 4, 9, 10, 11, 15, 16, 17] [] g47 nodraw ?_; refine ⟨_, by (simp [*, F75, flg]; exact Is.mk), ?_⟩)
      | (refine tri_last (id := 5) (C := ⟨[], [], []⟩) [3, 4, 9, 10, 11, 15, 16, 17] [] g47 nodraw ?_; refine ⟨_, by (simp [*, F75, flg]; exact Is.mk), ?_⟩)
      | (refine tri_step (id := 6) (C := ⟨[], [], []⟩) [3, 4, 9, 10, 11, 15, 16, 17, 18] [] g47 nodraw ?_; refine ⟨_, by (simp [*, F75, flg]; exact Is.mk), ?_⟩)
      | (refine tri_last (id := 6) (C := ⟨[], [], []⟩) [3, 4, 9, 10, 11, 15, 16, 17, 18] [] g47 nodraw ?_; refine ⟨_, by (simp [*, F75, flg]; exact Is.mk), ?_⟩)
      | (refine tri_step (id := 7) (C := ⟨[], [], []⟩) [3, 4, 8, 9, 10, 11, 15, 16, 17] [] g47 nodraw ?_; refine ⟨_, by (simp [*, F75, flg]; exact Is.mk), ?_⟩)
      | (refine tri_last (id := 7) (C := ⟨[], [], []⟩) [3, 4, 8, 9, 10, 11, 15, 16, 17] [] g47 nodraw ?_; refine ⟨_, by (simp [*, F75, flg]; exact Is.mk), ?_⟩)
      | (refine tri_step (id := 8) (C := ⟨[], [], []⟩) [3, 4, 8, 9, 10, 11, 15, 16, 17, 21] [] g47 nodraw ?_; refine ⟨_, by (simp [*, F75, flg]; exact Is.mk), ?_⟩)
      | (refine tri_last (id := 8) (C := ⟨[], [], []⟩) [3, 4, 8, 9, 10, 11, 15, 16, 17, 21] [] g47 nodraw ?_; refine ⟨_, by (simp [*, F75, flg]; exact Is.mk), ?_⟩)
      | (refine tri_step (id := 9) (C := ⟨[], [], []⟩) [3, 4, 9, 10, 11, 15, 16, 17] [] g47 nodraw ?_; refine ⟨_, by (simp [*, F75, flg]; exact Is.mk), ?_⟩)
      | (refine tri_last (id := 9) (C := ⟨[], [], []⟩) [3, 4, 9, 10, 11, 15, 16, 17] [] g47 nodraw ?_; refine ⟨_, by (simp [*, F75, flg]; exact Is.mk), ?_⟩)
      | (refine tri_step (id := 10) (C := ⟨[], [], []⟩) [3, 4, 9, 10, 11, 15, 16, 17] [] g47 nodraw ?_; refine ⟨_, by (simp [*, F75, flg]; exact Is.mk), ?_⟩)
      | (refine tri_last (id := 10) (C := ⟨[], [], []⟩) [3, 4, 9, 10, 11, 15, 16, 17] [] g47 nodraw ?_; refine ⟨_, by (simp [*, F75, flg]; exact Is.mk), ?_⟩)
      | (refine tri_step (id := 11) (C := ⟨[], [], []⟩) [3, 4, 9, 10, 11, 15, 16, 17] [] g47 nodraw ?_; refine ⟨_, by (simp [*, F75, flg]; exact Is.mk), ?_⟩)
      | (refine tri_last (id := 11) (C := ⟨[], [], []⟩) [3, 4, 9, 10, 11, 15, 16, 17] [] g47 nodraw ?_; refine ⟨_, by (simp [*, F75, flg]; exact Is.mk), ?_⟩)
      | (refine tri_step (id := 12) (C := ⟨[], [], []⟩) [3, 4, 9, 10, 11, 15, 16, 17] [] g47 nodraw ?_; refine ⟨_, by (simp [*, F75, flg]; exact Is.mk), ?_⟩)
      | (refine tri_last (id := 12) (C := ⟨[], [], []⟩) [3, 4, 9, 10, 11, 15, 16, 17] [] g47 nodraw ?_; refine ⟨_, by (simp [*, F75, flg]; exact Is.mk), ?_⟩)
      | (refine tri_step (id := 13) (C := ⟨[], [], []⟩) [3, 4, 9, 10, 11] [] g47 nodraw ?_; refine ⟨_, by (simp [*, F75, flg]; exact Is.mk), ?_⟩)
      | (refine tri_last (id := 13) (C := ⟨[], [], []⟩) [3, 4, 9, 10, 11] [] g47 nodraw ?_; refine ⟨_, by (simp [*, F75, flg]; exact Is.mk), ?_⟩)
      | (refine tri_step (id := 14) (C := ⟨[], [], []⟩) [2] [] g47 nodraw ?_; refine ⟨_, by (simp [*, F75, flg]; exact Is.mk), ?_⟩)
      | (refine tri_last (id := 14) (C := ⟨[], [], []⟩) [2] [] g47 nodraw ?_; refine ⟨_, by (simp [*, F75, flg]; exact Is.mk), ?_⟩)
      | (refine tri_cond (c := .tmp 12) (b_true (by simp; exact IsB.mk)) (fun hc => ?_) (fun hc => ?_))
      | (refine tri_cond (c := .tmp 18) (b_true (by simp; exact IsB.mk)) (fun hc => ?_) (fun hc => ?_))
      | (refine tri_cond (c := .tmp 21) (b_true (by simp; exact IsB.mk)) (fun hc => ?_) (fun hc => ?_))
      | (refine to_mk (by simp; exact IsK.mk))
      | (refine imp_ ?_)
      | ((simp; exact IsK.mk))
      | (refine tri_seq ?_)
      ))
    refine tri_loop (fun n st => ∃ d r, IsCat b d r ∧ n = r.length ∧ st = mkSt [(3, .v (.int .u16 (foldB true 0 d))), (4, .v (.bool (hiF true d))), (9, .sl 1 [.sl 1 (encB b) none] none), (10, .v (.int .i64 1)), (11, .v (.int .i64 0)), (15, .sl 1 (encB b) none), (16, .v (.int .i64 b.length)), (17, .v (.int .i64 d.length))] []) b.length _ (Le.refl _) ⟨[], b, isCat0 b, rfl, rfl⟩ ?_
    rintro n2 st2 ⟨d, r, hb, hn3, rfl⟩
    cases r with
    | nil =>
      have hd : d = b := hb.fin
      clear hb
      subst hd
      all_goals (repeat' (first
      | (refine tri_condT (b_true (by simp; with_reducible exact IsB.mk)) ?_)
      | (refine tri_condF (b_true (by simp; with_reducible exact IsB.mk)) ?_)
      | (refine tri_skipT ?_)
      | (refine tri_skip ?_)
      | (refine then_to ?_)
      | (refine th_n ?_)
      | (refine in_n ?_)
      | (refine in_e ?_)
      | (refine in_x rfl ?_)
      | (refine th_e ?_)
      | (refine th_r ?_)
      | (refine in_r ?_)
      | (refine tri_ret ?_)
      | (refine tri_exit ?_)
      | (refine tri_block ?_)
      | (refine tri_step (id := 0) (C := ⟨[], [], []⟩) [0] [] g47 nodraw ?_; refine ⟨_, by (simp [*, F75, flg]; exact Is.mk), ?_⟩)
      | (refine tri_last (id := 0) (C := ⟨[], [], []⟩) [0] [] g47 nodraw ?_; refine ⟨_, by (simp [*, F75, flg]; exact Is.mk), ?_⟩)
      | (refine tri_step (id := 1) (C := ⟨[], [], []⟩) [0, 3, 4] [] g47 nodraw ?_; refine ⟨_, by (simp [*, F75, flg]; exact Is.mk), ?_⟩)
      | (refine tri_last (id := 1) (C := ⟨[], [], []⟩) [0, 3, 4] [] g47 nodraw ?_; refine ⟨_, by (simp [*, F75, flg]; exact Is.mk), ?_⟩)
      | (refine tri_step (id := 2) (C := ⟨[], [], []⟩) [3, 4, 9, 10, 11] [] g47 nodraw ?_; refine ⟨_, by (simp [*, F75, flg]; exact Is.mk), ?_⟩)
      | (refine tri_last (id := 2) (C := ⟨[], [], []⟩) [3, 4, 9, 10, 11] [] g47 nodraw ?_; refine ⟨_, by (simp [*, F75, flg]; exact Is.mk), ?_⟩)
      | (refine tri_step (id := 3) (C := ⟨[], [], []⟩) [3, 4, 9, 10, 11, 12] [] g47 nodraw ?_; refine ⟨_, by (simp [*, F75, flg]; exact Is.mk), ?_⟩)
      | (refine tri_last (id := 3) (C := ⟨[], [], []⟩) [3, 4, 9, 10, 11, 12] [] g47 nodraw ?_; refine ⟨_, by (simp [*, F75, flg]; exact Is.mk), ?_⟩)
      | (refine tri_step (id := 4) (C := ⟨[], [], []⟩) [3, 4, 6, 9, 10, 11] [] g47 nodraw ?_; refine ⟨_, by (simp [*, F75, flg]; exact Is.mk), ?_⟩)
      | (refine tri_last (id := 4) (C := ⟨[], [], []⟩) [3, 4, 6, 9, 10, 11] [] g47 nodraw ?_; refine ⟨_, by (simp [*, F75, flg]; exact Is.mk), ?_⟩)
      | (refine tri_step (id := 5) (C := ⟨[], [], []⟩) [3, 4, 9, 10, 11, 15, 16, 17] [] g47 nodraw ?_; refine ⟨_, by (simp [*, F75, flg]; exact Is.mk), ?_⟩)
      | (refine tri_last (id := 5) (C := ⟨[], [], []⟩) [3, 4, 9, 10, 11, 15, 16, 17] [] g47 nodraw ?_; refine ⟨_, by (simp [*, F75, flg]; exact Is.mk), ?_⟩)
      | (refine tri_step (id := 6) (C := ⟨[], [], []⟩) [3, 4, 9, 10, 11, 15, 16, 17, 18] [] g47 nodraw ?_; refine ⟨_, by (simp [*, F75, flg]; exact Is.mk), ?_⟩)
      | (refine tri_last (id := 6) (C := ⟨[], [], []⟩) [3, 4, 9, 10, 11, 15, 16, 17, 18] [] g47 nodraw ?_; refine ⟨_, by (simp [*, F75, flg]; exact Is.mk), ?_⟩)
      | (refine tri_step (id := 7) (C := ⟨[], [], []⟩) [3, 4, 8, 9, 10, 11, 15, 16, 17] [] g47 nodraw ?_; refine ⟨_, by (simp [*, F75, flg]; exact Is.mk), ?_⟩)
      | (refine tri_last (id := 7) (C := ⟨[], [], []⟩) [3, 4, 8, 9, 10, 11, 15, 16, 17] [] g47 nodraw ?_; refine ⟨_, by (simp [*, F75, flg]; exact Is.mk), ?_⟩)
      | (refine tri_step (id := 8) (C := ⟨[], [], []⟩) [3, 4, 8, 9, 10, 11, 15, 16, 17, 21] [] g47 nodraw ?_; refine ⟨_, by (simp [*, F75, flg]; exact Is.mk), ?_⟩)
      | (refine tri_last (id := 8) (C := ⟨[], [], []⟩) [3, 4, 8, 9, 10, 11, 15, 16, 17, 21] [] g47 nodraw ?_; refine ⟨_, by (simp [*, F75, flg]; exact Is.mk), ?_⟩)
      | (refine tri_step (id := 9) (C := ⟨[], [], []⟩) [3, 4, 9, 10, 11, 15, 16, 17] [] g47 nodraw ?_; refine ⟨_, by (simp [*, F75, flg]; exact Is.mk), ?_⟩)
      | (refine tri_last (id := 9) (C := ⟨[], [], []⟩) [3, 4, 9, 10, 11, 15, 16, 17] [] g47 nodraw ?_; refine ⟨_, by (simp [*, F75, flg]; exact Is.mk), ?_⟩)
      | (refine tri_step (id := 10) (C := ⟨[], [], []⟩) [3, 4, 9, 10, 11, 15, 16, 17] [] g47 nodraw ?_; refine ⟨_, by (simp [*, F75, flg]; exact Is.mk), ?_⟩)
      | (refine tri_last (id := 10) (C := ⟨[], [], []⟩) [3, 4, 9, 10, 11, 15, 16, 17] [] g47 nodraw ?_; refine ⟨_, by (simp [*, F75, flg]; exact Is.mk), ?_⟩)
      | (refine tri_step (id := 11) (C := ⟨[], [], []⟩) [3, 4, 9, 10, 11, 15, 16, 17] [] g47 nodraw ?_; refine ⟨_, by (simp [*, F75, flg]; exact Is.mk), ?_⟩)
      | (refine tri_last (id := 11) (C := ⟨[], [], []⟩) [3, 4, 9, 10, 11, 15, 16, 17] [] g47 nodraw ?_; refine ⟨_, by (simp [*, F75, flg]; exact Is.mk), ?_⟩)
      | (refine tri_step (id := 12) (C := ⟨[], [], []⟩) [3, 4, 9, 10, 11, 15, 16, 17] [] g47 nodraw ?_; refine ⟨_, by (simp [*, F75, flg]; exact Is.mk), ?_⟩)
      | (refine tri_last (id := 12) (C := ⟨[], [], []⟩) [3, 4, 9, 10, 11, 15, 16, 17] [] g47 nodraw ?_; refine ⟨_, by (simp [*, F75, flg]; exact Is.mk), ?_⟩)
      | (refine tri_step (id := 13) (C := ⟨[], [], []⟩) [3, 4, 9, 10, 11] [] g47 nodraw ?_; refine ⟨_, by (simp [*, F75, flg]; exact Is.mk), ?_⟩)
      | (refine tri_last (id := 13) (C := ⟨[], [], []⟩) [3, 4, 9, 10, 11] [] g47 nodraw ?_; refine ⟨_, by (simp [*, F75, flg]; exact Is.mk), ?_⟩)
      | (refine tri_step (id := 14) (C := ⟨[], [], []⟩) [2] [] g47 nodraw ?_; refine ⟨_, by (simp [*, F75, flg]; exact Is.mk), ?_⟩)
      | (refine tri_last (id := 14) (C := ⟨[], [], []⟩) [2] [] g47 nodraw ?_; refine ⟨_, by (simp [*, F75, flg]; exact Is.mk), ?_⟩)
      | (refine tri_cond (c := .tmp 12) (b_true (by simp; exact IsB.mk)) (fun hc => ?_) (fun hc => ?_))
      | (refine tri_cond (c := .tmp 18) (b_true (by simp; exact IsB.mk)) (fun hc => ?_) (fun hc => ?_))
      | (refine tri_cond (c := .tmp 21) (b_true (by simp; exact IsB.mk)) (fun hc => ?_) (fun hc => ?_))
      | (refine to_mk (by simp; exact IsK.mk))
      | (refine imp_ ?_)
      | ((simp; exact IsK.mk))
      | (refine tri_seq ?_)
      ))
      exact ⟨0, _, by omega, Le.refl _, 1, by omega, rfl, rfl⟩
    | cons c r =>
      obtain ⟨f1, f2, f3, f4, f5, f6, f7, f8, f9, f9b, f10, f11⟩ := fold_round hb hu hn
      have hb2 := hb.step
      clear hb
      cases hh : hiF true d with
      | true =>
        have f6 := f6 hh
        all_goals (repeat' (first
      | (refine tri_condT (b_true (by simp; with_reducible exact IsB.mk)) ?_)
      | (refine tri_condF (b_true (by simp; with_reducible exact IsB.mk)) ?_)
      | (refine tri_skipT ?_)
      | (refine tri_skip ?_)
      | (refine then_to ?_)
      | (refine th_n ?_)
      | (refine in_n ?_)
      | (refine in_e ?_)
      | (refine in_x rfl ?_)
      | (refine th_e ?_)
      | (refine th_r ?_)
      | (refine in_r ?_)
      | (refine tri_ret ?_)
      | (refine tri_exit ?_)
      | (refine tri_block ?_)
      | (refine tri_step (id := 0) (C := ⟨[], [], []⟩) [0] [] g47 nodraw ?_; refine ⟨_, by (simp [*, F75, flg]; exact Is.mk), ?_⟩)
      | (refine tri_last (id := 0) (C := ⟨[], [], []⟩) [0] [] g47 nodraw ?_; refine ⟨_, by (simp [*, F75, flg]; exact Is.mk), ?_⟩)
      | (refine tri_step (id := 1) (C := ⟨[], [], []⟩) [0, 3, 4] [] g47 nodraw ?_; refine ⟨_, by (simp [*, F75, flg]; exact Is.mk), ?_⟩)
      | (refine tri_last (id := 1) (C := ⟨[], [], []⟩) [0, 3, 4] [] g47 nodraw ?_; refine ⟨_, by (simp [*, F75, flg]; exact Is.mk), ?_⟩)
      | (refine tri_step (id := 2) (C := ⟨[], [], []⟩) [3, 4, 9, 10, 11] [] g47 nodraw ?_; refine ⟨_, by (simp [*, F75, flg]; exact Is.mk), ?_⟩)
      | (refine tri_last (id := 2) (C := ⟨[], [], []⟩) [3, 4, 9, 10, 11] [] g47 nodraw ?_; refine ⟨_, by (simp [*, F75, flg]; exact Is.mk), ?_⟩)
      | (refine tri_step (id := 3) (C := ⟨[], [], []⟩) [3, 4, 9, 10, 11, 12] [] g47 nodraw ?_; refine ⟨_, by (simp [*, F75, flg]; exact Is.mk), ?_⟩)
      | (refine tri_last (id := 3) (C := ⟨[], [], []⟩) [3, 4, 9, 10, 11, 12] [] g47 nodraw ?_; refine ⟨_, by (simp [*, F75, flg]; exact Is.mk), ?_⟩)
      | (refine tri_step (id := 4) (C := ⟨[], [], []⟩) [3, 4, 6, 9, 10, 11] [] g47 nodraw ?_; refine ⟨_, by (simp [*, F75, flg]; exact Is.mk), ?_⟩)
      | (refine tri_last (id := 4) (C := ⟨[], [], []⟩) [3, 4, 6, 9, 10, 11] [] g47 nodraw ?_; refine ⟨_, by (simp [*, F75, flg]; exact Is.mk), ?_⟩)
      | (refine tri_step (id := 5) (C := ⟨[], [], []⟩) [3, 4, 9, 10, 11, 15, 16, 17] [] g47 nodraw ?_; refine ⟨_, by (simp [*, F75, flg]; exact Is.mk), ?_⟩)
      | (refine tri_last (id := 5) (C := ⟨[], [], []⟩) [3, 4, 9, 10, 11, 15, 16, 17] [] g47 nodraw ?_; refine ⟨_, by (simp [*, F75, flg]; exact Is.mk), ?_⟩)
      | (refine tri_step (id := 6) (C := ⟨[], [], []⟩) [3, 4, 9, 10, 11, 15, 16, 17, 18] [] g47 nodraw ?_; refine ⟨_, by (simp [*, F75, flg]; exact Is.mk), ?_⟩)
      | (refine tri_last (id := 6) (C := ⟨[], [], []⟩) [3, 4, 9, 10, 11, 15, 16, 17, 18] [] g47 nodraw ?_; refine ⟨_, by (simp [*, F75, flg]; exact Is.mk), ?_⟩)
      | (refine tri_step (id := 7) (C := ⟨[], [], []⟩) [3, 4, 8, 9, 10, 11, 15, 16, 17] [] g47 nodraw ?_; refine ⟨_, by (simp [*, F75, flg]; exact Is.mk), ?_⟩)
      | (refine tri_last (id := 7) (C := ⟨[], [], []⟩) [3, 4, 8, 9, 10, 11, 15, 16, 17] [] g47 nodraw ?_; refine ⟨_, by (simp [*, F75, flg]; exact Is.mk), ?_⟩)
      | (refine tri_step (id := 8) (C := ⟨[], [], []⟩) [3, 4, 8, 9, 10, 11, 15, 16, 17, 21] [] g47 nodraw ?_; refine ⟨_, by (simp [*, F75, flg]; exact Is.mk), ?_⟩)
      | (refine tri_last (id := 8) (C := ⟨[], [], []⟩) [3, 4, 8, 9, 10, 11, 15, 16, 17, 21] [] g47 nodraw ?_; refine ⟨_, by (simp [*, F75, flg]; exact Is.mk), ?_⟩)
      | (refine tri_step (id := 9) (C := ⟨[], [], []⟩) [3, 4, 9, 10, 11, 15, 16, 17] [] g47 nodraw ?_; refine ⟨_, by (simp [*, F75, flg]; exact Is.mk), ?_⟩)
      | (refine tri_last (id := 9) (C := ⟨[], [], []⟩) [3, 4, 9, 10, 11, 15, 16, 17] [] g47 nodraw ?_; refine ⟨_, by (simp [*, F75, flg]; exact Is.mk), ?_⟩)
      | (refine tri_step (id := 10) (C := ⟨[], [], []⟩) [3, 4, 9, 10, 11, 15, 16, 17] [] g47 nodraw ?_; refine ⟨_, by (simp [*, F75, flg]; exact Is.mk), ?_⟩)
      | (refine tri_last (id := 10) (C := ⟨[], [], []⟩) [3, 4, 9, 10, 11, 15, 16, 17] [] g47 nodraw ?_; refine ⟨_, by (simp [*, F75, flg]; exact Is.mk), ?_⟩)
      | (refine tri_step (id := 11) (C := ⟨[], [], []⟩) [3, 4, 9, 10, 11, 15, 16, 17] [] g47 nodraw ?_; refine ⟨_, by (simp [*, F75, flg]; exact Is.mk), ?_⟩)
      | (refine tri_last (id := 11) (C := ⟨[], [], []⟩) [3, 4, 9, 10, 11, 15, 16, 17] [] g47 nodraw ?_; refine ⟨_, by (simp [*, F75, flg]; exact Is.mk), ?_⟩)
      | (refine tri_step (id := 12) (C := ⟨[], [], []⟩) [3, 4, 9, 10, 11, 15, 16, 17] [] g47 nodraw ?_; refine ⟨_, by (simp [*, F75, flg]; exact Is.mk), ?_⟩)
      | (refine tri_last (id := 12) (C := ⟨[], [], []⟩) [3, 4, 9, 10, 11, 15, 16, 17] [] g47 nodraw ?_; refine ⟨_, by (simp [*, F75, flg]; exact Is.mk), ?_⟩)
      | (refine tri_step (id := 13) (C := ⟨[], [], []⟩) [3, 4, 9, 10, 11] [] g47 nodraw ?_; refine ⟨_, by (simp [*, F75, flg]; exact Is.mk), ?_⟩)
      | (refine tri_last (id := 13) (C := ⟨[], [], []⟩) [3, 4, 9, 10, 11] [] g47 nodraw ?_; refine ⟨_, by (simp [*, F75, flg]; exact Is.mk), ?_⟩)
      | (refine tri_step (id := 14) (C := ⟨[], [], []⟩) [2] [] g47 nodraw ?_; refine ⟨_, by (simp [*, F75, flg]; exact Is.mk), ?_⟩)
      | (refine tri_last (id := 14) (C := ⟨[], [], []⟩) [2] [] g47 nodraw ?_; refine ⟨_, by (simp [*, F75, flg]; exact Is.mk), ?_⟩)
      | (refine tri_cond (c := .tmp 12) (b_true (by simp; exact IsB.mk)) (fun hc => ?_) (fun hc => ?_))
      | (refine tri_cond (c := .tmp 18) (b_true (by simp; exact IsB.mk)) (fun hc => ?_) (fun hc => ?_))
      | (refine tri_cond (c := .tmp 21) (b_true (by simp; exact IsB.mk)) (fun hc => ?_) (fun hc => ?_))
      | (refine to_mk (by simp; exact IsK.mk))
      | (refine imp_ ?_)
      | ((simp; exact IsK.mk))
      | (refine tri_seq ?_)
      ))
        exact ⟨r.length, _, by rw [hn3]; exact Nat.lt_succ_self _, Le.refl _, d ++ [c], r, hb2, rfl, by rw [← f8, hh]; simp⟩
      | false =>
        have f7 := f7 hh
        all_goals (repeat' (first
      | (refine tri_condT (b_true (by simp; with_reducible exact IsB.mk)) ?_)
      | (refine tri_condF (b_true (by simp; with_reducible exact IsB.mk)) ?_)
      | (refine tri_skipT ?_)
      | (refine tri_skip ?_)
      | (refine then_to ?_)
      | (refine th_n ?_)
      | (refine in_n ?_)
      | (refine in_e ?_)
      | (refine in_x rfl ?_)
      | (refine th_e ?_)
      | (refine th_r ?_)
      | (refine in_r ?_)
      | (refine tri_ret ?_)
      | (refine tri_exit ?_)
      | (refine tri_block ?_)
      | (refine tri_step (id := 0) (C := ⟨[], [], []⟩) [0] [] g47 nodraw ?_; refine ⟨_, by (simp [*, F75, flg]; exact Is.mk), ?_⟩)
      | (refine tri_last (id := 0) (C := ⟨[], [], []⟩) [0] [] g47 nodraw ?_; refine ⟨_, by (simp [*, F75, flg]; exact Is.mk), ?_⟩)
      | (refine tri_step (id := 1) (C := ⟨[], [], []⟩) [0, 3, 4] [] g47 nodraw ?_; refine ⟨_, by (simp [*, F75, flg]; exact Is.mk), ?_⟩)
      | (refine tri_last (id := 1) (C := ⟨[], [], []⟩) [0, 3, 4] [] g47 nodraw ?_; refine ⟨_, by (simp [*, F75, flg]; exact Is.mk), ?_⟩)
      | (refine tri_step (id := 2) (C := ⟨[], [], []⟩) [3, 4, 9, 10, 11] [] g47 nodraw ?_; refine ⟨_, by (simp [*, F75, flg]; exact Is.mk), ?_⟩)
      | (refine tri_last (id := 2) (C := ⟨[], [], []⟩) [3, 4, 9, 10, 11] [] g47 nodraw ?_; refine ⟨_, by (simp [*, F75, flg]; exact Is.mk), ?_⟩)
      | (refine tri_step (id := 3) (C := ⟨[], [], []⟩) [3, 4, 9, 10, 11, 12] [] g47 nodraw ?_; refine ⟨_, by (simp [*, F75, flg]; exact Is.mk), ?_⟩)
      | (refine tri_last (id := 3) (C := ⟨[], [], []⟩) [3, 4, 9, 10, 11, 12] [] g47 nodraw ?_; refine ⟨_, by (simp [*, F75, flg]; exact Is.mk), ?_⟩)
      | (refine tri_step (id := 4) (C := ⟨[], [], []⟩) [3, 4, 6, 9, 10, 11] [] g47 nodraw ?_; refine ⟨_, by (simp [*, F75, flg]; exact Is.mk), ?_⟩)
      | (refine tri_last (id := 4) (C := ⟨[], [], []⟩) [3, 4, 6, 9, 10, 11] [] g47 nodraw ?_; refine ⟨_, by (simp [*, F75, flg]; exact Is.mk), ?_⟩)
      | (refine tri_step (id := 5) (C := ⟨[], [], []⟩) [3, 4, 9, 10, 11, 15, 16, 17] [] g47 nodraw ?_; refine ⟨_, by (simp [*, F75, flg]; exact Is.mk), ?_⟩)
      | (refine tri_last (id := 5) (C := ⟨[], [], []⟩) [3, 4, 9, 10, 11, 15, 16, 17] [] g47 nodraw ?_; refine ⟨_, by (simp [*, F75, flg]; exact Is.mk), ?_⟩)
      | (refine tri_step (id := 6) (C := ⟨[], [], []⟩) [3, 4, 9, 10, 11, 15, 16, 17, 18] [] g47 nodraw ?_; refine ⟨_, by (simp [*, F75, flg]; exact Is.mk), ?_⟩)
      | (refine tri_last (id := 6) (C := ⟨[], [], []⟩) [3, 4, 9, 10, 11, 15, 16, 17, 18] [] g47 nodraw ?_; refine ⟨_, by (simp [*, F75, flg]; exact Is.mk), ?_⟩)
      | (refine tri_step (id := 7) (C := ⟨[], [], []⟩) [3, 4, 8, 9, 10, 11, 15, 16, 17] [] g47 nodraw ?_; refine ⟨_, by (simp [*, F75, flg]; exact Is.mk), ?_⟩)
      | (refine tri_last (id := 7) (C := ⟨[], [], []⟩) [3, 4, 8, 9, 10, 11, 15, 16, 17] [] g47 nodraw ?_; refine ⟨_, by (simp [*, F75, flg]; exact Is.mk), ?_⟩)
      | (refine tri_step (id := 8) (C := ⟨[], [], []⟩) [3, 4, 8, 9, 10, 11, 15, 16, 17, 21] [] g47 nodraw ?_; refine ⟨_, by (simp [*, F75, flg]; exact Is.mk), ?_⟩)
      | (refine tri_last (id := 8) (C := ⟨[], [], []⟩) [3, 4, 8, 9, 10, 11, 15, 16, 17, 21] [] g47 nodraw ?_; refine ⟨_, by (simp [*, F75, flg]; exact Is.mk), ?_⟩)
      | (refine tri_step (id := 9) (C := ⟨[], [], []⟩) [3, 4, 9, 10, 11, 15, 16, 17] [] g47 nodraw ?_; refine ⟨_, by (simp [*, F75, flg]; exact Is.mk), ?_⟩)
      | (refine tri_last (id := 9) (C := ⟨[], [], []⟩) [3, 4, 9, 10, 11, 15, 16, 17] [] g47 nodraw ?_; refine ⟨_, by (simp [*, F75, flg]; exact Is.mk), ?_⟩)
      | (refine tri_step (id := 10) (C := ⟨[], [], []⟩) [3, 4, 9, 10, 11, 15, 16, 17] [] g47 nodraw ?_; refine ⟨_, by (simp [*, F75, flg]; exact Is.mk), ?_⟩)
      | (refine tri_last (id := 10) (C := ⟨[], [], []⟩) [3, 4, 9, 10, 11, 15, 16, 17] [] g47 nodraw ?_; refine ⟨_, by (simp [*, F75, flg]; exact Is.mk), ?_⟩)
      | (refine tri_step (id := 11) (C := ⟨[], [], []⟩) [3, 4, 9, 10, 11, 15, 16, 17] [] g47 nodraw ?_; refine ⟨_, by (simp [*, F75, flg]; exact Is.mk), ?_⟩)
      | (refine tri_last (id := 11) (C := ⟨[], [], []⟩) [3, 4, 9, 10, 11, 15, 16, 17] [] g47 nodraw ?_; refine ⟨_, by (simp [*, F75, flg]; exact Is.mk), ?_⟩)
      | (refine tri_step (id := 12) (C := ⟨[], [], []⟩) [3, 4, 9, 10, 11, 15, 16, 17] [] g47 nodraw ?_; refine ⟨_, by (simp [*, F75, flg]; exact Is.mk), ?_⟩)
      | (refine tri_last (id := 12) (C := ⟨[], [], []⟩) [3, 4, 9, 10, 11, 15, 16, 17] [] g47 nodraw ?_; refine ⟨_, by (simp [*, F75, flg]; exact Is.mk), ?_⟩)
      | (refine tri_step (id := 13) (C := ⟨[], [], []⟩) [3, 4, 9, 10, 11] [] g47 nodraw ?_; refine ⟨_, by (simp [*, F75, flg]; exact Is.mk), ?_⟩)
      | (refine tri_last (id := 13) (C := ⟨[], [], []⟩) [3, 4, 9, 10, 11] [] g47 nodraw ?_; refine ⟨_, by (simp [*, F75, flg]; exact Is.mk), ?_⟩)
      | (refine tri_step (id := 14) (C := ⟨[], [], []⟩) [2] [] g47 nodraw ?_; refine ⟨_, by (simp [*, F75, flg]; exact Is.mk), ?_⟩)
      | (refine tri_last (id := 14) (C := ⟨[], [], []⟩) [2] [] g47 nodraw ?_; refine ⟨_, by (simp [*, F75, flg]; exact Is.mk), ?_⟩)
      | (refine tri_cond (c := .tmp 12) (b_true (by simp; exact IsB.mk)) (fun hc => ?_) (fun hc => ?_))
      | (refine tri_cond (c := .tmp 18) (b_true (by simp; exact IsB.mk)) (fun hc => ?_) (fun hc => ?_))
      | (refine tri_cond (c := .tmp 21) (b_true (by simp; exact IsB.mk)) (fun hc => ?_) (fun hc => ?_))
      | (refine to_mk (by simp; exact IsK.mk))
      | (refine imp_ ?_)
      | ((simp; exact IsK.mk))
      | (refine tri_seq ?_)
      ))
        exact ⟨r.length, _, by rw [hn3]; exact Nat.lt_succ_self _, Le.refl _, d ++ [c], r, hb2, rfl, by rw [← f8, hh]; simp⟩
  · all_goals (repeat' (first
      | (refine tri_condT (b_true (by simp; with_reducible exact IsB.mk)) ?_)
      | (refine tri_condF (b_true (by simp; with_reducible exact IsB.mk)) ?_)
      | (refine tri_skipT ?_)
      | (refine tri_skip ?_)
      | (refine then_to ?_)
      | (refine th_n ?_)
      | (refine in_n ?_)
      | (refine in_e ?_)
      | (refine in_x rfl ?_)
      | (refine th_e ?_)
      | (refine th_r ?_)
      | (refine in_r ?_)
      | (refine tri_ret ?_)
      | (refine tri_exit ?_)
      | (refine tri_block ?_)
      | (refine tri_step (id := 0) (C := ⟨[], [], []⟩) [0] [] g47 nodraw ?_; refine ⟨_, by (simp [*, F75, flg]; exact Is.mk), ?_⟩)
      | (refine tri_last (id := 0) (C := ⟨[], [], []⟩) [0] [] g47 nodraw ?_; refine ⟨_, by (simp [*, F75, flg]; exact Is.mk), ?_⟩)
      | (refine tri_step (id := 1) (C := ⟨[], [], []⟩) [0, 3, 4] [] g47 nodraw ?_; refine ⟨_, by (simp [*, F75, flg]; exact Is.mk), ?_⟩)
      | (refine tri_last (id := 1) (C := ⟨[], [], []⟩) [0, 3, 4] [] g47 nodraw ?_; refine ⟨_, by (simp [*, F75, flg]; exact Is.mk), ?_⟩)
      | (refine tri_step (id := 2) (C := ⟨[], [], []⟩) [3, 4, 9, 10, 11] [] g47 nodraw ?_; refine ⟨_, by (simp [*, F75, flg]; exact Is.mk), ?_⟩)
      | (refine tri_last (id := 2) (C := ⟨[], [], []⟩) [3, 4, 9, 10, 11] [] g47 nodraw ?_; refine ⟨_, by (simp [*, F75, flg]; exact Is.mk), ?_⟩)
      | (refine tri_step (id := 3) (C := ⟨[], [], []⟩) [3, 4, 9, 10, 11, 12] [] g47 nodraw ?_; refine ⟨_, by (simp [*, F75, flg]; exact Is.mk), ?_⟩)
      | (refine tri_last (id := 3) (C := ⟨[], [], []⟩) [3, 4, 9, 10, 11, 12] [] g47 nodraw ?_; refine ⟨_, by (simp [*, F75, flg]; exact Is.mk), ?_⟩)
      | (refine tri_step (id := 4) (C := ⟨[], [], []⟩) [3, 4, 6, 9, 10, 11] [] g47 nodraw ?_; refine ⟨_, by (simp [*, F75, flg]; exact Is.mk), ?_⟩)
      | (refine tri_last (id := 4) (C := ⟨[], [], []⟩) [3, 4, 6, 9, 10, 11] [] g47 nodraw ?_; refine ⟨_, by (simp [*, F75, flg]; exact Is.mk), ?_⟩)
      | (refine tri_step (id := 5) (C := ⟨[], [], []⟩) [3, 4, 9, 10, 11, 15, 16, 17] [] g47 nodraw ?_; refine ⟨_, by (simp [*, F75, flg]; exact Is.mk), ?_⟩)
      | (refine tri_last (id := 5) (C := ⟨[], [], []⟩) [3, 4, 9, 10, 11, 15, 16, 17] [] g47 nodraw ?_; refine ⟨_, by (simp [*, F75, flg]; exact Is.mk), ?_⟩)
      | (refine tri_step (id := 6) (C := ⟨[], [], []⟩) [3, 4, 9, 10, 11, 15, 16, 17, 18] [] g47 nodraw ?_; refine ⟨_, by (simp [*, F75, flg]; exact Is.mk), ?_⟩)
      | (refine tri_last (id := 6) (C := ⟨[], [], []⟩) [3, 4, 9, 10, 11, 15, 16, 17, 18] [] g47 nodraw ?_; refine ⟨_, by (simp [*, F75, flg]; exact Is.mk), ?_⟩)
      | (refine tri_step (id := 7) (C := ⟨[], [], []⟩) [3, 4, 8, 9, 10, 11, 15, 16, 17] [] g47 nodraw ?_; refine ⟨_, by (simp [*, F75, flg]; exact Is.mk), ?_⟩)
      | (refine tri_last (id := 7) (C := ⟨[], [], []⟩) [3, 4, 8, 9, 10, 11, 15, 16, 17] [] g47 nodraw ?_; refine ⟨_, by (simp [*, F75, flg]; exact Is.mk), ?_⟩)
      | (refine tri_step (id := 8) (C := ⟨[], [], []⟩) [3, 4, 8, 9, 10, 11, 15, 16, 17, 21] [] g47 nodraw ?_; refine ⟨_, by (simp [*, F75, flg]; exact Is.mk), ?_⟩)
      | (refine tri_last (id := 8) (C := ⟨[], [], []⟩) [3, 4, 8, 9, 10, 11, 15, 16, 17, 21] [] g47 nodraw ?_; refine ⟨_, by (simp [*, F75, flg]; exact Is.mk), ?_⟩)
      | (refine tri_step (id := 9) (C := ⟨[], [], []⟩) [3, 4, 9, 10, 11, 15, 16, 17] [] g47 nodraw ?_; refine ⟨_, by (simp [*, F75, flg]; exact Is.mk), ?_⟩)
      | (refine tri_last (id := 9) (C := ⟨[], [], []⟩) [3, 4, 9, 10, 11, 15, 16, 17] [] g47 nodraw ?_; refine ⟨_, by (simp [*, F75, flg]; exact Is.mk), ?_⟩)
      | (refine tri_step (id := 10) (C := ⟨[], [], []⟩) [3, 4, 9, 10, 11, 15, 16, 17] [] g47 nodraw ?_; refine ⟨_, by (simp [*, F75, flg]; exact Is.mk), ?_⟩)
      | (refine tri_last (id := 10) (C := ⟨[], [], []⟩) [3, 4, 9, 10, 11, 15, 16, 17] [] g47 nodraw ?_; refine ⟨_, by (simp [*, F75, flg]; exact Is.mk), ?_⟩)
      | (refine tri_step (id := 11) (C := ⟨[], [], []⟩) [3, 4, 9, 10, 11, 15, 16, 17] [] g47 nodraw ?_; refine ⟨_, by (simp [*, F75, flg]; exact Is.mk), ?_⟩)
      | (refine tri_last (id := 11) (C := ⟨[], [], []⟩) [3, 4, 9, 10, 11, 15, 16, 17] [] g47 nodraw ?_; refine ⟨_, by (simp [*, F75, flg]; exact Is.mk), ?_⟩)
      | (refine tri_step (id := 12) (C := ⟨[], [], []⟩) [3, 4, 9, 10, 11, 15, 16, 17] [] g47 nodraw ?_; refine ⟨_, by (simp [*, F75, flg]; exact Is.mk), ?_⟩)
      | (refine tri_last (id := 12) (C := ⟨[], [], []⟩) [3, 4, 9, 10, 11, 15, 16, 17] [] g47 nodraw ?_; refine ⟨_, by (simp [*, F75, flg]; exact Is.mk), ?_⟩)
      | (refine tri_step (id := 13) (C := ⟨[], [], []⟩) [3, 4, 9, 10, 11] [] g47 nodraw ?_; refine ⟨_, by (simp [*, F75, flg]; exact Is.mk), ?_⟩)
      | (refine tri_last (id := 13) (C := ⟨[], [], []⟩) [3, 4, 9, 10, 11] [] g47 nodraw ?_; refine ⟨_, by (simp [*, F75, flg]; exact Is.mk), ?_⟩)
      | (refine tri_step (id := 14) (C := ⟨[], [], []⟩) [2] [] g47 nodraw ?_; refine ⟨_, by (simp [*, F75, flg]; exact Is.mk), ?_⟩)
      | (refine tri_last (id := 14) (C := ⟨[], [], []⟩) [2] [] g47 nodraw ?_; refine ⟨_, by (simp [*, F75, flg]; exact Is.mk), ?_⟩)
      | (refine tri_cond (c := .tmp 12) (b_true (by simp; exact IsB.mk)) (fun hc => ?_) (fun hc => ?_))
      | (refine tri_cond (c := .tmp 18) (b_true (by simp; exact IsB.mk)) (fun hc => ?_) (fun hc => ?_))
      | (refine tri_cond (c := .tmp 21) (b_true (by simp; exact IsB.mk)) (fun hc => ?_) (fun hc => ?_))
      | (refine to_mk (by simp; exact IsK.mk))
      | (refine imp_ ?_)
      | ((simp; exact IsK.mk))
      | (refine tri_seq ?_)
      ))
    all_goals (refine post_plainV (P := Tryz.prog) (fn := Tryz.f47) (by simp; exact IsV.mk) rfl ?_)
    all_goals (simp; done)
open Classical in
noncomputable def F47 : Fn1
  | [x0] => (dPart x0).bind fun b => if u8L b ∧ b.length ≤ 100000 then some ((.v (.int .u16 (sumF b))), none) else none
  | _ => none
theorem spec47 : Spec1 Tryz.prog 47 F47 := spec_of fun ys r o h => by
  unfold F47 at h
  split at h
  case h_2 => cases h
  obtain ⟨b, k0, h1⟩ := bind_some h
  obtain ⟨hpre, hz⟩ := ite_some h1
  cases hz
  exact ⟨_, at47 b hpre, rfl, le_plain ⟨dPart_co k0, trivial⟩ (by simp only [List.all_cons, List.all_nil, Bool.not_false, Bool.and_self, notRefB (dPart_co k0) rfl (by simp)]) rfl⟩
theorem en47 : Enters Tryz.prog 47 := enters_of Tryz.func47 (by kernel_rfl) rfl

end Go.Proofs.YtljlhooodbfpiaaGreatDoor

-- Printed by genwalk.py.
namespace Go.Proofs.YtljlhooodbfpiaaGreatDoor
open Go Go.RowKit Caw
set_option linter.unusedSimpArgs false
set_option linter.unusedVariables false
set_option maxRecDepth 100000

-- caravel/cksum.Right
theorem g24 : GOk1 Tryz.prog (ctxOf [(47, F47)]) := gok_cons spec47 en47 (gok_nil)
set_option maxHeartbeats 400000 in
theorem at24 (b : List Int) (hpre : u8L b ∧ b.length ≤ 100000) : SpecAt Tryz.prog 24 [.sl 1 [.sl 1 (encB b) none] none] (.v (.bool (sumF b == 65535))) none := by
  obtain ⟨hu, hn⟩ := hpre
  all_goals refine specAt_of_tri Tryz.func24 rfl (Nat.le_of_ble_eq_true rfl) ?_
  all_goals (repeat' (first
    | (refine tri_condT (b_true (by simp; with_reducible exact IsB.mk)) ?_)
    | (refine tri_condF (b_true (by simp; with_reducible exact IsB.mk)) ?_)
    | (refine tri_skipT ?_)
    | (refine tri_skip ?_)
    | (refine then_to ?_)
    | (refine th_n ?_)
    | (refine in_n ?_)
    | (refine in_e ?_)
    | (refine in_x rfl ?_)
    | (refine th_e ?_)
    | (refine th_r ?_)
    | (refine in_r ?_)
    | (refine tri_ret ?_)
    | (refine tri_exit ?_)
    | (refine tri_block ?_)
    | (refine tri_step (id := 0) (C := ⟨[], [], []⟩) [0] [] g24 nodraw ?_; refine ⟨_, by (simp [*, F47, flg]; exact Is.mk), ?_⟩)
    | (refine tri_last (id := 0) (C := ⟨[], [], []⟩) [0] [] g24 nodraw ?_; refine ⟨_, by (simp [*, F47, flg]; exact Is.mk), ?_⟩)
    | (refine tri_step (id := 1) (C := ⟨[], [], []⟩) [2] [] g24 nodraw ?_; refine ⟨_, by (simp [*, F47, flg]; exact Is.mk), ?_⟩)
    | (refine tri_last (id := 1) (C := ⟨[], [], []⟩) [2] [] g24 nodraw ?_; refine ⟨_, by (simp [*, F47, flg]; exact Is.mk), ?_⟩)
    | (refine to_mk (by simp; exact IsK.mk))
    | (refine imp_ ?_)
    | ((simp; exact IsK.mk))
    | (refine tri_seq ?_)
    ))
  all_goals (refine post_plainV (P := Tryz.prog) (fn := Tryz.f24) (by simp; exact IsV.mk) rfl ?_)
  all_goals (first | (simp [F47, flg]; done) | (simp [*, F47, flg]; done) | (simp_all [F47, flg]; done) | (simp [F47, flg] <;> (repeat' split) <;> simp_all; done) | (simp [F47, flg] <;> (repeat' split) <;> simp_all [Bool.and_assoc] <;> grind [List.length_eq_zero_iff, sendCells_co, recvCells_co, pieceCells_co, connCells_co, segCells_co, clockCells_co]))
open Classical in
noncomputable def F24 : Fn1
  | [x0] => (dPart x0).bind fun b => if u8L b ∧ b.length ≤ 100000 then some ((.v (.bool (sumF b == 65535))), none) else none
  | _ => none
theorem spec24 : Spec1 Tryz.prog 24 F24 := spec_of fun ys r o h => by
  unfold F24 at h
  split at h
  case h_2 => cases h
  obtain ⟨b, k0, h1⟩ := bind_some h
  obtain ⟨hpre, hz⟩ := ite_some h1
  cases hz
  exact ⟨_, at24 b hpre, rfl, le_plain ⟨dPart_co k0, trivial⟩ (by simp only [List.all_cons, List.all_nil, Bool.not_false, Bool.and_self, notRefB (dPart_co k0) rfl (by simp)]) rfl⟩
theorem en24 : Enters Tryz.prog 24 := enters_of Tryz.func24 (by kernel_rfl) rfl

-- caravel/cksum.Sum
theorem g30 : GOk1 Tryz.prog (ctxOf [(47, F47)]) := gok_cons spec47 en47 (gok_nil)
set_option maxHeartbeats 400000 in
theorem at30 (b : List Int) (hpre : u8L b ∧ b.length ≤ 100000) : SpecAt Tryz.prog 30 [.sl 1 [.sl 1 (encB b) none] none] (.v (.int .u16 (65535 - sumF b))) none := by
  obtain ⟨hu, hn⟩ := hpre
  have hs := sum_sz hu
  have hx := xor_u16 hs
  all_goals refine specAt_of_tri Tryz.func30 rfl (Nat.le_of_ble_eq_true rfl) ?_
  all_goals (repeat' (first
    | (refine tri_condT (b_true (by simp; with_reducible exact IsB.mk)) ?_)
    | (refine tri_condF (b_true (by simp; with_reducible exact IsB.mk)) ?_)
    | (refine tri_skipT ?_)
    | (refine tri_skip ?_)
    | (refine then_to ?_)
    | (refine th_n ?_)
    | (refine in_n ?_)
    | (refine in_e ?_)
    | (refine in_x rfl ?_)
    | (refine th_e ?_)
    | (refine th_r ?_)
    | (refine in_r ?_)
    | (refine tri_ret ?_)
    | (refine tri_exit ?_)
    | (refine tri_block ?_)
    | (refine tri_step (id := 0) (C := ⟨[], [], []⟩) [0] [] g30 nodraw ?_; refine ⟨_, by (simp [*, F47, flg]; exact Is.mk), ?_⟩)
    | (refine tri_last (id := 0) (C := ⟨[], [], []⟩) [0] [] g30 nodraw ?_; refine ⟨_, by (simp [*, F47, flg]; exact Is.mk), ?_⟩)
    | (refine tri_step (id := 1) (C := ⟨[], [], []⟩) [2] [] g30 nodraw ?_; refine ⟨_, by (simp [*, F47, flg]; exact Is.mk), ?_⟩)
    | (refine tri_last (id := 1) (C := ⟨[], [], []⟩) [2] [] g30 nodraw ?_; refine ⟨_, by (simp [*, F47, flg]; exact Is.mk), ?_⟩)
    | (refine to_mk (by simp; exact IsK.mk))
    | (refine imp_ ?_)
    | ((simp; exact IsK.mk))
    | (refine tri_seq ?_)
    ))
  all_goals (refine post_plainV (P := Tryz.prog) (fn := Tryz.f30) (by simp; exact IsV.mk) rfl ?_)
  all_goals (first | (simp [F47, flg]; done) | (simp [*, F47, flg]; done) | (simp_all [F47, flg]; done) | (simp [F47, flg] <;> (repeat' split) <;> simp_all; done) | (simp [F47, flg] <;> (repeat' split) <;> simp_all [Bool.and_assoc] <;> grind [List.length_eq_zero_iff, sendCells_co, recvCells_co, pieceCells_co, connCells_co, segCells_co, clockCells_co]))
open Classical in
noncomputable def F30 : Fn1
  | [x0] => (dPart x0).bind fun b => if u8L b ∧ b.length ≤ 100000 then some ((.v (.int .u16 (65535 - sumF b))), none) else none
  | _ => none
theorem spec30 : Spec1 Tryz.prog 30 F30 := spec_of fun ys r o h => by
  unfold F30 at h
  split at h
  case h_2 => cases h
  obtain ⟨b, k0, h1⟩ := bind_some h
  obtain ⟨hpre, hz⟩ := ite_some h1
  cases hz
  exact ⟨_, at30 b hpre, rfl, le_plain ⟨dPart_co k0, trivial⟩ (by simp only [List.all_cons, List.all_nil, Bool.not_false, Bool.and_self, notRefB (dPart_co k0) rfl (by simp)]) rfl⟩
theorem en30 : Enters Tryz.prog 30 := enters_of Tryz.func30 (by kernel_rfl) rfl

end Go.Proofs.YtljlhooodbfpiaaGreatDoor

