import Derived.Test.YtljlhooodbfpiaaGreatDoorK14
import Derived.Test.YtljlhooodbfpiaaGreatDoorK15
import Derived.Test.YtljlhooodbfpiaaGreatDoorK12
set_option linter.all false
-- Printed by genwalk.py.
namespace Go.Proofs.YtljlhooodbfpiaaGreatDoor
open Go Go.RowKit Caw
set_option linter.unusedSimpArgs false
set_option linter.unusedVariables false
set_option maxRecDepth 100000

-- caravel/caravelref02.Sum
theorem g33 : GOk1 Tryz.prog (ctxOf [(26, F26)]) := gok_cons spec26 en26 (gok_nil)
set_option maxHeartbeats 400000 in
theorem at33 (s : ByteArray) (hpre : s.size ≤ 100000) : SpecAt Tryz.prog 33 [.v (.string s)] (.v (.int .u16 (65535 - sumF (zb s)))) none := by
  have hs := sum_sz (zb_u8 s)
  have hw := wr_u16 (x := 65535 - sumF (zb s)) (by omega)
  all_goals refine specAt_of_tri Tryz.func33 rfl (Nat.le_of_ble_eq_true rfl) ?_
  all_goals (repeat' (first
    | (refine tri_condT (b_true (by simp; with_reducible exact IsB.mk)) ?_)
    | (refine tri_condF (b_true (by simp; with_reducible exact IsB.mk)) ?_)
    | (refine tri_skipT ?_)
    | (refine tri_skip ?_)
    | (refine then_to ?_)
    | (refine th_n ?_)
    | (refine in_n ?_)
    | (refine in_e ?_)
    | (refine in_x rfl ?_)
    | (refine th_e ?_)
    | (refine th_r ?_)
    | (refine in_r ?_)
    | (refine tri_ret ?_)
    | (refine tri_exit ?_)
    | (refine tri_block ?_)
    | (refine tri_step (id := 0) (C := ⟨[], [], []⟩) [0] [] g33 nodraw ?_; refine ⟨_, by (simp [*, F26, flg]; exact Is.mk), ?_⟩)
    | (refine tri_last (id := 0) (C := ⟨[], [], []⟩) [0] [] g33 nodraw ?_; refine ⟨_, by (simp [*, F26, flg]; exact Is.mk), ?_⟩)
    | (refine tri_step (id := 1) (C := ⟨[], [], []⟩) [2] [] g33 nodraw ?_; refine ⟨_, by (simp [*, F26, flg]; exact Is.mk), ?_⟩)
    | (refine tri_last (id := 1) (C := ⟨[], [], []⟩) [2] [] g33 nodraw ?_; refine ⟨_, by (simp [*, F26, flg]; exact Is.mk), ?_⟩)
    | (refine to_mk (by simp; exact IsK.mk))
    | (refine imp_ ?_)
    | ((simp; exact IsK.mk))
    | (refine tri_seq ?_)
    ))
  all_goals (refine post_plainV (P := Tryz.prog) (fn := Tryz.f33) (by simp; exact IsV.mk) rfl ?_)
  all_goals (first | (simp [F26, flg]; done) | (simp [*, F26, flg]; done) | (simp_all [F26, flg]; done) | (simp [F26, flg] <;> (repeat' split) <;> simp_all; done) | (simp [F26, flg] <;> (repeat' split) <;> simp_all [Bool.and_assoc] <;> grind [List.length_eq_zero_iff, sendCells_co, recvCells_co, pieceCells_co, connCells_co, segCells_co, clockCells_co]))
open Classical in
noncomputable def F33 : Fn1
  | [x0] => (dZ x0).bind fun s => if s.size ≤ 100000 then some ((.v (.int .u16 (65535 - sumF (zb s)))), none) else none
  | _ => none
theorem spec33 : Spec1 Tryz.prog 33 F33 := spec_of fun ys r o h => by
  unfold F33 at h
  split at h
  case h_2 => cases h
  obtain ⟨s, k0, h1⟩ := bind_some h
  obtain ⟨hpre, hz⟩ := ite_some h1
  cases hz
  exact ⟨_, at33 s hpre, rfl, le_plain ⟨dZ_co k0, trivial⟩ (by simp only [List.all_cons, List.all_nil, Bool.not_false, Bool.and_self, notRefB (dZ_co k0) rfl (by simp)]) rfl⟩
theorem en33 : Enters Tryz.prog 33 := enters_of Tryz.func33 (by kernel_rfl) rfl

-- caravel/octets.Get
set_option maxHeartbeats 2000000 in
theorem at25 (b : List Int) (hpre : u8L b ∧ b.length ≤ 8) : SpecAt Tryz.prog 25 [.sl 1 (encB b) none] (.tup [.v (.int .u64 (getF b)), .v (.int .i64 0)]) none := by
  obtain ⟨hu, hn⟩ := hpre
  have hn2 : ¬ (8 : Int) < (b.length : Nat) := by omega
  refine specAt_of_tri Tryz.func25 rfl (Nat.le_of_ble_eq_true rfl) ?_
  all_goals (repeat' (first
      | (refine tri_condT (b_true (by simp; with_reducible exact IsB.mk)) ?_)
      | (refine tri_condF (b_true (by simp; with_reducible exact IsB.mk)) ?_)
      | (refine tri_skipT ?_)
      | (refine tri_skip ?_)
      | (refine then_to ?_)
      | (refine th_n ?_)
      | (refine in_n ?_)
      | (refine in_e ?_)
      | (refine in_x rfl ?_)
      | (refine th_e ?_)
      | (refine th_r ?_)
      | (refine in_r ?_)
      | (refine tri_ret ?_)
      | (refine tri_exit ?_)
      | (refine tri_block ?_)
      | (refine tri_step (id := 0) (C := ⟨[], [], []⟩) [0] [] gok_nil nodraw ?_; refine ⟨_, by (simp [*, flg]; exact Is.mk), ?_⟩)
      | (refine tri_last (id := 0) (C := ⟨[], [], []⟩) [0] [] gok_nil nodraw ?_; refine ⟨_, by (simp [*, flg]; exact Is.mk), ?_⟩)
      | (refine tri_step (id := 1) (C := ⟨[], [], []⟩) [0, 9] [] gok_nil nodraw ?_; refine ⟨_, by (simp [*, flg]; exact Is.mk), ?_⟩)
      | (refine tri_last (id := 1) (C := ⟨[], [], []⟩) [0, 9] [] gok_nil nodraw ?_; refine ⟨_, by (simp [*, flg]; exact Is.mk), ?_⟩)
      | (refine tri_step (id := 2) (C := ⟨[], [], []⟩) [2, 3] [] gok_nil nodraw ?_; refine ⟨_, by (simp [*, flg]; exact Is.mk), ?_⟩)
      | (refine tri_last (id := 2) (C := ⟨[], [], []⟩) [2, 3] [] gok_nil nodraw ?_; refine ⟨_, by (simp [*, flg]; exact Is.mk), ?_⟩)
      | (refine tri_step (id := 3) (C := ⟨[], [], []⟩) [0, 4] [] gok_nil nodraw ?_; refine ⟨_, by (simp [*, flg]; exact Is.mk), ?_⟩)
      | (refine tri_last (id := 3) (C := ⟨[], [], []⟩) [0, 4] [] gok_nil nodraw ?_; refine ⟨_, by (simp [*, flg]; exact Is.mk), ?_⟩)
      | (refine tri_step (id := 4) (C := ⟨[], [], []⟩) [4, 10, 11, 12] [] gok_nil nodraw ?_; refine ⟨_, by (simp [*, flg]; exact Is.mk), ?_⟩)
      | (refine tri_last (id := 4) (C := ⟨[], [], []⟩) [4, 10, 11, 12] [] gok_nil nodraw ?_; refine ⟨_, by (simp [*, flg]; exact Is.mk), ?_⟩)
      | (refine tri_step (id := 5) (C := ⟨[], [], []⟩) [4, 10, 11, 12, 13] [] gok_nil nodraw ?_; refine ⟨_, by (simp [*, flg]; exact Is.mk), ?_⟩)
      | (refine tri_last (id := 5) (C := ⟨[], [], []⟩) [4, 10, 11, 12, 13] [] gok_nil nodraw ?_; refine ⟨_, by (simp [*, flg]; exact Is.mk), ?_⟩)
      | (refine tri_step (id := 6) (C := ⟨[], [], []⟩) [4, 6, 10, 11, 12] [] gok_nil nodraw ?_; refine ⟨_, by (simp [*, flg]; exact Is.mk), ?_⟩)
      | (refine tri_last (id := 6) (C := ⟨[], [], []⟩) [4, 6, 10, 11, 12] [] gok_nil nodraw ?_; refine ⟨_, by (simp [*, flg]; exact Is.mk), ?_⟩)
      | (refine tri_step (id := 7) (C := ⟨[], [], []⟩) [4, 10, 11, 12] [] gok_nil nodraw ?_; refine ⟨_, by (simp [*, flg]; exact Is.mk), ?_⟩)
      | (refine tri_last (id := 7) (C := ⟨[], [], []⟩) [4, 10, 11, 12] [] gok_nil nodraw ?_; refine ⟨_, by (simp [*, flg]; exact Is.mk), ?_⟩)
      | (refine tri_step (id := 8) (C := ⟨[], [], []⟩) [4, 10, 11, 12] [] gok_nil nodraw ?_; refine ⟨_, by (simp [*, flg]; exact Is.mk), ?_⟩)
      | (refine tri_last (id := 8) (C := ⟨[], [], []⟩) [4, 10, 11, 12] [] gok_nil nodraw ?_; refine ⟨_, by (simp [*, flg]; exact Is.mk), ?_⟩)
      | (refine tri_step (id := 9) (C := ⟨[], [], []⟩) [2, 3] [] gok_nil nodraw ?_; refine ⟨_, by (simp [*, flg]; exact Is.mk), ?_⟩)
      | (refine tri_last (id := 9) (C := ⟨[], [], []⟩) [2, 3] [] gok_nil nodraw ?_; refine ⟨_, by (simp [*, flg]; exact Is.mk), ?_⟩)
      | (refine tri_cond (c := .tmp 9) (b_true (by simp; exact IsB.mk)) (fun hc => ?_) (fun hc => ?_))
      | (refine tri_cond (c := .tmp 13) (b_true (by simp; exact IsB.mk)) (fun hc => ?_) (fun hc => ?_))
      | (refine to_mk (by simp; exact IsK.mk))
      | (refine imp_ ?_)
      | ((simp; exact IsK.mk))
      | (refine tri_seq ?_)
      ))
  refine tri_loop (fun n st => ∃ d r, IsCat b d r ∧ n = r.length ∧ st = mkSt [(4, .v (.int .u64 (getF d))), (10, .sl 1 (encB b) none), (11, .v (.int .i64 b.length)), (12, .v (.int .i64 d.length))] []) b.length _ (Le.refl _) ⟨[], b, isCat0 b, rfl, rfl⟩ ?_
  rintro n2 st2 ⟨d, r, hb, hn3, rfl⟩
  cases r with
  | nil =>
    have hd : d = b := hb.fin
    clear hb
    subst hd
    all_goals (repeat' (first
      | (refine tri_condT (b_true (by simp; with_reducible exact IsB.mk)) ?_)
      | (refine tri_condF (b_true (by simp; with_reducible exact IsB.mk)) ?_)
      | (refine tri_skipT ?_)
      | (refine tri_skip ?_)
      | (refine then_to ?_)
      | (refine th_n ?_)
      | (refine in_n ?_)
      | (refine in_e ?_)
      | (refine in_x rfl ?_)
      | (refine th_e ?_)
      | (refine th_r ?_)
      | (refine in_r ?_)
      | (refine tri_ret ?_)
      | (refine tri_exit ?_)
      | (refine tri_block ?_)
      | (refine tri_step (id := 0) (C := ⟨[], [], []⟩) [0] [] gok_nil nodraw ?_; refine ⟨_, by (simp [*, flg]; exact Is.mk), ?_⟩)
      | (refine tri_last (id := 0) (C := ⟨[], [], []⟩) [0] [] gok_nil nodraw ?_; refine ⟨_, by (simp [*, flg]; exact Is.mk), ?_⟩)
      | (refine tri_step (id := 1) (C := ⟨[], [], []⟩) [0, 9] [] gok_nil nodraw ?_; refine ⟨_, by (simp [*, flg]; exact Is.mk), ?_⟩)
      | (refine tri_last (id := 1) (C := ⟨[], [], []⟩) [0, 9] [] gok_nil nodraw ?_; refine ⟨_, by (simp [*, flg]; exact Is.mk), ?_⟩)
      | (refine tri_step (id := 2) (C := ⟨[], [], []⟩) [2, 3] [] gok_nil nodraw ?_; refine ⟨_, by (simp [*, flg]; exact Is.mk), ?_⟩)
      | (refine tri_last (id := 2) (C := ⟨[], [], []⟩) [2, 3] [] gok_nil nodraw ?_; refine ⟨_, by (simp [*, flg]; exact Is.mk), ?_⟩)
      | (refine tri_step (id := 3) (C := ⟨[], [], []⟩) [0, 4] [] gok_nil nodraw ?_; refine ⟨_, by (simp [*, flg]; exact Is.mk), ?_⟩)
      | (refine tri_last (id := 3) (C := ⟨[], [], []⟩) [0, 4] [] gok_nil nodraw ?_; refine ⟨_, by (simp [*, flg]; exact Is.mk), ?_⟩)
      | (refine tri_step (id := 4) (C := ⟨[], [], []⟩) [4, 10, 11, 12] [] gok_nil nodraw ?_; refine ⟨_, by (simp [*, flg]; exact Is.mk), ?_⟩)
      | (refine tri_last (id := 4) (C := ⟨[], [], []⟩) [4, 10, 11, 12] [] gok_nil nodraw ?_; refine ⟨_, by (simp [*, flg]; exact Is.mk), ?_⟩)
      | (refine tri_step (id := 5) (C := ⟨[], [], []⟩) [4, 10, 11, 12, 13] [] gok_nil nodraw ?_; refine ⟨_, by (simp [*, flg]; exact Is.mk), ?_⟩)
      | (refine tri_last (id := 5) (C := ⟨[], [], []⟩) [4, 10, 11, 12, 13] [] gok_nil nodraw ?_; refine ⟨_, by (simp [*, flg]; exact Is.mk), ?_⟩)
      | (refine tri_step (id := 6) (C := ⟨[], [], []⟩) [4, 6, 10, 11, 12] [] gok_nil nodraw ?_; refine ⟨_, by (simp [*, flg]; exact Is.mk), ?_⟩)
      | (refine tri_last (id := 6) (C := ⟨[], [], []⟩) [4, 6, 10, 11, 12] [] gok_nil nodraw ?_; refine ⟨_, by (simp [*, flg]; exact Is.mk), ?_⟩)
      | (refine tri_step (id := 7) (C := ⟨[], [], []⟩) [4, 10, 11, 12] [] gok_nil nodraw ?_; refine ⟨_, by (simp [*, flg]; exact Is.mk), ?_⟩)
      | (refine tri_last (id := 7) (C := ⟨[], [], []⟩) [4, 10, 11, 12] [] gok_nil nodraw ?_; refine ⟨_, by (simp [*, flg]; exact Is.mk), ?_⟩)
      | (refine tri_step (id := 8) (C := ⟨[], [], []⟩) [4, 10, 11, 12] [] gok_nil nodraw ?_; refine ⟨_, by (simp [*, flg]; exact Is.mk), ?_⟩)
      | (refine tri_last (id := 8) (C := ⟨[], [], []⟩) [4, 10, 11, 12] [] gok_nil nodraw ?_; refine ⟨_, by (simp [*, flg]; exact Is.mk), ?_⟩)
      | (refine tri_step (id := 9) (C := ⟨[], [], []⟩) [2, 3] [] gok_nil nodraw ?_; refine ⟨_, by (simp [*, flg]; exact Is.mk), ?_⟩)
      | (refine tri_last (id := 9) (C := ⟨[], [], []⟩) [2, 3] [] gok_nil nodraw ?_; refine ⟨_, by (simp [*, flg]; exact Is.mk), ?_⟩)
      | (refine tri_cond (c := .tmp 9) (b_true (by simp; exact IsB.mk)) (fun hc => ?_) (fun hc => ?_))
      | (refine tri_cond (c := .tmp 13) (b_true (by simp; exact IsB.mk)) (fun hc => ?_) (fun hc => ?_))
      | (refine to_mk (by simp; exact IsK.mk))
      | (refine imp_ ?_)
      | ((simp; exact IsK.mk))
      | (refine tri_seq ?_)
      ))
    all_goals (refine post_plainV (P := Tryz.prog) (fn := Tryz.f25) (by simp; exact IsV.mk) rfl ?_)
    all_goals (simp; done)
  | cons c r =>
    obtain ⟨f1, f2, f3, f4, f5, f6, f7⟩ := get_round hb hu hn
    have hb2 := hb.step
    clear hb
    all_goals (repeat' (first
      | (refine tri_condT (b_true (by simp; with_reducible exact IsB.mk)) ?_)
      | (refine tri_condF (b_true (by simp; with_reducible exact IsB.mk)) ?_)
      | (refine tri_skipT ?_)
      | (refine tri_skip ?_)
      | (refine then_to ?_)
      | (refine th_n ?_)
      | (refine in_n ?_)
      | (refine in_e ?_)
      | (refine in_x rfl ?_)
      | (refine th_e ?_)
      | (refine th_r ?_)
      | (refine in_r ?_)
      | (refine tri_ret ?_)
      | (refine tri_exit ?_)
      | (refine tri_block ?_)
      | (refine tri_step (id := 0) (C := ⟨[], [], []⟩) [0] [] gok_nil nodraw ?_; refine ⟨_, by (simp [*, flg]; exact Is.mk), ?_⟩)
      | (refine tri_last (id := 0) (C := ⟨[], [], []⟩) [0] [] gok_nil nodraw ?_; refine ⟨_, by (simp [*, flg]; exact Is.mk), ?_⟩)
      | (refine tri_step (id := 1) (C := ⟨[], [], []⟩) [0, 9] [] gok_nil nodraw ?_; refine ⟨_, by (simp [*, flg]; exact Is.mk), ?_⟩)
      | (refine tri_last (id := 1) (C := ⟨[], [], []⟩) [0, 9] [] gok_nil nodraw ?_; refine ⟨_, by (simp [*, flg]; exact Is.mk), ?_⟩)
      | (refine tri_step (id := 2) (C := ⟨[], [], []⟩) [2, 3] [] gok_nil nodraw ?_; refine ⟨_, by (simp [*, flg]; exact Is.mk), ?_⟩)
      | (refine tri_last (id := 2) (C := ⟨[], [], []⟩) [2, 3] [] gok_nil nodraw ?_; refine ⟨_, by (simp [*, flg]; exact Is.mk), ?_⟩)
      | (refine tri_step (id := 3) (C := ⟨[], [], []⟩) [0, 4] [] gok_nil nodraw ?_; refine ⟨_, by (simp [*, flg]; exact Is.mk), ?_⟩)
      | (refine tri_last (id := 3) (C := ⟨[], [], []⟩) [0, 4] [] gok_nil nodraw ?_; refine ⟨_, by (simp [*, flg]; exact Is.mk), ?_⟩)
      | (refine tri_step (id := 4) (C := ⟨[], [], []⟩) [4, 10, 11, 12] [] gok_nil nodraw ?_; refine ⟨_, by (simp [*, flg]; exact Is.mk), ?_⟩)
      | (refine tri_last (id := 4) (C := ⟨[], [], []⟩) [4, 10, 11, 12] [] gok_nil nodraw ?_; refine ⟨_, by (simp [*, flg]; exact Is.mk), ?_⟩)
      | (refine tri_step (id := 5) (C := ⟨[], [], []⟩) [4, 10, 11, 12, 13] [] gok_nil nodraw ?_; refine ⟨_, by (simp [*, flg]; exact Is.mk), ?_⟩)
      | (refine tri_last (id := 5) (C := ⟨[], [], []⟩) [4, 10, 11, 12, 13] [] gok_nil nodraw ?_; refine ⟨_, by (simp [*, flg]; exact Is.mk), ?_⟩)
      | (refine tri_step (id := 6) (C := ⟨[], [], []⟩) [4, 6, 10, 11, 12] [] gok_nil nodraw ?_; refine ⟨_, by (simp [*, flg]; exact Is.mk), ?_⟩)
      | (refine tri_last (id := 6) (C := ⟨[], [], []⟩) [4, 6, 10, 11, 12] [] gok_nil nodraw ?_; refine ⟨_, by (simp [*, flg]; exact Is.mk), ?_⟩)
      | (refine tri_step (id := 7) (C := ⟨[], [], []⟩) [4, 10, 11, 12] [] gok_nil nodraw ?_; refine ⟨_, by (simp [*, flg]; exact Is.mk), ?_⟩)
      | (refine tri_last (id := 7) (C := ⟨[], [], []⟩) [4, 10, 11, 12] [] gok_nil nodraw ?_; refine ⟨_, by (simp [*, flg]; exact Is.mk), ?_⟩)
      | (refine tri_step (id := 8) (C := ⟨[], [], []⟩) [4, 10, 11, 12] [] gok_nil nodraw ?_; refine ⟨_, by (simp [*, flg]; exact Is.mk), ?_⟩)
      | (refine tri_last (id := 8) (C := ⟨[], [], []⟩) [4, 10, 11, 12] [] gok_nil nodraw ?_; refine ⟨_, by (simp [*, flg]; exact Is.mk), ?_⟩)
      | (refine tri_step (id := 9) (C := ⟨[], [], []⟩) [2, 3] [] gok_nil nodraw ?_; refine ⟨_, by (simp [*, flg]; exact Is.mk), ?_⟩)
      | (refine tri_last (id := 9) (C := ⟨[], [], []⟩) [2, 3] [] gok_nil nodraw ?_; refine ⟨_, by (simp [*, flg]; exact Is.mk), ?_⟩)
      | (refine tri_cond (c := .tmp 9) (b_true (by simp; exact IsB.mk)) (fun hc => ?_) (fun hc => ?_))
      | (refine tri_cond (c := .tmp 13) (b_true (by simp; exact IsB.mk)) (fun hc => ?_) (fun hc => ?_))
      | (refine to_mk (by simp; exact IsK.mk))
      | (refine imp_ ?_)
      | ((simp; exact IsK.mk))
      | (refine tri_seq ?_)
      ))
    exact ⟨r.length, _, by rw [hn3]; exact Nat.lt_succ_self _, Le.refl _, d ++ [c], r, hb2, rfl, by simp⟩
open Classical in
noncomputable def F25 : Fn1
  | [x0] => (decB x0).bind fun b => if u8L b ∧ b.length ≤ 8 then some ((.tup [.v (.int .u64 (getF b)), .v (.int .i64 0)]), none) else none
  | _ => none
theorem spec25 : Spec1 Tryz.prog 25 F25 := spec_of fun ys r o h => by
  unfold F25 at h
  split at h
  case h_2 => cases h
  obtain ⟨b, k0, h1⟩ := bind_some h
  obtain ⟨hpre, hz⟩ := ite_some h1
  cases hz
  exact ⟨_, at25 b hpre, rfl, le_plain ⟨decB_coA k0, trivial⟩ (by simp only [List.all_cons, List.all_nil, Bool.not_false, Bool.and_self, notRefB (decB_coA k0) rfl (by simp)]) rfl⟩
theorem en25 : Enters Tryz.prog 25 := enters_of Tryz.func25 (by kernel_rfl) rfl

end Go.Proofs.YtljlhooodbfpiaaGreatDoor

-- Printed by genwalk.py.
namespace Go.Proofs.YtljlhooodbfpiaaGreatDoor
open Go Go.RowKit Caw
set_option linter.unusedSimpArgs false
set_option linter.unusedVariables false
set_option maxRecDepth 100000

-- caravel/caravelref01.Get
set_option maxHeartbeats 2000000 in
theorem at27 (s : ByteArray) (hpre : s.size ≤ 8) : SpecAt Tryz.prog 27 [.v (.string s)] (.tup [.v (.int .u64 (getF (zb s))), .v (.int .i64 0)]) none := by
  have hz : ¬ (8 : Int) < (s.size : Nat) := by omega
  refine specAt_of_tri Tryz.func27 rfl (Nat.le_of_ble_eq_true rfl) ?_
  all_goals (repeat' (first
      | (refine tri_condT (b_true (by simp; with_reducible exact IsB.mk)) ?_)
      | (refine tri_condF (b_true (by simp; with_reducible exact IsB.mk)) ?_)
      | (refine tri_skipT ?_)
      | (refine tri_skip ?_)
      | (refine then_to ?_)
      | (refine th_n ?_)
      | (refine in_n ?_)
      | (refine in_e ?_)
      | (refine in_x rfl ?_)
      | (refine th_e ?_)
      | (refine th_r ?_)
      | (refine in_r ?_)
      | (refine tri_ret ?_)
      | (refine tri_exit ?_)
      | (refine tri_block ?_)
      | (refine tri_step (id := 0) (C := ⟨[], [], []⟩) [0] [] gok_nil nodraw ?_; refine ⟨_, by (simp [*, flg]; exact Is.mk), ?_⟩)
      | (refine tri_last (id := 0) (C := ⟨[], [], []⟩) [0] [] gok_nil nodraw ?_; refine ⟨_, by (simp [*, flg]; exact Is.mk), ?_⟩)
      | (refine tri_step (id := 1) (C := ⟨[], [], []⟩) [0, 8] [] gok_nil nodraw ?_; refine ⟨_, by (simp [*, flg]; exact Is.mk), ?_⟩)
      | (refine tri_last (id := 1) (C := ⟨[], [], []⟩) [0, 8] [] gok_nil nodraw ?_; refine ⟨_, by (simp [*, flg]; exact Is.mk), ?_⟩)
      | (refine tri_step (id := 2) (C := ⟨[], [], []⟩) [2, 3] [] gok_nil nodraw ?_; refine ⟨_, by (simp [*, flg]; exact Is.mk), ?_⟩)
      | (refine tri_last (id := 2) (C := ⟨[], [], []⟩) [2, 3] [] gok_nil nodraw ?_; refine ⟨_, by (simp [*, flg]; exact Is.mk), ?_⟩)
      | (refine tri_step (id := 3) (C := ⟨[], [], []⟩) [0, 4] [] gok_nil nodraw ?_; refine ⟨_, by (simp [*, flg]; exact Is.mk), ?_⟩)
      | (refine tri_last (id := 3) (C := ⟨[], [], []⟩) [0, 4] [] gok_nil nodraw ?_; refine ⟨_, by (simp [*, flg]; exact Is.mk), ?_⟩)
      | (refine tri_step (id := 4) (C := ⟨[], [], []⟩) [0, 4, 5] [] gok_nil nodraw ?_; refine ⟨_, by (simp [*, flg]; exact Is.mk), ?_⟩)
      | (refine tri_last (id := 4) (C := ⟨[], [], []⟩) [0, 4, 5] [] gok_nil nodraw ?_; refine ⟨_, by (simp [*, flg]; exact Is.mk), ?_⟩)
      | (refine tri_step (id := 5) (C := ⟨[], [], []⟩) [0, 4, 5, 12] [] gok_nil nodraw ?_; refine ⟨_, by (simp [*, flg]; exact Is.mk), ?_⟩)
      | (refine tri_last (id := 5) (C := ⟨[], [], []⟩) [0, 4, 5, 12] [] gok_nil nodraw ?_; refine ⟨_, by (simp [*, flg]; exact Is.mk), ?_⟩)
      | (refine tri_step (id := 6) (C := ⟨[], [], []⟩) [0, 4, 5] [] gok_nil nodraw ?_; refine ⟨_, by (simp [*, flg]; exact Is.mk), ?_⟩)
      | (refine tri_last (id := 6) (C := ⟨[], [], []⟩) [0, 4, 5] [] gok_nil nodraw ?_; refine ⟨_, by (simp [*, flg]; exact Is.mk), ?_⟩)
      | (refine tri_step (id := 7) (C := ⟨[], [], []⟩) [0, 4, 5] [] gok_nil nodraw ?_; refine ⟨_, by (simp [*, flg]; exact Is.mk), ?_⟩)
      | (refine tri_last (id := 7) (C := ⟨[], [], []⟩) [0, 4, 5] [] gok_nil nodraw ?_; refine ⟨_, by (simp [*, flg]; exact Is.mk), ?_⟩)
      | (refine tri_step (id := 8) (C := ⟨[], [], []⟩) [2, 3] [] gok_nil nodraw ?_; refine ⟨_, by (simp [*, flg]; exact Is.mk), ?_⟩)
      | (refine tri_last (id := 8) (C := ⟨[], [], []⟩) [2, 3] [] gok_nil nodraw ?_; refine ⟨_, by (simp [*, flg]; exact Is.mk), ?_⟩)
      | (refine tri_cond (c := .tmp 8) (b_true (by simp; exact IsB.mk)) (fun hc => ?_) (fun hc => ?_))
      | (refine tri_cond (c := .tmp 12) (b_true (by simp; exact IsB.mk)) (fun hc => ?_) (fun hc => ?_))
      | (refine to_mk (by simp; exact IsK.mk))
      | (refine imp_ ?_)
      | ((simp; exact IsK.mk))
      | (refine tri_seq ?_)
      ))
  refine tri_loop (fun k st => ∃ (i : Nat) (n : Int), n = getF ((zb s).take i) ∧ k = s.size - i ∧ st = mkSt [(0, .v (.string s)), (4, .v (.int .u64 n)), (5, .v (.int .i64 i))] []) s.size _ (Le.refl _) ⟨0, 0, rfl, rfl, rfl⟩ ?_
  rintro k st ⟨i, n, hr, hk, rfl⟩
  by_cases hlt : i < s.size
  · obtain ⟨c, hc0, hg⟩ : ∃ c : UInt8, s[i] = c ∧ ∀ h : i < s.size, s[i]'h = c := ⟨_, rfl, fun _ => rfl⟩
    obtain ⟨q1, q2, q3, q4, q5⟩ := getD_step hr hlt hpre ((c.toNat : Nat) : Int) (by rw [hc0])
    clear hc0 hr
    rw [q5] at q3
  
  
    all_goals (repeat' (first
      | (refine tri_condT (b_true (by simp; with_reducible exact IsB.mk)) ?_)
      | (refine tri_condF (b_true (by simp; with_reducible exact IsB.mk)) ?_)
      | (refine tri_skipT ?_)
      | (refine tri_skip ?_)
      | (refine then_to ?_)
      | (refine th_n ?_)
      | (refine in_n ?_)
      | (refine in_e ?_)
      | (refine in_x rfl ?_)
      | (refine th_e ?_)
      | (refine th_r ?_)
      | (refine in_r ?_)
      | (refine tri_ret ?_)
      | (refine tri_exit ?_)
      | (refine tri_block ?_)
      | (refine tri_step (id := 0) (C := ⟨[], [], []⟩) [0] [] gok_nil nodraw ?_; refine ⟨_, by (simp [*, flg]; exact Is.mk), ?_⟩)
      | (refine tri_last (id := 0) (C := ⟨[], [], []⟩) [0] [] gok_nil nodraw ?_; refine ⟨_, by (simp [*, flg]; exact Is.mk), ?_⟩)
      | (refine tri_step (id := 1) (C := ⟨[], [], []⟩) [0, 8] [] gok_nil nodraw ?_; refine ⟨_, by (simp [*, flg]; exact Is.mk), ?_⟩)
      | (refine tri_last (id := 1) (C := ⟨[], [], []⟩) [0, 8] [] gok_nil nodraw ?_; refine ⟨_, by (simp [*, flg]; exact Is.mk), ?_⟩)
      | (refine tri_step (id := 2) (C := ⟨[], [], []⟩) [2, 3] [] gok_nil nodraw ?_; refine ⟨_, by (simp [*, flg]; exact Is.mk), ?_⟩)
      | (refine tri_last (id := 2) (C := ⟨[], [], []⟩) [2, 3] [] gok_nil nodraw ?_; refine ⟨_, by (simp [*, flg]; exact Is.mk), ?_⟩)
      | (refine tri_step (id := 3) (C := ⟨[], [], []⟩) [0, 4] [] gok_nil nodraw ?_; refine ⟨_, by (simp [*, flg]; exact Is.mk), ?_⟩)
      | (refine tri_last (id := 3) (C := ⟨[], [], []⟩) [0, 4] [] gok_nil nodraw ?_; refine ⟨_, by (simp [*, flg]; exact Is.mk), ?_⟩)
      | (refine tri_step (id := 4) (C := ⟨[], [], []⟩) [0, 4, 5] [] gok_nil nodraw ?_; refine ⟨_, by (simp [*, flg]; exact Is.mk), ?_⟩)
      | (refine tri_last (id := 4) (C := ⟨[], [], []⟩) [0, 4, 5] [] gok_nil nodraw ?_; refine ⟨_, by (simp [*, flg]; exact Is.mk), ?_⟩)
      | (refine tri_step (id := 5) (C := ⟨[], [], []⟩) [0, 4, 5, 12] [] gok_nil nodraw ?_; refine ⟨_, by (simp [*, flg]; exact Is.mk), ?_⟩)
      | (refine tri_last (id := 5) (C := ⟨[], [], []⟩) [0, 4, 5, 12] [] gok_nil nodraw ?_; refine ⟨_, by (simp [*, flg]; exact Is.mk), ?_⟩)
      | (refine tri_step (id := 6) (C := ⟨[], [], []⟩) [0, 4, 5] [] gok_nil nodraw ?_; refine ⟨_, by (simp [*, flg]; exact Is.mk), ?_⟩)
      | (refine tri_last (id := 6) (C := ⟨[], [], []⟩) [0, 4, 5] [] gok_nil nodraw ?_; refine ⟨_, by (simp [*, flg]; exact Is.mk), ?_⟩)
      | (refine tri_step (id := 7) (C := ⟨[], [], []⟩) [0, 4, 5] [] gok_nil nodraw ?_; refine ⟨_, by (simp [*, flg]; exact Is.mk), ?_⟩)
      | (refine tri_last (id := 7) (C := ⟨[], [], []⟩) [0, 4, 5] [] gok_nil nodraw ?_; refine ⟨_, by (simp [*, flg]; exact Is.mk), ?_⟩)
      | (refine tri_step (id := 8) (C := ⟨[], [], []⟩) [2, 3] [] gok_nil nodraw ?_; refine ⟨_, by (simp [*, flg]; exact Is.mk), ?_⟩)
      | (refine tri_last (id := 8) (C := ⟨[], [], []⟩) [2, 3] [] gok_nil nodraw ?_; refine ⟨_, by (simp [*, flg]; exact Is.mk), ?_⟩)
      | (refine tri_cond (c := .tmp 8) (b_true (by simp; exact IsB.mk)) (fun hc => ?_) (fun hc => ?_))
      | (refine tri_cond (c := .tmp 12) (b_true (by simp; exact IsB.mk)) (fun hc => ?_) (fun hc => ?_))
      | (refine to_mk (by simp; exact IsK.mk))
      | (refine imp_ ?_)
      | ((simp; exact IsK.mk))
      | (refine tri_seq ?_)
      ))
    exact ⟨s.size - (i + 1), _, by omega, Le.refl _, i + 1, _, rfl, rfl, rfl⟩
  · have hn := getD_fin hr hlt
    clear hr
    subst hn
    have hlt2 : ¬ ((i : Nat) : Int) < ((s.size : Nat) : Int) := by omega
    all_goals (repeat' (first
      | (refine tri_condT (b_true (by simp; with_reducible exact IsB.mk)) ?_)
      | (refine tri_condF (b_true (by simp; with_reducible exact IsB.mk)) ?_)
      | (refine tri_skipT ?_)
      | (refine tri_skip ?_)
      | (refine then_to ?_)
      | (refine th_n ?_)
      | (refine in_n ?_)
      | (refine in_e ?_)
      | (refine in_x rfl ?_)
      | (refine th_e ?_)
      | (refine th_r ?_)
      | (refine in_r ?_)
      | (refine tri_ret ?_)
      | (refine tri_exit ?_)
      | (refine tri_block ?_)
      | (refine tri_step (id := 0) (C := ⟨[], [], []⟩) [0] [] gok_nil nodraw ?_; refine ⟨_, by (simp [*, flg]; exact Is.mk), ?_⟩)
      | (refine tri_last (id := 0) (C := ⟨[], [], []⟩) [0] [] gok_nil nodraw ?_; refine ⟨_, by (simp [*, flg]; exact Is.mk), ?_⟩)
      | (refine tri_step (id := 1) (C := ⟨[], [], []⟩) [0, 8] [] gok_nil nodraw ?_; refine ⟨_, by (simp [*, flg]; exact Is.mk), ?_⟩)
      | (refine tri_last (id := 1) (C := ⟨[], [], []⟩) [0, 8] [] gok_nil nodraw ?_; refine ⟨_, by (simp [*, flg]; exact Is.mk), ?_⟩)
      | (refine tri_step (id := 2) (C := ⟨[], [], []⟩) [2, 3] [] gok_nil nodraw ?_; refine ⟨_, by (simp [*, flg]; exact Is.mk), ?_⟩)
      | (refine tri_last (id := 2) (C := ⟨[], [], []⟩) [2, 3] [] gok_nil nodraw ?_; refine ⟨_, by (simp [*, flg]; exact Is.mk), ?_⟩)
      | (refine tri_step (id := 3) (C := ⟨[], [], []⟩) [0, 4] [] gok_nil nodraw ?_; refine ⟨_, by (simp [*, flg]; exact Is.mk), ?_⟩)
      | (refine tri_last (id := 3) (C := ⟨[], [], []⟩) [0, 4] [] gok_nil nodraw ?_; refine ⟨_, by (simp [*, flg]; exact Is.mk), ?_⟩)
      | (refine tri_step (id := 4) (C := ⟨[], [], []⟩) [0, 4, 5] [] gok_nil nodraw ?_; refine ⟨_, by (simp [*, flg]; exact Is.mk), ?_⟩)
      | (refine tri_last (id := 4) (C := ⟨[], [], []⟩) [0, 4, 5] [] gok_nil nodraw ?_; refine ⟨_, by (simp [*, flg]; exact Is.mk), ?_⟩)
      | (refine tri_step (id := 5) (C := ⟨[], [], []⟩) [0, 4, 5, 12] [] gok_nil nodraw ?_; refine ⟨_, by (simp [*, flg]; exact Is.mk), ?_⟩)
      | (refine tri_last (id := 5) (C := ⟨[], [], []⟩) [0, 4, 5, 12] [] gok_nil nodraw ?_; refine ⟨_, by (simp [*, flg]; exact Is.mk), ?_⟩)
      | (refine tri_step (id := 6) (C := ⟨[], [], []⟩) [0, 4, 5] [] gok_nil nodraw ?_; refine ⟨_, by (simp [*, flg]; exact Is.mk), ?_⟩)
      | (refine tri_last (id := 6) (C := ⟨[], [], []⟩) [0, 4, 5] [] gok_nil nodraw ?_; refine ⟨_, by (simp [*, flg]; exact Is.mk), ?_⟩)
      | (refine tri_step (id := 7) (C := ⟨[], [], []⟩) [0, 4, 5] [] gok_nil nodraw ?_; refine ⟨_, by (simp [*, flg]; exact Is.mk), ?_⟩)
      | (refine tri_last (id := 7) (C := ⟨[], [], []⟩) [0, 4, 5] [] gok_nil nodraw ?_; refine ⟨_, by (simp [*, flg]; exact Is.mk), ?_⟩)
      | (refine tri_step (id := 8) (C := ⟨[], [], []⟩) [2, 3] [] gok_nil nodraw ?_; refine ⟨_, by (simp [*, flg]; exact Is.mk), ?_⟩)
      | (refine tri_last (id := 8) (C := ⟨[], [], []⟩) [2, 3] [] gok_nil nodraw ?_; refine ⟨_, by (simp [*, flg]; exact Is.mk), ?_⟩)
      | (refine tri_cond (c := .tmp 8) (b_true (by simp; exact IsB.mk)) (fun hc => ?_) (fun hc => ?_))
      | (refine tri_cond (c := .tmp 12) (b_true (by simp; exact IsB.mk)) (fun hc => ?_) (fun hc => ?_))
      | (refine to_mk (by simp; exact IsK.mk))
      | (refine imp_ ?_)
      | ((simp; exact IsK.mk))
      | (refine tri_seq ?_)
      ))
    all_goals (refine post_plainV (P := Tryz.prog) (fn := Tryz.f27) (by simp; exact IsV.mk) rfl ?_)
    all_goals (simp; done)
open Classical in
noncomputable def F27 : Fn1
  | [x0] => (dZ x0).bind fun s => if s.size ≤ 8 then some ((.tup [.v (.int .u64 (getF (zb s))), .v (.int .i64 0)]), none) else none
  | _ => none
theorem spec27 : Spec1 Tryz.prog 27 F27 := spec_of fun ys r o h => by
  unfold F27 at h
  split at h
  case h_2 => cases h
  obtain ⟨s, k0, h1⟩ := bind_some h
  obtain ⟨hpre, hz⟩ := ite_some h1
  cases hz
  exact ⟨_, at27 s hpre, rfl, le_plain ⟨dZ_co k0, trivial⟩ (by simp only [List.all_cons, List.all_nil, Bool.not_false, Bool.and_self, notRefB (dZ_co k0) rfl (by simp)]) rfl⟩
theorem en27 : Enters Tryz.prog 27 := enters_of Tryz.func27 (by kernel_rfl) rfl

end Go.Proofs.YtljlhooodbfpiaaGreatDoor

