import Derived.Test.YtlogglgfpeeheaaA0
namespace Go.Proofs.Ytlogglgfpeeheaa
open Go Go.RowKit Cav

def f4 : Fun
  | [a, .v (.int .u64 n)] => match asClk a with
    | some _ => if 0 ≤ n then some (.v (.bool true)) else none
    | none => none
  | _ => none

set_option maxHeartbeats 2000000 in
theorem spec4 : Cav.Spec Try.prog 4 f4 := by
  refine spec_of_tri Try.func4 rfl ?_
  intro xs r h
  unfold f4 at h
  split at h
  case h_2 => cases h
  rename_i a n
  split at h
  case h_2 => cases h
  rename_i q ha
  obtain ⟨s, p, t⟩ := q
  split at h
  case isFalse => cases h
  rename_i hn
  cases h
  obtain rfl := asClk_eq ha
  clear ha
  refine ⟨Nat.le_of_ble_eq_true rfl, ?_⟩
  refine tri_step [1, 2] [2] g1 nodraw ⟨_, by simp [clk]; exact Is.mk, ?_⟩
  refine tri_seq (tri_step [1, 2, 15] [2] g1 (fun _ => ⟨q_mixed, by kernel_rfl⟩) ⟨_, by simp [Γ1, f7, fRight, asClk]; exact Is.mk, ?_⟩)
  refine tri_cond (b := false) rfl (fun hb => by cases hb) (fun _ => tri_skip ?_)
  show Tri _ _ _ _ _
  by_cases hw : rightB s p t = true
  case neg =>
    have hw : rightB s p t = false := by simpa using hw
    refine tri_seq (tri_step [1, 2, 18] [2] g1 nodraw ⟨_, by simp [Γ1, fRight, asClk, hw]; exact Is.mk, ?_⟩)
    refine tri_cond (b := true) rfl (fun _ => ?_) (fun hb => by cases hb)
    refine tri_step [4] [] g1 nodraw ⟨_, by simp; exact Is.mk, ?_⟩
    refine tri_ret ?_
    exact ⟨_, rfl, rfl, rfl⟩
  case pos =>
    refine tri_seq (tri_step [1, 2, 18] [2] g1 nodraw ⟨_, by simp [Γ1, fRight, asClk, hw]; exact Is.mk, ?_⟩)
    refine tri_cond (b := false) rfl (fun hb => by cases hb) (fun _ => tri_skip ?_)
    show Tri _ _ _ _ _
    have hok : okcB s p = true := by rw [okcB_iff]; exact ((rightB_iff s p t).1 hw).2.2
    refine tri_step [1, 2, 5, 6] [2, 5, 6] g1 (fun _ => ⟨q_mixed, by kernel_rfl⟩) ⟨_, by simp [Γ1, fMeasure, fDouble, hw, hok, hn, mClk, clk]; exact Is.mk, ?_⟩
    have hok2 := okc_mS s p n hn hok
    have hw1 : rightB (mS s n) (mP s p n) (wt (mS s n) (mP s p n)) = true := by
      rw [rightB_iff]; exact ⟨by unfold wt bnd; omega, by unfold wt bnd; omega, (okcB_iff _ _).1 hok2⟩
    have hw2 : rightB s p (bnd (t + t)) = true := by
      rw [rightB_iff]; exact ⟨by unfold bnd; omega, by unfold bnd; omega, (okcB_iff _ _).1 hok⟩
    refine tri_step [4] [] g1 (fun _ => ⟨q_mixed, by kernel_rfl⟩) ⟨_, by simp [Γ1, fMeasure, fDouble, fRight, hw, hok, hn, mClk, clk, hw1, hw2]; exact Is.mk, ?_⟩
    refine tri_ret ?_
    exact ⟨_, rfl, rfl, rfl⟩
end Go.Proofs.Ytlogglgfpeeheaa
