import Derived.Test.YtkmjoppcecffkaaDoorK7
import Derived.Test.YtkmjoppcecffkaaDoorK9
set_option linter.all false
-- Printed by genwalk.py.
namespace Go.Proofs.YtkmjoppcecffkaaDoor
open Go Go.RowKit Caw
set_option linter.unusedSimpArgs false
set_option linter.unusedVariables false
set_option maxRecDepth 100000

-- caravel/addr.number
set_option maxHeartbeats 400000 in
theorem at26 (s : ByteArray) (most : Int) (hpre : 0 ≤ most ∧ most ≤ 1000000) : SpecAt Tryd.prog 26 [.v (.string s), .v (.int .i64 most)] (.tup [.v (.int .i64 (numberR s most).1), .v (.bool (numberR s most).2)]) none := by
  exact number_at s most hpre
open Classical in
noncomputable def F26 : Fn1
  | [x0, x1] => (dZ x0).bind fun s => (dI .i64 x1).bind fun most => if 0 ≤ most ∧ most ≤ 1000000 then some ((.tup [.v (.int .i64 (numberR s most).1), .v (.bool (numberR s most).2)]), none) else none
  | _ => none
theorem spec26 : Spec1 Tryd.prog 26 F26 := spec_of fun ys r o h => by
  unfold F26 at h
  split at h
  case h_2 => cases h
  obtain ⟨s, k0, h1⟩ := bind_some h
  obtain ⟨most, k1, h2⟩ := bind_some h1
  obtain ⟨hpre, hz⟩ := ite_some h2
  cases hz
  exact ⟨_, at26 s most hpre, rfl, le_plain ⟨dZ_co k0, ⟨dI_co k1, trivial⟩⟩ (by simp only [List.all_cons, List.all_nil, Bool.not_false, Bool.and_self, notRefB (dZ_co k0) rfl (by simp), notRefB (dI_co k1) rfl (by simp)]) rfl⟩
theorem en26 : Enters Tryd.prog 26 := enters_of Tryd.func26 (by kernel_rfl) rfl

-- internal/stringslite.Index
set_option maxHeartbeats 400000 in
theorem at44 (s : ByteArray) (t : ByteArray) (hpre : one t) : SpecAt Tryd.prog 44 [.v (.string s), .v (.string t)] (.v (.int .i64 (indexZ s t))) none := by
  exact index44_at s t hpre
open Classical in
noncomputable def F44 : Fn1
  | [x0, x1] => (dZ x0).bind fun s => (dZ x1).bind fun t => if one t then some ((.v (.int .i64 (indexZ s t))), none) else none
  | _ => none
theorem spec44 : Spec1 Tryd.prog 44 F44 := spec_of fun ys r o h => by
  unfold F44 at h
  split at h
  case h_2 => cases h
  obtain ⟨s, k0, h1⟩ := bind_some h
  obtain ⟨t, k1, h2⟩ := bind_some h1
  obtain ⟨hpre, hz⟩ := ite_some h2
  cases hz
  exact ⟨_, at44 s t hpre, rfl, le_plain ⟨dZ_co k0, ⟨dZ_co k1, trivial⟩⟩ (by simp only [List.all_cons, List.all_nil, Bool.not_false, Bool.and_self, notRefB (dZ_co k0) rfl (by simp), notRefB (dZ_co k1) rfl (by simp)]) rfl⟩
theorem en44 : Enters Tryd.prog 44 := enters_of Tryd.func44 (by kernel_rfl) rfl

-- strings.Index
set_option maxHeartbeats 400000 in
theorem at47 (s : ByteArray) (t : ByteArray) (hpre : one t) : SpecAt Tryd.prog 47 [.v (.string s), .v (.string t)] (.v (.int .i64 (indexZ s t))) none := by
  exact index47_at s t hpre
open Classical in
noncomputable def F47 : Fn1
  | [x0, x1] => (dZ x0).bind fun s => (dZ x1).bind fun t => if one t then some ((.v (.int .i64 (indexZ s t))), none) else none
  | _ => none
theorem spec47 : Spec1 Tryd.prog 47 F47 := spec_of fun ys r o h => by
  unfold F47 at h
  split at h
  case h_2 => cases h
  obtain ⟨s, k0, h1⟩ := bind_some h
  obtain ⟨t, k1, h2⟩ := bind_some h1
  obtain ⟨hpre, hz⟩ := ite_some h2
  cases hz
  exact ⟨_, at47 s t hpre, rfl, le_plain ⟨dZ_co k0, ⟨dZ_co k1, trivial⟩⟩ (by simp only [List.all_cons, List.all_nil, Bool.not_false, Bool.and_self, notRefB (dZ_co k0) rfl (by simp), notRefB (dZ_co k1) rfl (by simp)]) rfl⟩
theorem en47 : Enters Tryd.prog 47 := enters_of Tryd.func47 (by kernel_rfl) rfl

-- strings.Count
set_option maxHeartbeats 400000 in
theorem at46 (s : ByteArray) (t : ByteArray) (hpre : one t) : SpecAt Tryd.prog 46 [.v (.string s), .v (.string t)] (.v (.int .i64 (((bl s).count (hd t) : Nat)))) none := by
  exact count46_at s t hpre
open Classical in
noncomputable def F46 : Fn1
  | [x0, x1] => (dZ x0).bind fun s => (dZ x1).bind fun t => if one t then some ((.v (.int .i64 (((bl s).count (hd t) : Nat)))), none) else none
  | _ => none
theorem spec46 : Spec1 Tryd.prog 46 F46 := spec_of fun ys r o h => by
  unfold F46 at h
  split at h
  case h_2 => cases h
  obtain ⟨s, k0, h1⟩ := bind_some h
  obtain ⟨t, k1, h2⟩ := bind_some h1
  obtain ⟨hpre, hz⟩ := ite_some h2
  cases hz
  exact ⟨_, at46 s t hpre, rfl, le_plain ⟨dZ_co k0, ⟨dZ_co k1, trivial⟩⟩ (by simp only [List.all_cons, List.all_nil, Bool.not_false, Bool.and_self, notRefB (dZ_co k0) rfl (by simp), notRefB (dZ_co k1) rfl (by simp)]) rfl⟩
theorem en46 : Enters Tryd.prog 46 := enters_of Tryd.func46 (by kernel_rfl) rfl

-- strconv.Itoa
set_option maxHeartbeats 400000 in
theorem at29 (n : Int) (hpre : 0 ≤ n ∧ n < 100000) : SpecAt Tryd.prog 29 [.v (.int .i64 n)] (.v (.string (ofL (Lib.decDigits n.toNat)))) none := by
  exact itoa29_at n hpre
open Classical in
noncomputable def F29 : Fn1
  | [x0] => (dI .i64 x0).bind fun n => if 0 ≤ n ∧ n < 100000 then some ((.v (.string (ofL (Lib.decDigits n.toNat)))), none) else none
  | _ => none
theorem spec29 : Spec1 Tryd.prog 29 F29 := spec_of fun ys r o h => by
  unfold F29 at h
  split at h
  case h_2 => cases h
  obtain ⟨n, k0, h1⟩ := bind_some h
  obtain ⟨hpre, hz⟩ := ite_some h1
  cases hz
  exact ⟨_, at29 n hpre, rfl, le_plain ⟨dI_co k0, trivial⟩ (by simp only [List.all_cons, List.all_nil, Bool.not_false, Bool.and_self, notRefB (dI_co k0) rfl (by simp)]) rfl⟩
theorem en29 : Enters Tryd.prog 29 := enters_of Tryd.func29 (by kernel_rfl) rfl

-- internal/stringslite.Cut
theorem g36 : GOk1 Tryd.prog (ctxOf [(44, F44)]) := gok_cons spec44 en44 (gok_nil)
set_option maxHeartbeats 400000 in
theorem at36 (s : ByteArray) (t : ByteArray) (hpre : one t ∧ s.size ≤ 100000) : SpecAt Tryd.prog 36 [.v (.string s), .v (.string t)] (.tup [.v (.string (cutZ s t).1), .v (.string (cutZ s t).2.1), .v (.bool (cutZ s t).2.2)]) none := by
  obtain ⟨hp1, hp2⟩ := hpre
  have ht := one_size hp1
  rcases cut_facts s t hp2 with ⟨m, h1, h2, h3, h4, h5⟩ | ⟨h1, h2⟩
  all_goals refine specAt_of_tri Tryd.func36 rfl (Nat.le_of_ble_eq_true rfl) ?_
  all_goals (repeat' (first
    | (refine tri_condT (b_true (by simp; with_reducible exact IsB.mk)) ?_)
    | (refine tri_condF (b_true (by simp; with_reducible exact IsB.mk)) ?_)
    | (refine tri_skipT ?_)
    | (refine tri_skip ?_)
    | (refine then_to ?_)
    | (refine th_n ?_)
    | (refine in_n ?_)
    | (refine in_e ?_)
    | (refine in_x rfl ?_)
    | (refine th_e ?_)
    | (refine th_r ?_)
    | (refine in_r ?_)
    | (refine tri_ret ?_)
    | (refine tri_exit ?_)
    | (refine tri_block ?_)
    | (refine tri_step (id := 0) (C := ⟨[], [], []⟩) [0, 1] [] g36 nodraw ?_; refine ⟨_, by (simp [*, F44, flg]; exact Is.mk), ?_⟩)
    | (refine tri_last (id := 0) (C := ⟨[], [], []⟩) [0, 1] [] g36 nodraw ?_; refine ⟨_, by (simp [*, F44, flg]; exact Is.mk), ?_⟩)
    | (refine tri_step (id := 1) (C := ⟨[], [], []⟩) [0, 1, 7] [] g36 nodraw ?_; refine ⟨_, by (simp [*, F44, flg]; exact Is.mk), ?_⟩)
    | (refine tri_last (id := 1) (C := ⟨[], [], []⟩) [0, 1, 7] [] g36 nodraw ?_; refine ⟨_, by (simp [*, F44, flg]; exact Is.mk), ?_⟩)
    | (refine tri_step (id := 2) (C := ⟨[], [], []⟩) [0, 1, 7, 12] [] g36 nodraw ?_; refine ⟨_, by (simp [*, F44, flg]; exact Is.mk), ?_⟩)
    | (refine tri_last (id := 2) (C := ⟨[], [], []⟩) [0, 1, 7, 12] [] g36 nodraw ?_; refine ⟨_, by (simp [*, F44, flg]; exact Is.mk), ?_⟩)
    | (refine tri_step (id := 3) (C := ⟨[], [], []⟩) [4, 5, 6] [] g36 (fun _ => ⟨q_mixed, by kernel_rfl⟩) ?_; refine ⟨_, by (simp [*, F44, flg]; exact Is.mk), ?_⟩)
    | (refine tri_last (id := 3) (C := ⟨[], [], []⟩) [4, 5, 6] [] g36 (fun _ => ⟨q_mixed, by kernel_rfl⟩) ?_; refine ⟨_, by (simp [*, F44, flg]; exact Is.mk), ?_⟩)
    | (refine tri_step (id := 4) (C := ⟨[], [], []⟩) [4, 5, 6] [] g36 nodraw ?_; refine ⟨_, by (simp [*, F44, flg]; exact Is.mk), ?_⟩)
    | (refine tri_last (id := 4) (C := ⟨[], [], []⟩) [4, 5, 6] [] g36 nodraw ?_; refine ⟨_, by (simp [*, F44, flg]; exact Is.mk), ?_⟩)
    | (refine tri_cond (c := .tmp 12) (b_true (by simp; exact IsB.mk)) (fun hc => ?_) (fun hc => ?_))
    | (refine to_mk (by simp; exact IsK.mk))
    | (refine imp_ ?_)
    | ((simp; exact IsK.mk))
    | (refine tri_seq ?_)
    ))
  all_goals (refine post_plainV (P := Tryd.prog) (fn := Tryd.f36) (by simp; exact IsV.mk) rfl ?_)
  all_goals (first | (simp [F44, flg]; done) | (simp [*, F44, flg]; done) | (simp_all [F44, flg]; done) | (simp [F44, flg] <;> (repeat' split) <;> simp_all; done) | (simp [F44, flg] <;> (repeat' split) <;> simp_all [Bool.and_assoc] <;> grind [List.length_eq_zero_iff, sendCells_co, recvCells_co, pieceCells_co, connCells_co, segCells_co, clockCells_co]))
open Classical in
noncomputable def F36 : Fn1
  | [x0, x1] => (dZ x0).bind fun s => (dZ x1).bind fun t => if one t ∧ s.size ≤ 100000 then some ((.tup [.v (.string (cutZ s t).1), .v (.string (cutZ s t).2.1), .v (.bool (cutZ s t).2.2)]), none) else none
  | _ => none
theorem spec36 : Spec1 Tryd.prog 36 F36 := spec_of fun ys r o h => by
  unfold F36 at h
  split at h
  case h_2 => cases h
  obtain ⟨s, k0, h1⟩ := bind_some h
  obtain ⟨t, k1, h2⟩ := bind_some h1
  obtain ⟨hpre, hz⟩ := ite_some h2
  cases hz
  exact ⟨_, at36 s t hpre, rfl, le_plain ⟨dZ_co k0, ⟨dZ_co k1, trivial⟩⟩ (by simp only [List.all_cons, List.all_nil, Bool.not_false, Bool.and_self, notRefB (dZ_co k0) rfl (by simp), notRefB (dZ_co k1) rfl (by simp)]) rfl⟩
theorem en36 : Enters Tryd.prog 36 := enters_of Tryd.func36 (by kernel_rfl) rfl

-- strings.Cut
theorem g25 : GOk1 Tryd.prog (ctxOf [(36, F36)]) := gok_cons spec36 en36 (gok_nil)
set_option maxHeartbeats 400000 in
theorem at25 (s : ByteArray) (t : ByteArray) (hpre : one t ∧ s.size ≤ 100000) : SpecAt Tryd.prog 25 [.v (.string s), .v (.string t)] (.tup [.v (.string (cutZ s t).1), .v (.string (cutZ s t).2.1), .v (.bool (cutZ s t).2.2)]) none := by
  all_goals refine specAt_of_tri Tryd.func25 rfl (Nat.le_of_ble_eq_true rfl) ?_
  all_goals (repeat' (first
    | (refine tri_condT (b_true (by simp; with_reducible exact IsB.mk)) ?_)
    | (refine tri_condF (b_true (by simp; with_reducible exact IsB.mk)) ?_)
    | (refine tri_skipT ?_)
    | (refine tri_skip ?_)
    | (refine then_to ?_)
    | (refine th_n ?_)
    | (refine in_n ?_)
    | (refine in_e ?_)
    | (refine in_x rfl ?_)
    | (refine th_e ?_)
    | (refine th_r ?_)
    | (refine in_r ?_)
    | (refine tri_ret ?_)
    | (refine tri_exit ?_)
    | (refine tri_block ?_)
    | (refine tri_step (id := 0) (C := ⟨[], [], []⟩) [0, 1] [] g25 nodraw ?_; refine ⟨_, by (simp [*, F36, flg]; exact Is.mk), ?_⟩)
    | (refine tri_last (id := 0) (C := ⟨[], [], []⟩) [0, 1] [] g25 nodraw ?_; refine ⟨_, by (simp [*, F36, flg]; exact Is.mk), ?_⟩)
    | (refine tri_step (id := 1) (C := ⟨[], [], []⟩) [4, 5, 6] [] g25 nodraw ?_; refine ⟨_, by (simp [*, F36, flg]; exact Is.mk), ?_⟩)
    | (refine tri_last (id := 1) (C := ⟨[], [], []⟩) [4, 5, 6] [] g25 nodraw ?_; refine ⟨_, by (simp [*, F36, flg]; exact Is.mk), ?_⟩)
    | (refine to_mk (by simp; exact IsK.mk))
    | (refine imp_ ?_)
    | ((simp; exact IsK.mk))
    | (refine tri_seq ?_)
    ))
  all_goals (refine post_plainV (P := Tryd.prog) (fn := Tryd.f25) (by simp; exact IsV.mk) rfl ?_)
  all_goals (first | (simp [F36, flg]; done) | (simp [*, F36, flg]; done) | (simp_all [F36, flg]; done) | (simp [F36, flg] <;> (repeat' split) <;> simp_all; done) | (simp [F36, flg] <;> (repeat' split) <;> simp_all [Bool.and_assoc] <;> grind [List.length_eq_zero_iff, sendCells_co, recvCells_co, pieceCells_co, connCells_co, segCells_co, clockCells_co]))
open Classical in
noncomputable def F25 : Fn1
  | [x0, x1] => (dZ x0).bind fun s => (dZ x1).bind fun t => if one t ∧ s.size ≤ 100000 then some ((.tup [.v (.string (cutZ s t).1), .v (.string (cutZ s t).2.1), .v (.bool (cutZ s t).2.2)]), none) else none
  | _ => none
theorem spec25 : Spec1 Tryd.prog 25 F25 := spec_of fun ys r o h => by
  unfold F25 at h
  split at h
  case h_2 => cases h
  obtain ⟨s, k0, h1⟩ := bind_some h
  obtain ⟨t, k1, h2⟩ := bind_some h1
  obtain ⟨hpre, hz⟩ := ite_some h2
  cases hz
  exact ⟨_, at25 s t hpre, rfl, le_plain ⟨dZ_co k0, ⟨dZ_co k1, trivial⟩⟩ (by simp only [List.all_cons, List.all_nil, Bool.not_false, Bool.and_self, notRefB (dZ_co k0) rfl (by simp), notRefB (dZ_co k1) rfl (by simp)]) rfl⟩
theorem en25 : Enters Tryd.prog 25 := enters_of Tryd.func25 (by kernel_rfl) rfl

end Go.Proofs.YtkmjoppcecffkaaDoor

-- Printed by genwalk.py.
namespace Go.Proofs.YtkmjoppcecffkaaDoor
open Go Go.RowKit Caw
set_option linter.unusedSimpArgs false
set_option linter.unusedVariables false
set_option maxRecDepth 100000

-- strings.genSplit
theorem g37 : GOk1 Tryd.prog (ctxOf [(46, F46), (47, F47)]) := gok_cons spec46 en46 (gok_cons spec47 en47 (gok_nil))
set_option maxHeartbeats 2000000 in
theorem at37 (s : ByteArray) (t : ByteArray) (sv : Int) (n : Int) (hpre : one t ∧ sv = 0 ∧ n = -1 ∧ s.size ≤ 100000) : SpecAt Tryd.prog 37 [.v (.string s), .v (.string t), .v (.int .i64 sv), .v (.int .i64 n)] (.sl 1 (encZ (splitZ s t)) none) none := by
  obtain ⟨hp1, rfl, rfl, hp2⟩ := hpre
  obtain ⟨h1, h2, h3, h4, h5⟩ := gs_facts s t hp2
  have ht := one_size hp1
  have hte := one_ne hp1
  refine specAt_of_tri Tryd.func37 rfl (Nat.le_of_ble_eq_true rfl) ?_
  all_goals (repeat' (first
      | (refine tri_condT (b_true (by simp; with_reducible exact IsB.mk)) ?_)
      | (refine tri_condF (b_true (by simp; with_reducible exact IsB.mk)) ?_)
      | (refine tri_skipT ?_)
      | (refine tri_skip ?_)
      | (refine then_to ?_)
      | (refine th_n ?_)
      | (refine in_n ?_)
      | (refine in_e ?_)
      | (refine in_x rfl ?_)
      | (refine th_e ?_)
      | (refine th_r ?_)
      | (refine in_r ?_)
      | (refine tri_ret ?_)
      | (refine tri_exit ?_)
      | (refine tri_block ?_)
      | (refine tri_step (id := 0) (C := ⟨[], [], []⟩) [0, 1, 2, 3] [] g37 nodraw ?_; refine ⟨_, by (simp [*, F46, F47, -emake, emakeZ_eq, flg]; exact Is.mk), ?_⟩)
      | (refine tri_last (id := 0) (C := ⟨[], [], []⟩) [0, 1, 2, 3] [] g37 nodraw ?_; refine ⟨_, by (simp [*, F46, F47, -emake, emakeZ_eq, flg]; exact Is.mk), ?_⟩)
      | (refine tri_step (id := 1) (C := ⟨[], [], []⟩) [0, 1, 2, 3, 13] [] g37 nodraw ?_; refine ⟨_, by (simp [*, F46, F47, -emake, emakeZ_eq, flg]; exact Is.mk), ?_⟩)
      | (refine tri_last (id := 1) (C := ⟨[], [], []⟩) [0, 1, 2, 3, 13] [] g37 nodraw ?_; refine ⟨_, by (simp [*, F46, F47, -emake, emakeZ_eq, flg]; exact Is.mk), ?_⟩)
      | (refine tri_step (id := 2) (C := ⟨[], [], []⟩) [8] [(32, 0, 0)] g37 nodraw ?_; refine ⟨_, by (simp [*, F46, F47, -emake, emakeZ_eq, flg]; exact Is.mk), ?_⟩)
      | (refine tri_last (id := 2) (C := ⟨[], [], []⟩) [8] [(32, 0, 0)] g37 nodraw ?_; refine ⟨_, by (simp [*, F46, F47, -emake, emakeZ_eq, flg]; exact Is.mk), ?_⟩)
      | (refine tri_step (id := 3) (C := ⟨[], [], []⟩) [0, 1, 2, 3, 15] [] g37 nodraw ?_; refine ⟨_, by (simp [*, F46, F47, -emake, emakeZ_eq, flg]; exact Is.mk), ?_⟩)
      | (refine tri_last (id := 3) (C := ⟨[], [], []⟩) [0, 1, 2, 3, 15] [] g37 nodraw ?_; refine ⟨_, by (simp [*, F46, F47, -emake, emakeZ_eq, flg]; exact Is.mk), ?_⟩)
      | (refine tri_step (id := 4) (C := ⟨[], [], []⟩) [8] [(32, 0, 0)] g37 nodraw ?_; refine ⟨_, by (simp [*, F46, F47, -emake, emakeZ_eq, flg]; exact Is.mk), ?_⟩)
      | (refine tri_last (id := 4) (C := ⟨[], [], []⟩) [8] [(32, 0, 0)] g37 nodraw ?_; refine ⟨_, by (simp [*, F46, F47, -emake, emakeZ_eq, flg]; exact Is.mk), ?_⟩)
      | (refine tri_step (id := 5) (C := ⟨[], [], []⟩) [0, 1, 2, 3, 20] [] g37 nodraw ?_; refine ⟨_, by (simp [*, F46, F47, -emake, emakeZ_eq, flg]; exact Is.mk), ?_⟩)
      | (refine tri_last (id := 5) (C := ⟨[], [], []⟩) [0, 1, 2, 3, 20] [] g37 nodraw ?_; refine ⟨_, by (simp [*, F46, F47, -emake, emakeZ_eq, flg]; exact Is.mk), ?_⟩)
      | (refine tri_step (id := 6) (C := ⟨[], [], []⟩) [0, 1, 2, 3] [] g37 nodraw ?_; refine ⟨_, by (simp [*, F46, F47, -emake, emakeZ_eq, flg]; exact Is.mk), ?_⟩)
      | (refine tri_last (id := 6) (C := ⟨[], [], []⟩) [0, 1, 2, 3] [] g37 nodraw ?_; refine ⟨_, by (simp [*, F46, F47, -emake, emakeZ_eq, flg]; exact Is.mk), ?_⟩)
      | (refine tri_step (id := 7) (C := ⟨[], [], []⟩) [0, 1, 2, 3] [] g37 nodraw ?_; refine ⟨_, by (simp [*, F46, F47, -emake, emakeZ_eq, flg]; exact Is.mk), ?_⟩)
      | (refine tri_last (id := 7) (C := ⟨[], [], []⟩) [0, 1, 2, 3] [] g37 nodraw ?_; refine ⟨_, by (simp [*, F46, F47, -emake, emakeZ_eq, flg]; exact Is.mk), ?_⟩)
      | (refine tri_step (id := 8) (C := ⟨[], [], []⟩) [0, 1, 2, 3, 9] [(32, 0, 0)] g37 nodraw ?_; refine ⟨_, by (simp [*, F46, F47, -emake, emakeZ_eq, flg]; exact Is.mk), ?_⟩)
      | (refine tri_last (id := 8) (C := ⟨[], [], []⟩) [0, 1, 2, 3, 9] [(32, 0, 0)] g37 nodraw ?_; refine ⟨_, by (simp [*, F46, F47, -emake, emakeZ_eq, flg]; exact Is.mk), ?_⟩)
      | (refine tri_step (id := 9) (C := ⟨[], [], []⟩) [0, 1, 2, 3, 9] [(32, 0, 0)] g37 nodraw ?_; refine ⟨_, by (simp [*, F46, F47, -emake, emakeZ_eq, flg]; exact Is.mk), ?_⟩)
      | (refine tri_last (id := 9) (C := ⟨[], [], []⟩) [0, 1, 2, 3, 9] [(32, 0, 0)] g37 nodraw ?_; refine ⟨_, by (simp [*, F46, F47, -emake, emakeZ_eq, flg]; exact Is.mk), ?_⟩)
      | (refine tri_step (id := 10) (C := ⟨[], [], []⟩) [0, 1, 2, 3, 9, 10] [(32, 0, 0)] g37 nodraw ?_; refine ⟨_, by (simp [*, F46, F47, -emake, emakeZ_eq, flg]; exact Is.mk), ?_⟩)
      | (refine tri_last (id := 10) (C := ⟨[], [], []⟩) [0, 1, 2, 3, 9, 10] [(32, 0, 0)] g37 nodraw ?_; refine ⟨_, by (simp [*, F46, F47, -emake, emakeZ_eq, flg]; exact Is.mk), ?_⟩)
      | (refine tri_step (id := 11) (C := ⟨[], [], []⟩) [0, 1, 2, 3, 9, 10, 36] [(32, 0, 0)] g37 nodraw ?_; refine ⟨_, by (simp [*, F46, F47, -emake, emakeZ_eq, flg]; exact Is.mk), ?_⟩)
      | (refine tri_last (id := 11) (C := ⟨[], [], []⟩) [0, 1, 2, 3, 9, 10, 36] [(32, 0, 0)] g37 nodraw ?_; refine ⟨_, by (simp [*, F46, F47, -emake, emakeZ_eq, flg]; exact Is.mk), ?_⟩)
      | (refine tri_step (id := 12) (C := ⟨[], [], []⟩) [0, 1, 2, 3, 9, 10, 11] [(32, 0, 0)] g37 nodraw ?_; refine ⟨_, by (simp [*, F46, F47, -emake, emakeZ_eq, flg]; exact Is.mk), ?_⟩)
      | (refine tri_last (id := 12) (C := ⟨[], [], []⟩) [0, 1, 2, 3, 9, 10, 11] [(32, 0, 0)] g37 nodraw ?_; refine ⟨_, by (simp [*, F46, F47, -emake, emakeZ_eq, flg]; exact Is.mk), ?_⟩)
      | (refine tri_step (id := 13) (C := ⟨[], [], []⟩) [0, 1, 2, 3, 9, 10, 11, 41] [(32, 0, 0)] g37 nodraw ?_; refine ⟨_, by (simp [*, F46, F47, -emake, emakeZ_eq, flg]; exact Is.mk), ?_⟩)
      | (refine tri_last (id := 13) (C := ⟨[], [], []⟩) [0, 1, 2, 3, 9, 10, 11, 41] [(32, 0, 0)] g37 nodraw ?_; refine ⟨_, by (simp [*, F46, F47, -emake, emakeZ_eq, flg]; exact Is.mk), ?_⟩)
      | (refine tri_step (id := 14) (C := ⟨[], [], []⟩) [0, 1, 2, 3, 9, 10, 11] [(32, 0, 0)] g37 nodraw ?_; refine ⟨_, by (simp [*, F46, F47, -emake, emakeZ_eq, flg]; exact Is.mk), ?_⟩)
      | (refine tri_last (id := 14) (C := ⟨[], [], []⟩) [0, 1, 2, 3, 9, 10, 11] [(32, 0, 0)] g37 nodraw ?_; refine ⟨_, by (simp [*, F46, F47, -emake, emakeZ_eq, flg]; exact Is.mk), ?_⟩)
      | (refine tri_step (id := 15) (C := ⟨[], [], []⟩) [0, 1, 2, 3, 9, 10] [(32, 0, 0)] g37 nodraw ?_; refine ⟨_, by (simp [*, F46, F47, -emake, emakeZ_eq, flg]; exact Is.mk), ?_⟩)
      | (refine tri_last (id := 15) (C := ⟨[], [], []⟩) [0, 1, 2, 3, 9, 10] [(32, 0, 0)] g37 nodraw ?_; refine ⟨_, by (simp [*, F46, F47, -emake, emakeZ_eq, flg]; exact Is.mk), ?_⟩)
      | (refine tri_step (id := 16) (C := ⟨[], [], []⟩) [0, 1, 2, 3, 9, 10] [(32, 0, 0)] g37 nodraw ?_; refine ⟨_, by (simp [*, F46, F47, -emake, emakeZ_eq, flg]; exact Is.mk), ?_⟩)
      | (refine tri_last (id := 16) (C := ⟨[], [], []⟩) [0, 1, 2, 3, 9, 10] [(32, 0, 0)] g37 nodraw ?_; refine ⟨_, by (simp [*, F46, F47, -emake, emakeZ_eq, flg]; exact Is.mk), ?_⟩)
      | (refine tri_step (id := 17) (C := ⟨[], [], []⟩) [9, 10] [(32, 0, 0)] g37 nodraw ?_; refine ⟨_, by (simp [*, F46, F47, -emake, emakeZ_eq, flg]; exact Is.mk), ?_⟩)
      | (refine tri_last (id := 17) (C := ⟨[], [], []⟩) [9, 10] [(32, 0, 0)] g37 nodraw ?_; refine ⟨_, by (simp [*, F46, F47, -emake, emakeZ_eq, flg]; exact Is.mk), ?_⟩)
      | (refine tri_stepF (id := 18) (C := ⟨[], [], []⟩) [8] [(32, 0, 0)] (32, 0, 0) g37 nodraw ?_; refine ⟨_, _, (by (simp [*, F46, F47, -emake, emakeZ_eq, flg]); exact IsK.mk), (by (simp [*, F46, F47, -emake, emakeZ_eq, flg]); exact IsK.mk), ?_⟩)
      | (refine tri_lastF (id := 18) (C := ⟨[], [], []⟩) [8] [(32, 0, 0)] (32, 0, 0) g37 nodraw ?_; refine ⟨_, _, (by (simp [*, F46, F47, -emake, emakeZ_eq, flg]); exact IsK.mk), (by (simp [*, F46, F47, -emake, emakeZ_eq, flg]); exact IsK.mk), ?_⟩)
      | (refine tri_cond (c := .tmp 13) (b_true (by simp; exact IsB.mk)) (fun hc => ?_) (fun hc => ?_))
      | (refine tri_cond (c := .tmp 15) (b_true (by simp; exact IsB.mk)) (fun hc => ?_) (fun hc => ?_))
      | (refine tri_cond (c := .tmp 20) (b_true (by simp; exact IsB.mk)) (fun hc => ?_) (fun hc => ?_))
      | (refine tri_cond (c := .tmp 36) (b_true (by simp; exact IsB.mk)) (fun hc => ?_) (fun hc => ?_))
      | (refine tri_cond (c := .tmp 41) (b_true (by simp; exact IsB.mk)) (fun hc => ?_) (fun hc => ?_))
      | (refine to_mk (by simp; exact IsK.mk))
      | (refine imp_ ?_)
      | ((simp; exact IsK.mk))
      | (refine tri_seq ?_)
      ))
  generalize hN : List.count (hd t) (bl s) = N at *
  refine tri_loop (fun n st => ∃ ds r, Sp s t ds r ∧ ds.length ≤ N ∧ n = N - ds.length ∧ st = mkSt [(0, .v (.string (ofL r))), (1, .v (.string t)), (2, .v (.int .i64 0)), (3, .v (.int .i64 N)), (9, .osl (32,0,0) 0 (N + 1) (N + 1)), (10, .v (.int .i64 ds.length))] [((32,0,0), encZ (rowZ ds (N + 1)))]) N _ (le_K (by simp) (by simp [rowZ])) ⟨[], bl s, .start s t, Nat.zero_le _, rfl, rfl⟩ ?_
  clear h1 h2 h3 h4 h5
  rintro n st ⟨ds, r, hl, hd1, hn, rfl⟩
  have hrow := rowZ_len (ds := ds) (n := N + 1) (by omega)
  have hi0 : (0 : Int) ≤ ds.length := by omega
  have hi1 : (ds.length : Int) < N + 1 := by omega
  have hi2 := splice_Z (rowZ ds (N + 1)) ds.length
  by_cases hlt : ds.length < N
  · obtain ⟨m, g1, g2, g3, g4, g5, g6, g7, g8⟩ := hl.next hp2 (by rw [hN]; exact hlt)
    have hi3 := splice_Z (rowZ ds (N + 1)) ds.length (ofL (r.take m)) (by omega)
    rw [rowZ_set (by omega)] at hi3
    have hi4 : IntKind.wrap .i64 ((ds.length : Int) + 1) = (ds.length : Int) + 1 := wrap_i64 (by have := hl.cnt; have := count_facts s t hp2; omega)
    have hlt' : decide ((ds.length : Int) < N) = true := by simp; exact hlt
    clear hi2
    have hm0 := nat_neg m
    all_goals (repeat' (first
      | (refine tri_condT (b_true (by simp; with_reducible exact IsB.mk)) ?_)
      | (refine tri_condF (b_true (by simp; with_reducible exact IsB.mk)) ?_)
      | (refine tri_skipT ?_)
      | (refine tri_skip ?_)
      | (refine then_to ?_)
      | (refine th_n ?_)
      | (refine in_n ?_)
      | (refine in_e ?_)
      | (refine in_x rfl ?_)
      | (refine th_e ?_)
      | (refine th_r ?_)
      | (refine in_r ?_)
      | (refine tri_ret ?_)
      | (refine tri_exit ?_)
      | (refine tri_block ?_)
      | (refine tri_step (id := 0) (C := ⟨[], [], []⟩) [0, 1, 2, 3] [] g37 nodraw ?_; refine ⟨_, by (simp [*, F46, F47, -emake, emakeZ_eq, flg]; exact Is.mk), ?_⟩)
      | (refine tri_last (id := 0) (C := ⟨[], [], []⟩) [0, 1, 2, 3] [] g37 nodraw ?_; refine ⟨_, by (simp [*, F46, F47, -emake, emakeZ_eq, flg]; exact Is.mk), ?_⟩)
      | (refine tri_step (id := 1) (C := ⟨[], [], []⟩) [0, 1, 2, 3, 13] [] g37 nodraw ?_; refine ⟨_, by (simp [*, F46, F47, -emake, emakeZ_eq, flg]; exact Is.mk), ?_⟩)
      | (refine tri_last (id := 1) (C := ⟨[], [], []⟩) [0, 1, 2, 3, 13] [] g37 nodraw ?_; refine ⟨_, by (simp [*, F46, F47, -emake, emakeZ_eq, flg]; exact Is.mk), ?_⟩)
      | (refine tri_step (id := 2) (C := ⟨[], [], []⟩) [8] [(32, 0, 0)] g37 nodraw ?_; refine ⟨_, by (simp [*, F46, F47, -emake, emakeZ_eq, flg]; exact Is.mk), ?_⟩)
      | (refine tri_last (id := 2) (C := ⟨[], [], []⟩) [8] [(32, 0, 0)] g37 nodraw ?_; refine ⟨_, by (simp [*, F46, F47, -emake, emakeZ_eq, flg]; exact Is.mk), ?_⟩)
      | (refine tri_step (id := 3) (C := ⟨[], [], []⟩) [0, 1, 2, 3, 15] [] g37 nodraw ?_; refine ⟨_, by (simp [*, F46, F47, -emake, emakeZ_eq, flg]; exact Is.mk), ?_⟩)
      | (refine tri_last (id := 3) (C := ⟨[], [], []⟩) [0, 1, 2, 3, 15] [] g37 nodraw ?_; refine ⟨_, by (simp [*, F46, F47, -emake, emakeZ_eq, flg]; exact Is.mk), ?_⟩)
      | (refine tri_step (id := 4) (C := ⟨[], [], []⟩) [8] [(32, 0, 0)] g37 nodraw ?_; refine ⟨_, by (simp [*, F46, F47, -emake, emakeZ_eq, flg]; exact Is.mk), ?_⟩)
      | (refine tri_last (id := 4) (C := ⟨[], [], []⟩) [8] [(32, 0, 0)] g37 nodraw ?_; refine ⟨_, by (simp [*, F46, F47, -emake, emakeZ_eq, flg]; exact Is.mk), ?_⟩)
      | (refine tri_step (id := 5) (C := ⟨[], [], []⟩) [0, 1, 2, 3, 20] [] g37 nodraw ?_; refine ⟨_, by (simp [*, F46, F47, -emake, emakeZ_eq, flg]; exact Is.mk), ?_⟩)
      | (refine tri_last (id := 5) (C := ⟨[], [], []⟩) [0, 1, 2, 3, 20] [] g37 nodraw ?_; refine ⟨_, by (simp [*, F46, F47, -emake, emakeZ_eq, flg]; exact Is.mk), ?_⟩)
      | (refine tri_step (id := 6) (C := ⟨[], [], []⟩) [0, 1, 2, 3] [] g37 nodraw ?_; refine ⟨_, by (simp [*, F46, F47, -emake, emakeZ_eq, flg]; exact Is.mk), ?_⟩)
      | (refine tri_last (id := 6) (C := ⟨[], [], []⟩) [0, 1, 2, 3] [] g37 nodraw ?_; refine ⟨_, by (simp [*, F46, F47, -emake, emakeZ_eq, flg]; exact Is.mk), ?_⟩)
      | (refine tri_step (id := 7) (C := ⟨[], [], []⟩) [0, 1, 2, 3] [] g37 nodraw ?_; refine ⟨_, by (simp [*, F46, F47, -emake, emakeZ_eq, flg]; exact Is.mk), ?_⟩)
      | (refine tri_last (id := 7) (C := ⟨[], [], []⟩) [0, 1, 2, 3] [] g37 nodraw ?_; refine ⟨_, by (simp [*, F46, F47, -emake, emakeZ_eq, flg]; exact Is.mk), ?_⟩)
      | (refine tri_step (id := 8) (C := ⟨[], [], []⟩) [0, 1, 2, 3, 9] [(32, 0, 0)] g37 nodraw ?_; refine ⟨_, by (simp [*, F46, F47, -emake, emakeZ_eq, flg]; exact Is.mk), ?_⟩)
      | (refine tri_last (id := 8) (C := ⟨[], [], []⟩) [0, 1, 2, 3, 9] [(32, 0, 0)] g37 nodraw ?_; refine ⟨_, by (simp [*, F46, F47, -emake, emakeZ_eq, flg]; exact Is.mk), ?_⟩)
      | (refine tri_step (id := 9) (C := ⟨[], [], []⟩) [0, 1, 2, 3, 9] [(32, 0, 0)] g37 nodraw ?_; refine ⟨_, by (simp [*, F46, F47, -emake, emakeZ_eq, flg]; exact Is.mk), ?_⟩)
      | (refine tri_last (id := 9) (C := ⟨[], [], []⟩) [0, 1, 2, 3, 9] [(32, 0, 0)] g37 nodraw ?_; refine ⟨_, by (simp [*, F46, F47, -emake, emakeZ_eq, flg]; exact Is.mk), ?_⟩)
      | (refine tri_step (id := 10) (C := ⟨[], [], []⟩) [0, 1, 2, 3, 9, 10] [(32, 0, 0)] g37 nodraw ?_; refine ⟨_, by (simp [*, F46, F47, -emake, emakeZ_eq, flg]; exact Is.mk), ?_⟩)
      | (refine tri_last (id := 10) (C := ⟨[], [], []⟩) [0, 1, 2, 3, 9, 10] [(32, 0, 0)] g37 nodraw ?_; refine ⟨_, by (simp [*, F46, F47, -emake, emakeZ_eq, flg]; exact Is.mk), ?_⟩)
      | (refine tri_step (id := 11) (C := ⟨[], [], []⟩) [0, 1, 2, 3, 9, 10, 36] [(32, 0, 0)] g37 nodraw ?_; refine ⟨_, by (simp [*, F46, F47, -emake, emakeZ_eq, flg]; exact Is.mk), ?_⟩)
      | (refine tri_last (id := 11) (C := ⟨[], [], []⟩) [0, 1, 2, 3, 9, 10, 36] [(32, 0, 0)] g37 nodraw ?_; refine ⟨_, by (simp [*, F46, F47, -emake, emakeZ_eq, flg]; exact Is.mk), ?_⟩)
      | (refine tri_step (id := 12) (C := ⟨[], [], []⟩) [0, 1, 2, 3, 9, 10, 11] [(32, 0, 0)] g37 nodraw ?_; refine ⟨_, by (simp [*, F46, F47, -emake, emakeZ_eq, flg]; exact Is.mk), ?_⟩)
      | (refine tri_last (id := 12) (C := ⟨[], [], []⟩) [0, 1, 2, 3, 9, 10, 11] [(32, 0, 0)] g37 nodraw ?_; refine ⟨_, by (simp [*, F46, F47, -emake, emakeZ_eq, flg]; exact Is.mk), ?_⟩)
      | (refine tri_step (id := 13) (C := ⟨[], [], []⟩) [0, 1, 2, 3, 9, 10, 11, 41] [(32, 0, 0)] g37 nodraw ?_; refine ⟨_, by (simp [*, F46, F47, -emake, emakeZ_eq, flg]; exact Is.mk), ?_⟩)
      | (refine tri_last (id := 13) (C := ⟨[], [], []⟩) [0, 1, 2, 3, 9, 10, 11, 41] [(32, 0, 0)] g37 nodraw ?_; refine ⟨_, by (simp [*, F46, F47, -emake, emakeZ_eq, flg]; exact Is.mk), ?_⟩)
      | (refine tri_step (id := 14) (C := ⟨[], [], []⟩) [0, 1, 2, 3, 9, 10, 11] [(32, 0, 0)] g37 nodraw ?_; refine ⟨_, by (simp [*, F46, F47, -emake, emakeZ_eq, flg]; exact Is.mk), ?_⟩)
      | (refine tri_last (id := 14) (C := ⟨[], [], []⟩) [0, 1, 2, 3, 9, 10, 11] [(32, 0, 0)] g37 nodraw ?_; refine ⟨_, by (simp [*, F46, F47, -emake, emakeZ_eq, flg]; exact Is.mk), ?_⟩)
      | (refine tri_step (id := 15) (C := ⟨[], [], []⟩) [0, 1, 2, 3, 9, 10] [(32, 0, 0)] g37 nodraw ?_; refine ⟨_, by (simp [*, F46, F47, -emake, emakeZ_eq, flg]; exact Is.mk), ?_⟩)
      | (refine tri_last (id := 15) (C := ⟨[], [], []⟩) [0, 1, 2, 3, 9, 10] [(32, 0, 0)] g37 nodraw ?_; refine ⟨_, by (simp [*, F46, F47, -emake, emakeZ_eq, flg]; exact Is.mk), ?_⟩)
      | (refine tri_step (id := 16) (C := ⟨[], [], []⟩) [0, 1, 2, 3, 9, 10] [(32, 0, 0)] g37 nodraw ?_; refine ⟨_, by (simp [*, F46, F47, -emake, emakeZ_eq, flg]; exact Is.mk), ?_⟩)
      | (refine tri_last (id := 16) (C := ⟨[], [], []⟩) [0, 1, 2, 3, 9, 10] [(32, 0, 0)] g37 nodraw ?_; refine ⟨_, by (simp [*, F46, F47, -emake, emakeZ_eq, flg]; exact Is.mk), ?_⟩)
      | (refine tri_step (id := 17) (C := ⟨[], [], []⟩) [9, 10] [(32, 0, 0)] g37 nodraw ?_; refine ⟨_, by (simp [*, F46, F47, -emake, emakeZ_eq, flg]; exact Is.mk), ?_⟩)
      | (refine tri_last (id := 17) (C := ⟨[], [], []⟩) [9, 10] [(32, 0, 0)] g37 nodraw ?_; refine ⟨_, by (simp [*, F46, F47, -emake, emakeZ_eq, flg]; exact Is.mk), ?_⟩)
      | (refine tri_stepF (id := 18) (C := ⟨[], [], []⟩) [8] [(32, 0, 0)] (32, 0, 0) g37 nodraw ?_; refine ⟨_, _, (by (simp [*, F46, F47, -emake, emakeZ_eq, flg]); exact IsK.mk), (by (simp [*, F46, F47, -emake, emakeZ_eq, flg]); exact IsK.mk), ?_⟩)
      | (refine tri_lastF (id := 18) (C := ⟨[], [], []⟩) [8] [(32, 0, 0)] (32, 0, 0) g37 nodraw ?_; refine ⟨_, _, (by (simp [*, F46, F47, -emake, emakeZ_eq, flg]); exact IsK.mk), (by (simp [*, F46, F47, -emake, emakeZ_eq, flg]); exact IsK.mk), ?_⟩)
      | (refine tri_cond (c := .tmp 13) (b_true (by simp; exact IsB.mk)) (fun hc => ?_) (fun hc => ?_))
      | (refine tri_cond (c := .tmp 15) (b_true (by simp; exact IsB.mk)) (fun hc => ?_) (fun hc => ?_))
      | (refine tri_cond (c := .tmp 20) (b_true (by simp; exact IsB.mk)) (fun hc => ?_) (fun hc => ?_))
      | (refine tri_cond (c := .tmp 36) (b_true (by simp; exact IsB.mk)) (fun hc => ?_) (fun hc => ?_))
      | (refine tri_cond (c := .tmp 41) (b_true (by simp; exact IsB.mk)) (fun hc => ?_) (fun hc => ?_))
      | (refine to_mk (by simp; exact IsK.mk))
      | (refine imp_ ?_)
      | ((simp; exact IsK.mk))
      | (refine tri_seq ?_)
      ))
    exact ⟨N - (ds.length + 1), _, by omega, le_K (by simp) (by simp), ds ++ [r.take m], r.drop (m + 1), g8, by simp; omega, by simp, rfl⟩
  · have hlt' : decide ((ds.length : Int) < N) = false := by simp; omega
    have hdN : ds.length = N := by omega
    have hspl : splitZ s t = (ds ++ [r]).map ofL := by unfold splitZ; rw [hl.stop (by omega)]
    have hi3 := splice_Z (rowZ ds (N + 1)) ds.length (ofL r) (by omega)
    rw [rowZ_set (by omega), rowZ_full (ds := ds ++ [r]) (n := N + 1) (by simp; omega), ← hspl] at hi3
    have hlen : (splitZ s t).length = ds.length + 1 := by rw [hspl]; simp
    have hi4 : IntKind.wrap .i64 ((ds.length : Int) + 1) = (ds.length : Int) + 1 := wrap_i64 (by have := hl.cnt; have := count_facts s t hp2; omega)
    clear hi2 hspl
    subst hdN
    all_goals (repeat' (first
      | (refine tri_condT (b_true (by simp; with_reducible exact IsB.mk)) ?_)
      | (refine tri_condF (b_true (by simp; with_reducible exact IsB.mk)) ?_)
      | (refine tri_skipT ?_)
      | (refine tri_skip ?_)
      | (refine then_to ?_)
      | (refine th_n ?_)
      | (refine in_n ?_)
      | (refine in_e ?_)
      | (refine in_x rfl ?_)
      | (refine th_e ?_)
      | (refine th_r ?_)
      | (refine in_r ?_)
      | (refine tri_ret ?_)
      | (refine tri_exit ?_)
      | (refine tri_block ?_)
      | (refine tri_step (id := 0) (C := ⟨[], [], []⟩) [0, 1, 2, 3] [] g37 nodraw ?_; refine ⟨_, by (simp [*, F46, F47, -emake, emakeZ_eq, flg]; exact Is.mk), ?_⟩)
      | (refine tri_last (id := 0) (C := ⟨[], [], []⟩) [0, 1, 2, 3] [] g37 nodraw ?_; refine ⟨_, by (simp [*, F46, F47, -emake, emakeZ_eq, flg]; exact Is.mk), ?_⟩)
      | (refine tri_step (id := 1) (C := ⟨[], [], []⟩) [0, 1, 2, 3, 13] [] g37 nodraw ?_; refine ⟨_, by (simp [*, F46, F47, -emake, emakeZ_eq, flg]; exact Is.mk), ?_⟩)
      | (refine tri_last (id := 1) (C := ⟨[], [], []⟩) [0, 1, 2, 3, 13] [] g37 nodraw ?_; refine ⟨_, by (simp [*, F46, F47, -emake, emakeZ_eq, flg]; exact Is.mk), ?_⟩)
      | (refine tri_step (id := 2) (C := ⟨[], [], []⟩) [8] [(32, 0, 0)] g37 nodraw ?_; refine ⟨_, by (simp [*, F46, F47, -emake, emakeZ_eq, flg]; exact Is.mk), ?_⟩)
      | (refine tri_last (id := 2) (C := ⟨[], [], []⟩) [8] [(32, 0, 0)] g37 nodraw ?_; refine ⟨_, by (simp [*, F46, F47, -emake, emakeZ_eq, flg]; exact Is.mk), ?_⟩)
      | (refine tri_step (id := 3) (C := ⟨[], [], []⟩) [0, 1, 2, 3, 15] [] g37 nodraw ?_; refine ⟨_, by (simp [*, F46, F47, -emake, emakeZ_eq, flg]; exact Is.mk), ?_⟩)
      | (refine tri_last (id := 3) (C := ⟨[], [], []⟩) [0, 1, 2, 3, 15] [] g37 nodraw ?_; refine ⟨_, by (simp [*, F46, F47, -emake, emakeZ_eq, flg]; exact Is.mk), ?_⟩)
      | (refine tri_step (id := 4) (C := ⟨[], [], []⟩) [8] [(32, 0, 0)] g37 nodraw ?_; refine ⟨_, by (simp [*, F46, F47, -emake, emakeZ_eq, flg]; exact Is.mk), ?_⟩)
      | (refine tri_last (id := 4) (C := ⟨[], [], []⟩) [8] [(32, 0, 0)] g37 nodraw ?_; refine ⟨_, by (simp [*, F46, F47, -emake, emakeZ_eq, flg]; exact Is.mk), ?_⟩)
      | (refine tri_step (id := 5) (C := ⟨[], [], []⟩) [0, 1, 2, 3, 20] [] g37 nodraw ?_; refine ⟨_, by (simp [*, F46, F47, -emake, emakeZ_eq, flg]; exact Is.mk), ?_⟩)
      | (refine tri_last (id := 5) (C := ⟨[], [], []⟩) [0, 1, 2, 3, 20] [] g37 nodraw ?_; refine ⟨_, by (simp [*, F46, F47, -emake, emakeZ_eq, flg]; exact Is.mk), ?_⟩)
      | (refine tri_step (id := 6) (C := ⟨[], [], []⟩) [0, 1, 2, 3] [] g37 nodraw ?_; refine ⟨_, by (simp [*, F46, F47, -emake, emakeZ_eq, flg]; exact Is.mk), ?_⟩)
      | (refine tri_last (id := 6) (C := ⟨[], [], []⟩) [0, 1, 2, 3] [] g37 nodraw ?_; refine ⟨_, by (simp [*, F46, F47, -emake, emakeZ_eq, flg]; exact Is.mk), ?_⟩)
      | (refine tri_step (id := 7) (C := ⟨[], [], []⟩) [0, 1, 2, 3] [] g37 nodraw ?_; refine ⟨_, by (simp [*, F46, F47, -emake, emakeZ_eq, flg]; exact Is.mk), ?_⟩)
      | (refine tri_last (id := 7) (C := ⟨[], [], []⟩) [0, 1, 2, 3] [] g37 nodraw ?_; refine ⟨_, by (simp [*, F46, F47, -emake, emakeZ_eq, flg]; exact Is.mk), ?_⟩)
      | (refine tri_step (id := 8) (C := ⟨[], [], []⟩) [0, 1, 2, 3, 9] [(32, 0, 0)] g37 nodraw ?_; refine ⟨_, by (simp [*, F46, F47, -emake, emakeZ_eq, flg]; exact Is.mk), ?_⟩)
      | (refine tri_last (id := 8) (C := ⟨[], [], []⟩) [0, 1, 2, 3, 9] [(32, 0, 0)] g37 nodraw ?_; refine ⟨_, by (simp [*, F46, F47, -emake, emakeZ_eq, flg]; exact Is.mk), ?_⟩)
      | (refine tri_step (id := 9) (C := ⟨[], [], []⟩) [0, 1, 2, 3, 9] [(32, 0, 0)] g37 nodraw ?_; refine ⟨_, by (simp [*, F46, F47, -emake, emakeZ_eq, flg]; exact Is.mk), ?_⟩)
      | (refine tri_last (id := 9) (C := ⟨[], [], []⟩) [0, 1, 2, 3, 9] [(32, 0, 0)] g37 nodraw ?_; refine ⟨_, by (simp [*, F46, F47, -emake, emakeZ_eq, flg]; exact Is.mk), ?_⟩)
      | (refine tri_step (id := 10) (C := ⟨[], [], []⟩) [0, 1, 2, 3, 9, 10] [(32, 0, 0)] g37 nodraw ?_; refine ⟨_, by (simp [*, F46, F47, -emake, emakeZ_eq, flg]; exact Is.mk), ?_⟩)
      | (refine tri_last (id := 10) (C := ⟨[], [], []⟩) [0, 1, 2, 3, 9, 10] [(32, 0, 0)] g37 nodraw ?_; refine ⟨_, by (simp [*, F46, F47, -emake, emakeZ_eq, flg]; exact Is.mk), ?_⟩)
      | (refine tri_step (id := 11) (C := ⟨[], [], []⟩) [0, 1, 2, 3, 9, 10, 36] [(32, 0, 0)] g37 nodraw ?_; refine ⟨_, by (simp [*, F46, F47, -emake, emakeZ_eq, flg]; exact Is.mk), ?_⟩)
      | (refine tri_last (id := 11) (C := ⟨[], [], []⟩) [0, 1, 2, 3, 9, 10, 36] [(32, 0, 0)] g37 nodraw ?_; refine ⟨_, by (simp [*, F46, F47, -emake, emakeZ_eq, flg]; exact Is.mk), ?_⟩)
      | (refine tri_step (id := 12) (C := ⟨[], [], []⟩) [0, 1, 2, 3, 9, 10, 11] [(32, 0, 0)] g37 nodraw ?_; refine ⟨_, by (simp [*, F46, F47, -emake, emakeZ_eq, flg]; exact Is.mk), ?_⟩)
      | (refine tri_last (id := 12) (C := ⟨[], [], []⟩) [0, 1, 2, 3, 9, 10, 11] [(32, 0, 0)] g37 nodraw ?_; refine ⟨_, by (simp [*, F46, F47, -emake, emakeZ_eq, flg]; exact Is.mk), ?_⟩)
      | (refine tri_step (id := 13) (C := ⟨[], [], []⟩) [0, 1, 2, 3, 9, 10, 11, 41] [(32, 0, 0)] g37 nodraw ?_; refine ⟨_, by (simp [*, F46, F47, -emake, emakeZ_eq, flg]; exact Is.mk), ?_⟩)
      | (refine tri_last (id := 13) (C := ⟨[], [], []⟩) [0, 1, 2, 3, 9, 10, 11, 41] [(32, 0, 0)] g37 nodraw ?_; refine ⟨_, by (simp [*, F46, F47, -emake, emakeZ_eq, flg]; exact Is.mk), ?_⟩)
      | (refine tri_step (id := 14) (C := ⟨[], [], []⟩) [0, 1, 2, 3, 9, 10, 11] [(32, 0, 0)] g37 nodraw ?_; refine ⟨_, by (simp [*, F46, F47, -emake, emakeZ_eq, flg]; exact Is.mk), ?_⟩)
      | (refine tri_last (id := 14) (C := ⟨[], [], []⟩) [0, 1, 2, 3, 9, 10, 11] [(32, 0, 0)] g37 nodraw ?_; refine ⟨_, by (simp [*, F46, F47, -emake, emakeZ_eq, flg]; exact Is.mk), ?_⟩)
      | (refine tri_step (id := 15) (C := ⟨[], [], []⟩) [0, 1, 2, 3, 9, 10] [(32, 0, 0)] g37 nodraw ?_; refine ⟨_, by (simp [*, F46, F47, -emake, emakeZ_eq, flg]; exact Is.mk), ?_⟩)
      | (refine tri_last (id := 15) (C := ⟨[], [], []⟩) [0, 1, 2, 3, 9, 10] [(32, 0, 0)] g37 nodraw ?_; refine ⟨_, by (simp [*, F46, F47, -emake, emakeZ_eq, flg]; exact Is.mk), ?_⟩)
      | (refine tri_step (id := 16) (C := ⟨[], [], []⟩) [0, 1, 2, 3, 9, 10] [(32, 0, 0)] g37 nodraw ?_; refine ⟨_, by (simp [*, F46, F47, -emake, emakeZ_eq, flg]; exact Is.mk), ?_⟩)
      | (refine tri_last (id := 16) (C := ⟨[], [], []⟩) [0, 1, 2, 3, 9, 10] [(32, 0, 0)] g37 nodraw ?_; refine ⟨_, by (simp [*, F46, F47, -emake, emakeZ_eq, flg]; exact Is.mk), ?_⟩)
      | (refine tri_step (id := 17) (C := ⟨[], [], []⟩) [9, 10] [(32, 0, 0)] g37 nodraw ?_; refine ⟨_, by (simp [*, F46, F47, -emake, emakeZ_eq, flg]; exact Is.mk), ?_⟩)
      | (refine tri_last (id := 17) (C := ⟨[], [], []⟩) [9, 10] [(32, 0, 0)] g37 nodraw ?_; refine ⟨_, by (simp [*, F46, F47, -emake, emakeZ_eq, flg]; exact Is.mk), ?_⟩)
      | (refine tri_stepF (id := 18) (C := ⟨[], [], []⟩) [8] [(32, 0, 0)] (32, 0, 0) g37 nodraw ?_; refine ⟨_, _, (by (simp [*, F46, F47, -emake, emakeZ_eq, flg]); exact IsK.mk), (by (simp [*, F46, F47, -emake, emakeZ_eq, flg]); exact IsK.mk), ?_⟩)
      | (refine tri_lastF (id := 18) (C := ⟨[], [], []⟩) [8] [(32, 0, 0)] (32, 0, 0) g37 nodraw ?_; refine ⟨_, _, (by (simp [*, F46, F47, -emake, emakeZ_eq, flg]); exact IsK.mk), (by (simp [*, F46, F47, -emake, emakeZ_eq, flg]); exact IsK.mk), ?_⟩)
      | (refine tri_cond (c := .tmp 13) (b_true (by simp; exact IsB.mk)) (fun hc => ?_) (fun hc => ?_))
      | (refine tri_cond (c := .tmp 15) (b_true (by simp; exact IsB.mk)) (fun hc => ?_) (fun hc => ?_))
      | (refine tri_cond (c := .tmp 20) (b_true (by simp; exact IsB.mk)) (fun hc => ?_) (fun hc => ?_))
      | (refine tri_cond (c := .tmp 36) (b_true (by simp; exact IsB.mk)) (fun hc => ?_) (fun hc => ?_))
      | (refine tri_cond (c := .tmp 41) (b_true (by simp; exact IsB.mk)) (fun hc => ?_) (fun hc => ?_))
      | (refine to_mk (by simp; exact IsK.mk))
      | (refine imp_ ?_)
      | ((simp; exact IsK.mk))
      | (refine tri_seq ?_)
      ))
    have htk : (splitZ s t).take (ds.length + 1) = splitZ s t := List.take_of_length_le (by omega)
    all_goals (refine post_plainV (P := Tryd.prog) (fn := Tryd.f37) (by simp; exact IsV.mk) rfl ?_)
    all_goals (simp [htk]; done)
open Classical in
noncomputable def F37 : Fn1
  | [x0, x1, x2, x3] => (dZ x0).bind fun s => (dZ x1).bind fun t => (dI .i64 x2).bind fun sv => (dI .i64 x3).bind fun n => if one t ∧ sv = 0 ∧ n = -1 ∧ s.size ≤ 100000 then some ((.sl 1 (encZ (splitZ s t)) none), none) else none
  | _ => none
theorem spec37 : Spec1 Tryd.prog 37 F37 := spec_of fun ys r o h => by
  unfold F37 at h
  split at h
  case h_2 => cases h
  obtain ⟨s, k0, h1⟩ := bind_some h
  obtain ⟨t, k1, h2⟩ := bind_some h1
  obtain ⟨sv, k2, h3⟩ := bind_some h2
  obtain ⟨n, k3, h4⟩ := bind_some h3
  obtain ⟨hpre, hz⟩ := ite_some h4
  cases hz
  exact ⟨_, at37 s t sv n hpre, rfl, le_plain ⟨dZ_co k0, ⟨dZ_co k1, ⟨dI_co k2, ⟨dI_co k3, trivial⟩⟩⟩⟩ (by simp only [List.all_cons, List.all_nil, Bool.not_false, Bool.and_self, notRefB (dZ_co k0) rfl (by simp), notRefB (dZ_co k1) rfl (by simp), notRefB (dI_co k2) rfl (by simp), notRefB (dI_co k3) rfl (by simp)]) rfl⟩
theorem en37 : Enters Tryd.prog 37 := enters_of Tryd.func37 (by kernel_rfl) rfl

-- strings.Split
theorem g28 : GOk1 Tryd.prog (ctxOf [(37, F37)]) := gok_cons spec37 en37 (gok_nil)
set_option maxHeartbeats 400000 in
theorem at28 (s : ByteArray) (t : ByteArray) (hpre : one t ∧ s.size ≤ 100000) : SpecAt Tryd.prog 28 [.v (.string s), .v (.string t)] (.sl 1 (encZ (splitZ s t)) none) none := by
  all_goals refine specAt_of_tri Tryd.func28 rfl (Nat.le_of_ble_eq_true rfl) ?_
  all_goals (repeat' (first
    | (refine tri_condT (b_true (by simp; with_reducible exact IsB.mk)) ?_)
    | (refine tri_condF (b_true (by simp; with_reducible exact IsB.mk)) ?_)
    | (refine tri_skipT ?_)
    | (refine tri_skip ?_)
    | (refine then_to ?_)
    | (refine th_n ?_)
    | (refine in_n ?_)
    | (refine in_e ?_)
    | (refine in_x rfl ?_)
    | (refine th_e ?_)
    | (refine th_r ?_)
    | (refine in_r ?_)
    | (refine tri_ret ?_)
    | (refine tri_exit ?_)
    | (refine tri_block ?_)
    | (refine tri_step (id := 0) (C := ⟨[], [], []⟩) [0, 1] [] g28 nodraw ?_; refine ⟨_, by (simp [*, F37, flg]; exact Is.mk), ?_⟩)
    | (refine tri_last (id := 0) (C := ⟨[], [], []⟩) [0, 1] [] g28 nodraw ?_; refine ⟨_, by (simp [*, F37, flg]; exact Is.mk), ?_⟩)
    | (refine tri_step (id := 1) (C := ⟨[], [], []⟩) [4] [] g28 nodraw ?_; refine ⟨_, by (simp [*, F37, flg]; exact Is.mk), ?_⟩)
    | (refine tri_last (id := 1) (C := ⟨[], [], []⟩) [4] [] g28 nodraw ?_; refine ⟨_, by (simp [*, F37, flg]; exact Is.mk), ?_⟩)
    | (refine to_mk (by simp; exact IsK.mk))
    | (refine imp_ ?_)
    | ((simp; exact IsK.mk))
    | (refine tri_seq ?_)
    ))
  all_goals (refine post_plainV (P := Tryd.prog) (fn := Tryd.f28) (by simp; exact IsV.mk) rfl ?_)
  all_goals (first | (simp [F37, flg]; done) | (simp [*, F37, flg]; done) | (simp_all [F37, flg]; done) | (simp [F37, flg] <;> (repeat' split) <;> simp_all; done) | (simp [F37, flg] <;> (repeat' split) <;> simp_all [Bool.and_assoc] <;> grind [List.length_eq_zero_iff, sendCells_co, recvCells_co, pieceCells_co, connCells_co, segCells_co, clockCells_co]))
open Classical in
noncomputable def F28 : Fn1
  | [x0, x1] => (dZ x0).bind fun s => (dZ x1).bind fun t => if one t ∧ s.size ≤ 100000 then some ((.sl 1 (encZ (splitZ s t)) none), none) else none
  | _ => none
theorem spec28 : Spec1 Tryd.prog 28 F28 := spec_of fun ys r o h => by
  unfold F28 at h
  split at h
  case h_2 => cases h
  obtain ⟨s, k0, h1⟩ := bind_some h
  obtain ⟨t, k1, h2⟩ := bind_some h1
  obtain ⟨hpre, hz⟩ := ite_some h2
  cases hz
  exact ⟨_, at28 s t hpre, rfl, le_plain ⟨dZ_co k0, ⟨dZ_co k1, trivial⟩⟩ (by simp only [List.all_cons, List.all_nil, Bool.not_false, Bool.and_self, notRefB (dZ_co k0) rfl (by simp), notRefB (dZ_co k1) rfl (by simp)]) rfl⟩
theorem en28 : Enters Tryd.prog 28 := enters_of Tryd.func28 (by kernel_rfl) rfl

end Go.Proofs.YtkmjoppcecffkaaDoor

/-! Reading addresses. -/
set_option linter.unusedVariables false
namespace Caw
open Go Go.RowKit Go.Lib
def num8 (p : ByteArray) : Int := IntKind.wrap .u8 (numberR p 255).1
def nok (p : ByteArray) : Bool := (numberR p 255).2
def ip0 : Ip := ⟨0, 0, 0, 0⟩
/-- The first i bytes are read. -/
def ipPart (p q r t : ByteArray) : Nat → Ip
  | 0 => ⟨0, 0, 0, 0⟩
  | 1 => ⟨num8 p, 0, 0, 0⟩
  | 2 => ⟨num8 p, num8 q, 0, 0⟩
  | 3 => ⟨num8 p, num8 q, num8 r, 0⟩
  | _ => ⟨num8 p, num8 q, num8 r, num8 t⟩
def restOk (p q r t : ByteArray) : Nat → Bool
  | 0 => nok p && nok q && nok r && nok t
  | 1 => nok q && nok r && nok t
  | 2 => nok r && nok t
  | 3 => nok t
  | _ => true
def readF (p q r t : ByteArray) (i : Nat) : Ip × Int := if restOk p q r t i = true then (ipPart p q r t 4, 0) else (ip0, 7)
def readIP (s : ByteArray) : Ip × Int :=
  match splitZ s ⟨#[46]⟩ with
  | [p, q, r, t] => readF p q r t 0
  | _ => (ip0, 7)
theorem four {α : Type} (l : List α) : (∃ p q r t, l = [p, q, r, t]) ∨ l.length ≠ 4 := by
  rcases l with _ | ⟨p, _ | ⟨q, _ | ⟨r, _ | ⟨t, _ | ⟨u, l⟩⟩⟩⟩⟩ <;> simp
theorem readIP_short {s : ByteArray} (h : (splitZ s ⟨#[46]⟩).length ≠ 4) : readIP s = (ip0, 7) := by
  unfold readIP
  split
  · rename_i e; rw [e] at h; exact absurd rfl h
  · rfl
theorem readIP_four {s p q r t : ByteArray} (h : splitZ s ⟨#[46]⟩ = [p, q, r, t]) : readIP s = readF p q r t 0 := by
  unfold readIP
  rw [h]
end Caw
namespace Caw
open Go Go.RowKit Go.Lib
theorem cut_size (s t : ByteArray) (h : s.size ≤ 100000) : (cutZ s t).1.size ≤ 100000 := by
  unfold cutZ
  split
  · have := bl_len s
    simp; omega
  · exact h
def addr0 : Addr := ⟨0, 0, 0, 0, 0⟩
def readOk (s : ByteArray) : Bool := (cutZ s ⟨#[58]⟩).2.2 && (readIP (cutZ s ⟨#[58]⟩).1).2 == 0 && (numberR (cutZ s ⟨#[58]⟩).2.1 65535).2
def readA (s : ByteArray) : Addr × Int :=
  if readOk s = true then (let a := (readIP (cutZ s ⟨#[58]⟩).1).1
    (⟨a.a, a.b, a.c, a.d, IntKind.wrap .u16 (numberR (cutZ s ⟨#[58]⟩).2.1 65535).1⟩, 0)) else (addr0, 7)
end Caw

