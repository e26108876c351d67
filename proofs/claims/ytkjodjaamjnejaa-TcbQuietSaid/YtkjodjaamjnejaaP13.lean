import Derived.Test.YtkjodjaamjnejaaP10
import Derived.Test.YtkjodjaamjnejaaK9
import Derived.Test.YtkjodjaamjnejaaP11
import Derived.Test.YtkjodjaamjnejaaP12
import Derived.Test.YtkjodjaamjnejaaP8
import Derived.Test.YtkjodjaamjnejaaP9
set_option linter.all false
-- Printed by genwalk.py.
namespace Go.Proofs.Ytkjodjaamjnejaa
open Go Go.RowKit Caw
set_option linter.unusedSimpArgs false
set_option linter.unusedVariables false
set_option maxRecDepth 100000

-- caravel/caravellaw19.fits
set_option maxHeartbeats 400000 in
theorem at16 (l : List Stp) (hpre : l.length ≤ 9223372036854775807) : SpecAt Try.prog 16 [.sl 5 (encS stpCells l) none] (.v (.bool (fitsL l))) none := by
  refine specAt_of_tri Try.func16 rfl (Nat.le_of_ble_eq_true rfl) ?_
  all_goals (repeat' (first
      | (refine tri_block ?_)
      | (refine tri_step (id := 0) (C := ⟨[], [], []⟩) [0] [] gok_nil nodraw ?_; refine ⟨_, by (simp [*, flg]; exact Is.mk), ?_⟩)
      | (refine tri_step (id := 1) (C := ⟨[], [], []⟩) [0, 5, 6, 7] [] gok_nil nodraw ?_; refine ⟨_, by (simp [*, flg]; exact Is.mk), ?_⟩)
      | (refine tri_seq ?_)
      ))
  refine tri_loop (fun n s => ∃ i d r, At l d r i ∧ n = r.length ∧ fitsL l = (r.all (fun x => decide ((x.data.length : Int) ≤ 300)) && decide ((l.length : Int) ≤ 80)) ∧ s = mkSt [(0, .sl 5 (encS stpCells l) none), (5, .sl 5 (encS stpCells l) none), (6, .v (.int .i64 l.length)), (7, .v (.int .i64 i))] []) l.length _ (Le.refl _) ⟨0, [], l, .start _, rfl, rfl, rfl⟩ ?_
  rintro n s ⟨i, d, r, hl, hn, hx, rfl⟩
  cases r with
  | nil =>
    have hlt := hl.ge
    all_goals (repeat' (first
      | (refine tri_condF (b_true (by simp; with_reducible exact IsB.mk)) ?_)
      | (refine th_n ?_)
      | (refine in_e ?_)
      | (refine th_e ?_)
      | (refine tri_ret ?_)
      | (refine tri_exit ?_)
      | (refine tri_step (id := 2) (C := ⟨[], [], []⟩) [0, 5, 6, 7, 8] [] gok_nil nodraw ?_; refine ⟨_, by (simp [*, flg]; exact Is.mk), ?_⟩)
      | (refine tri_step (id := 7) (C := ⟨[], [], []⟩) [2] [] gok_nil nodraw ?_; refine ⟨_, by (simp [*, flg]; exact Is.mk), ?_⟩)
      | (refine tri_seq ?_)
      ))
    all_goals (refine post_plainV (P := Try.prog) (fn := Try.f16) (by simp; exact IsV.mk) rfl ?_)
    all_goals (first | (simp [hx]; done) | (simp at hc; simp [hx, hc]; done) | (simp at hc; simp [hx]; omega) | trace_state)
  | cons x r =>
    have hlt := hl.lt
    have hget := hl.get
    have hw := hl.wi2 hpre
    simp only [List.all_cons] at hx
    all_goals (repeat' (first
      | (refine tri_condT (b_true (by simp; with_reducible exact IsB.mk)) ?_)
      | (refine tri_skipT ?_)
      | (refine tri_skip ?_)
      | (refine th_n ?_)
      | (refine in_n ?_)
      | (refine th_r ?_)
      | (refine in_r ?_)
      | (refine tri_ret ?_)
      | (refine tri_block ?_)
      | (refine tri_step (id := 2) (C := ⟨[], [], []⟩) [0, 5, 6, 7, 8] [] gok_nil nodraw ?_; refine ⟨_, by (simp [*, flg]; exact Is.mk), ?_⟩)
      | (refine tri_step (id := 3) (C := ⟨[], [], []⟩) [0, 4, 5, 6, 7] [(5, 0, 0)] gok_nil nodraw ?_; refine ⟨_, by (simp [*, flg]; exact Is.mk), ?_⟩)
      | (refine tri_step (id := 4) (C := ⟨[], [], []⟩) [0, 5, 6, 7, 14] [] gok_nil nodraw ?_; refine ⟨_, by (simp [*, flg]; exact Is.mk), ?_⟩)
      | (refine tri_step (id := 5) (C := ⟨[], [], []⟩) [2] [] gok_nil nodraw ?_; refine ⟨_, by (simp [*, flg]; exact Is.mk), ?_⟩)
      | (refine tri_last (id := 6) (C := ⟨[], [], []⟩) [0, 5, 6, 7] [] gok_nil nodraw ?_; refine ⟨_, by (simp [*, flg]; exact Is.mk), ?_⟩)
      | (refine tri_cond (c := .tmp 14) (b_true (by simp; exact IsB.mk)) (fun hc => ?_) (fun hc => ?_))
      | (refine tri_seq ?_)
      ))
    any_goals (refine ⟨r.length, _, by simp [hn], Le.refl _, i + 1, d ++ [x], r, hl.next, rfl, ?_, rfl⟩)
    any_goals (rw [hx]; clear hx; simp at hc; simp [hc]; done)
    all_goals (refine post_plainV (P := Try.prog) (fn := Try.f16) (by simp; exact IsV.mk) rfl ?_)
    all_goals (first | (simp [hx]; done) | (simp at hc; simp [hx, hc]; done) | (simp at hc; simp [hx]; omega) | trace_state)
open Classical in
noncomputable def F16 : Fn1
  | [x0] => (decS 5 pStp stpCells x0).bind fun l => if l.length ≤ 9223372036854775807 then some ((.v (.bool (fitsL l))), none) else none
  | _ => none
theorem spec16 : Spec1 Try.prog 16 F16 := spec_of fun ys r o h => by
  unfold F16 at h
  split at h
  case h_2 => cases h
  obtain ⟨l, k0, h1⟩ := bind_some h
  obtain ⟨hpre, hz⟩ := ite_some h1
  cases hz
  exact ⟨_, at16 l hpre, rfl, le_plain ⟨decS_coA k0, trivial⟩ (by simp only [List.all_cons, List.all_nil, Bool.not_false, Bool.and_self, notRefB (decS_coA k0) rfl (by simp)]) rfl⟩
theorem en16 : Enters Try.prog 16 := enters_of Try.func16 (by kernel_rfl) (by kernel_rfl)

end Go.Proofs.Ytkjodjaamjnejaa

-- Printed by genwalk.py.
namespace Go.Proofs.Ytkjodjaamjnejaa
open Go Go.RowKit Caw
set_option linter.unusedSimpArgs false
set_option linter.unusedVariables false
set_option maxRecDepth 100000

-- (*caravel/caravellaw19.talk).sends
set_option maxHeartbeats 400000 in
theorem at37 (t0 : Caw.Talk) (side : Int) (l : List Seg) (hpre : sendsPre side t0 l) : SpecAt Try.prog 37 [.ref (talkCells t0), .v (.int .i64 side), .sl 8 (encS segCells l) none] (.tup []) (some (talkCells (sends side t0 l))) := by
  have hp := hpre
  obtain ⟨hp1, -⟩ := hp
  rcases hp1 with rfl | rfl
  · exact at37a t0 l hpre
  · exact at37b t0 l hpre
open Classical in
noncomputable def F37 : Fn1
  | [x0, x1, x2] => ((dR x0).bind (wholeC pTalk)).bind fun t0 => (dI .i64 x1).bind fun side => (decS 8 pSeg segCells x2).bind fun l => if sendsPre side t0 l then some ((.tup []), (some (talkCells (sends side t0 l)))) else none
  | _ => none
theorem spec37 : Spec1 Try.prog 37 F37 := spec_of fun ys r o h => by
  unfold F37 at h
  split at h
  case h_2 => cases h
  obtain ⟨t0, k0, h1⟩ := bind_some h
  obtain ⟨cs0, kk0, j0⟩ := bind_some k0
  have e0 := dR_eq kk0
  subst e0
  obtain ⟨side, k1, h2⟩ := bind_some h1
  obtain ⟨l, k2, h3⟩ := bind_some h2
  obtain ⟨hpre, hz⟩ := ite_some h3
  cases hz
  exact ⟨_, at37 t0 side l hpre, rfl, le_ref (fun s s2 hG => wholeC_coR (Snd.coR pTalk_snd) j0 s s2 hG) ⟨dI_co k1, ⟨decS_coA k2, trivial⟩⟩⟩
theorem en37 : Enters Try.prog 37 := enters_of Try.func37 (by kernel_rfl) (by kernel_rfl)

end Go.Proofs.Ytkjodjaamjnejaa

-- Printed by genwalk.py.
namespace Go.Proofs.Ytkjodjaamjnejaa
open Go Go.RowKit Caw
set_option linter.unusedSimpArgs false
set_option linter.unusedVariables false
set_option maxRecDepth 100000

-- (*caravel/caravellaw19.talk).comes
theorem g14 : GOk1 Try.prog (ctxOf [(34, F34), (36, F36), (23, F23), (37, F37)]) := gok_cons spec34 en34 (gok_cons spec36 en36 (gok_cons spec23 en23 (gok_cons spec37 en37 (gok_nil))))
set_option maxHeartbeats 2000000 in
theorem at14 (t0 : Caw.Talk) (side : Int) (s : Caw.Seg) (hpre : comesPre t0 side s) : SpecAt Try.prog 14 [.ref (talkCells t0), .v (.int .i64 side), .agg (segCells s)] (.tup []) (some (talkCells (comes t0 side s))) := by
  rcases hpre with ⟨rfl, h1, h2⟩ | ⟨rfl, h1, h2, h3⟩ | ⟨rfl, h1, h2⟩ | ⟨rfl, h1, h2, h3⟩
  all_goals (try simp only [h1] at h3)
  all_goals (try have h5 := beq_no h2)
  all_goals refine specAt_of_tri Try.func14 rfl (Nat.le_of_ble_eq_true rfl) ?_
  all_goals (repeat' (first
    | (refine tri_condT (b_true (by simp; with_reducible exact IsB.mk)) ?_)
    | (refine tri_condF (b_true (by simp; with_reducible exact IsB.mk)) ?_)
    | (refine tri_skipT ?_)
    | (refine th_n ?_)
    | (refine th_r ?_)
    | (refine tri_ret ?_)
    | (refine tri_step (id := 0) (C := ⟨[5], [37], [(5, (6, 0, 0)), (6, (7, 0, 0)), (7, (8, 0, 0)), (8, (9, 0, 0)), (10, (11, 0, 0)), (36, (0, 1, 0)), (40, (0, 1, 0)), (50, (0, 1, 0)), (53, (0, 1, 0)), (62, (0, 1, 0)), (67, (0, 1, 0)), (77, (0, 1, 0))]⟩) [0, 1, 5] [(0, 1, 0)] g14 nodraw ?_; refine ⟨_, by (simp [*, F34, F36, F23, F37, flg]; exact Is.mk), ?_⟩)
    | (refine tri_step (id := 1) (C := ⟨[5], [37], [(5, (6, 0, 0)), (6, (7, 0, 0)), (7, (8, 0, 0)), (8, (9, 0, 0)), (10, (11, 0, 0)), (36, (0, 1, 0)), (40, (0, 1, 0)), (50, (0, 1, 0)), (53, (0, 1, 0)), (62, (0, 1, 0)), (67, (0, 1, 0)), (77, (0, 1, 0))]⟩) [0, 1, 5, 6, 7] [(0, 1, 0), (7, 0, 0), (8, 0, 0)] g14 nodraw ?_; refine ⟨_, by (simp [*, F34, F36, F23, F37, flg]; exact Is.mk), ?_⟩)
    | (refine tri_stepG (id := 2) (C := ⟨[5], [37], [(5, (6, 0, 0)), (6, (7, 0, 0)), (7, (8, 0, 0)), (8, (9, 0, 0)), (10, (11, 0, 0)), (36, (0, 1, 0)), (40, (0, 1, 0)), (50, (0, 1, 0)), (53, (0, 1, 0)), (62, (0, 1, 0)), (67, (0, 1, 0)), (77, (0, 1, 0))]⟩) [0, 1, 5, 6, 7, 25] [(0, 1, 0), (7, 0, 0), (8, 0, 0)] g14 nodraw ?_; refine ⟨_, (by repeat' (first | refine go_T ?_ | refine go_F ?_ | apply go_S | (refine run_go 0 3 18 (by simp [*, F34, F36, F23, F37, flg]; exact Is.mk) (by simp [*]; exact IsB.mk) ?_) | (simp [*, F34, F36, F23, F37, flg]; exact IsK.mk))), ?_⟩)
    | (refine tri_step (id := 3) (C := ⟨[5], [37], [(5, (6, 0, 0)), (6, (7, 0, 0)), (7, (8, 0, 0)), (8, (9, 0, 0)), (10, (11, 0, 0)), (36, (0, 1, 0)), (40, (0, 1, 0)), (50, (0, 1, 0)), (53, (0, 1, 0)), (62, (0, 1, 0)), (67, (0, 1, 0)), (77, (0, 1, 0))]⟩) [0, 5, 6, 7, 28] [(0, 1, 0), (7, 0, 0), (8, 0, 0)] g14 nodraw ?_; refine ⟨_, by (simp [*, F34, F36, F23, F37, flg]; exact Is.mk), ?_⟩)
    | (refine tri_step (id := 4) (C := ⟨[5], [37], [(5, (6, 0, 0)), (6, (7, 0, 0)), (7, (8, 0, 0)), (8, (9, 0, 0)), (10, (11, 0, 0)), (36, (0, 1, 0)), (40, (0, 1, 0)), (50, (0, 1, 0)), (53, (0, 1, 0)), (62, (0, 1, 0)), (67, (0, 1, 0)), (77, (0, 1, 0))]⟩) [0, 8, 9] [(0, 1, 0), (9, 0, 0)] g14 (fun _ => ⟨q_mixed, by kernel_rfl⟩) ?_; refine ⟨_, by (simp [*, F34, F36, F23, F37, flg]; exact Is.mk), ?_⟩)
    | (refine tri_step (id := 5) (C := ⟨[5], [37], [(5, (6, 0, 0)), (6, (7, 0, 0)), (7, (8, 0, 0)), (8, (9, 0, 0)), (10, (11, 0, 0)), (36, (0, 1, 0)), (40, (0, 1, 0)), (50, (0, 1, 0)), (53, (0, 1, 0)), (62, (0, 1, 0)), (67, (0, 1, 0)), (77, (0, 1, 0))]⟩) [0, 9] [(0, 1, 0)] g14 (fun _ => ⟨q_mixed, by kernel_rfl⟩) ?_; refine ⟨_, by (simp [*, F34, F36, F23, F37, flg]; exact Is.mk), ?_⟩)
    | (refine tri_last (id := 6) (C := ⟨[5], [37], [(5, (6, 0, 0)), (6, (7, 0, 0)), (7, (8, 0, 0)), (8, (9, 0, 0)), (10, (11, 0, 0)), (36, (0, 1, 0)), (40, (0, 1, 0)), (50, (0, 1, 0)), (53, (0, 1, 0)), (62, (0, 1, 0)), (67, (0, 1, 0)), (77, (0, 1, 0))]⟩) [] [(0, 1, 0)] g14 nodraw ?_; refine ⟨_, by (simp [*, F34, F36, F23, F37, flg]; exact Is.mk), ?_⟩)
    | (refine tri_step (id := 7) (C := ⟨[5], [37], [(5, (6, 0, 0)), (6, (7, 0, 0)), (7, (8, 0, 0)), (8, (9, 0, 0)), (10, (11, 0, 0)), (36, (0, 1, 0)), (40, (0, 1, 0)), (50, (0, 1, 0)), (53, (0, 1, 0)), (62, (0, 1, 0)), (67, (0, 1, 0)), (77, (0, 1, 0))]⟩) [0, 1, 10, 11] [(0, 1, 0), (11, 0, 0)] g14 (fun _ => ⟨q_mixed, by kernel_rfl⟩) ?_; refine ⟨_, by (simp [*, F34, F36, F23, F37, flg]; exact Is.mk), ?_⟩)
    | (refine tri_step (id := 8) (C := ⟨[5], [37], [(5, (6, 0, 0)), (6, (7, 0, 0)), (7, (8, 0, 0)), (8, (9, 0, 0)), (10, (11, 0, 0)), (36, (0, 1, 0)), (40, (0, 1, 0)), (50, (0, 1, 0)), (53, (0, 1, 0)), (62, (0, 1, 0)), (67, (0, 1, 0)), (77, (0, 1, 0))]⟩) [0, 1, 11] [(0, 1, 0)] g14 (fun _ => ⟨q_mixed, by kernel_rfl⟩) ?_; refine ⟨_, by (simp [*, F34, F36, F23, F37, flg]; exact Is.mk), ?_⟩)
    | (refine tri_last (id := 9) (C := ⟨[5], [37], [(5, (6, 0, 0)), (6, (7, 0, 0)), (7, (8, 0, 0)), (8, (9, 0, 0)), (10, (11, 0, 0)), (36, (0, 1, 0)), (40, (0, 1, 0)), (50, (0, 1, 0)), (53, (0, 1, 0)), (62, (0, 1, 0)), (67, (0, 1, 0)), (77, (0, 1, 0))]⟩) [] [(0, 1, 0)] g14 nodraw ?_; refine ⟨_, by (simp [*, F34, F36, F23, F37, flg]; exact Is.mk), ?_⟩)
    | (refine tri_seq ?_)
    ))
  all_goals (refine post_obj [] trivial _ rfl rfl (by simp) rfl ?_)
  all_goals (rw [talkCells_name])
  all_goals (refine talkCells_coE ?_)
  all_goals (first | (simp [comes]; done) | (simp [*, comes]; done) | (simp_all [comes]; done) | trace_state)
open Classical in
noncomputable def F14 : Fn1
  | [x0, x1, x2] => ((dR x0).bind (wholeC pTalk)).bind fun t0 => (dI .i64 x1).bind fun side => (whole pSeg x2).bind fun s => if comesPre t0 side s then some ((.tup []), (some (talkCells (comes t0 side s)))) else none
  | _ => none
theorem spec14 : Spec1 Try.prog 14 F14 := spec_of fun ys r o h => by
  unfold F14 at h
  split at h
  case h_2 => cases h
  obtain ⟨t0, k0, h1⟩ := bind_some h
  obtain ⟨cs0, kk0, j0⟩ := bind_some k0
  have e0 := dR_eq kk0
  subst e0
  obtain ⟨side, k1, h2⟩ := bind_some h1
  obtain ⟨s, k2, h3⟩ := bind_some h2
  obtain ⟨hpre, hz⟩ := ite_some h3
  cases hz
  exact ⟨_, at14 t0 side s hpre, rfl, le_ref (fun s s2 hG => wholeC_coR (Snd.coR pTalk_snd) j0 s s2 hG) ⟨dI_co k1, ⟨whole_co pSeg_snd k2, trivial⟩⟩⟩
theorem en14 : Enters Try.prog 14 := enters_of Try.func14 (by kernel_rfl) (by kernel_rfl)

end Go.Proofs.Ytkjodjaamjnejaa

-- Printed by genwalk.py.
namespace Go.Proofs.Ytkjodjaamjnejaa
open Go Go.RowKit Caw
set_option linter.unusedSimpArgs false
set_option linter.unusedVariables false
set_option maxRecDepth 100000

-- (*caravel/caravellaw19.talk).writes
theorem g13 : GOk1 Try.prog (ctxOf [(32, F32), (37, F37)]) := gok_cons spec32 en32 (gok_cons spec37 en37 (gok_nil))
set_option maxHeartbeats 2000000 in
theorem at13 (t0 : Caw.Talk) (side : Int) (d : List Int) (hpre : writesPre t0 side d) : SpecAt Try.prog 13 [.ref (talkCells t0), .v (.int .i64 side), .sl 1 (encB d) none] (.tup []) (some (talkCells (writes t0 side d))) := by
  rcases hpre with ⟨rfl, h1⟩ | ⟨rfl, h1⟩ | ⟨rfl, h1, ⟨h0, h00⟩, h2, h3, h4⟩ | ⟨rfl, h1, ⟨h0, h00⟩, h2, h3, h4⟩
  all_goals (try obtain ⟨w1, w2, w3⟩ := h3)
  all_goals (try have w4 := lt_of_lt w1)
  all_goals (try have w5 := lt_of_lt w2)
  all_goals (try have w8 := wrote_fit _ d (epWrite t0.c0 d t0.now).2.1.toNat h0 h00)
  all_goals (try have w9 := wrote_fit _ d (epWrite t0.c1 d t0.now).2.1.toNat h0 h00)
  all_goals (try simp only [write0, write1, bytesS, List.map_take, h1] at h4)
  all_goals (try rcases w3 with w3 | ⟨w3, w6⟩)
  all_goals (try have w7 := bne_true w3)
  all_goals (try have w7 := bne_false w6)
  all_goals (try clear w6)
  all_goals refine specAt_of_tri Try.func13 rfl (Nat.le_of_ble_eq_true rfl) ?_
  all_goals (repeat' (first
    | (refine tri_condT (b_true (by simp; with_reducible exact IsB.mk)) ?_)
    | (refine tri_condF (b_true (by simp; with_reducible exact IsB.mk)) ?_)
    | (refine tri_skipT ?_)
    | (refine th_r ?_)
    | (refine tri_ret ?_)
    | (refine tri_step (id := 0) (C := ⟨[], [37], [(6, (7, 0, 0)), (22, (0, 1, 0)), (27, (0, 1, 0)), (39, (0, 1, 0)), (63, (0, 1, 0)), (72, (0, 1, 0))]⟩) [0, 1, 2, 16] [(0, 1, 0)] g13 nodraw ?_; refine ⟨_, by (simp [*, F32, F37, flg]; exact Is.mk), ?_⟩)
    | (refine tri_step (id := 1) (C := ⟨[], [37], [(6, (7, 0, 0)), (22, (0, 1, 0)), (27, (0, 1, 0)), (39, (0, 1, 0)), (63, (0, 1, 0)), (72, (0, 1, 0))]⟩) [0, 1, 2, 6, 7, 8, 9] [(0, 1, 0), (7, 0, 0)] g13 (fun _ => ⟨q_mixed, by kernel_rfl⟩) ?_; refine ⟨_, by (simp [*, F32, F37, flg]; exact Is.mk), ?_⟩)
    | (refine tri_step (id := 2) (C := ⟨[], [37], [(6, (7, 0, 0)), (22, (0, 1, 0)), (27, (0, 1, 0)), (39, (0, 1, 0)), (63, (0, 1, 0)), (72, (0, 1, 0))]⟩) [0, 1, 2, 7, 8, 9] [(0, 1, 0)] g13 (fun _ => ⟨q_mixed, by kernel_rfl⟩) ?_; refine ⟨_, by (simp [*, F32, F37, flg]; exact Is.mk), ?_⟩)
    | (refine tri_step (id := 3) (C := ⟨[], [37], [(6, (7, 0, 0)), (22, (0, 1, 0)), (27, (0, 1, 0)), (39, (0, 1, 0)), (63, (0, 1, 0)), (72, (0, 1, 0))]⟩) [0, 1, 2, 7, 8, 55] [(0, 1, 0)] g13 nodraw ?_; refine ⟨_, by (simp [*, F32, F37, flg]; exact Is.mk), ?_⟩)
    | (refine tri_step (id := 5) (C := ⟨[], [37], [(6, (7, 0, 0)), (22, (0, 1, 0)), (27, (0, 1, 0)), (39, (0, 1, 0)), (63, (0, 1, 0)), (72, (0, 1, 0))]⟩) [0, 1, 8] [(0, 1, 0)] g13 (fun _ => ⟨q_mixed, by kernel_rfl⟩) ?_; refine ⟨_, by (simp [*, F32, F37, flg]; exact Is.mk), ?_⟩)
    | (refine tri_last (id := 6) (C := ⟨[], [37], [(6, (7, 0, 0)), (22, (0, 1, 0)), (27, (0, 1, 0)), (39, (0, 1, 0)), (63, (0, 1, 0)), (72, (0, 1, 0))]⟩) [] [(0, 1, 0)] g13 nodraw ?_; refine ⟨_, by (simp [*, F32, F37, flg]; exact Is.mk), ?_⟩)
    | (refine tri_seq ?_)
    ))
  all_goals (refine post_obj [] trivial _ rfl rfl (by simp) rfl ?_)
  all_goals (rw [talkCells_name])
  all_goals (refine talkCells_coE ?_)
  all_goals (first | (simp [writes, write0, write1, bytesS, List.map_take]; done) | (simp [*, writes, write0, write1, bytesS, List.map_take]; done) | (simp_all [writes, write0, write1, bytesS, List.map_take]; done) | trace_state)
open Classical in
noncomputable def F13 : Fn1
  | [x0, x1, x2] => ((dR x0).bind (wholeC pTalk)).bind fun t0 => (dI .i64 x1).bind fun side => (decB x2).bind fun d => if writesPre t0 side d then some ((.tup []), (some (talkCells (writes t0 side d)))) else none
  | _ => none
theorem spec13 : Spec1 Try.prog 13 F13 := spec_of fun ys r o h => by
  unfold F13 at h
  split at h
  case h_2 => cases h
  obtain ⟨t0, k0, h1⟩ := bind_some h
  obtain ⟨cs0, kk0, j0⟩ := bind_some k0
  have e0 := dR_eq kk0
  subst e0
  obtain ⟨side, k1, h2⟩ := bind_some h1
  obtain ⟨d, k2, h3⟩ := bind_some h2
  obtain ⟨hpre, hz⟩ := ite_some h3
  cases hz
  exact ⟨_, at13 t0 side d hpre, rfl, le_ref (fun s s2 hG => wholeC_coR (Snd.coR pTalk_snd) j0 s s2 hG) ⟨dI_co k1, ⟨decB_coA k2, trivial⟩⟩⟩
theorem en13 : Enters Try.prog 13 := enters_of Try.func13 (by kernel_rfl) (by kernel_rfl)

end Go.Proofs.Ytkjodjaamjnejaa

-- Printed by genwalk.py.
namespace Go.Proofs.Ytkjodjaamjnejaa
open Go Go.RowKit Caw
set_option linter.unusedSimpArgs false
set_option linter.unusedVariables false
set_option maxRecDepth 100000

-- (*caravel/caravellaw19.talk).ticks
theorem g38 : GOk1 Try.prog (ctxOf [(30, F30), (37, F37)]) := gok_cons spec30 en30 (gok_cons spec37 en37 (gok_nil))
set_option maxHeartbeats 2000000 in
theorem at38 (t0 : Caw.Talk) (n : Int) (hpre : ticksPre t0 n) : SpecAt Try.prog 38 [.ref (talkCells t0), .v (.int .u64 n)] (.tup []) (some (talkCells (ticks t0 n))) := by
  obtain ⟨hp0, hp1⟩ := hpre
  refine specAt_of_tri Try.func38 rfl (Nat.le_of_ble_eq_true rfl) ?_
  all_goals (repeat' (first
      | (refine tri_block ?_)
      | (refine tri_step (id := 0) (C := ⟨[], [37], [(5, (6, 0, 0)), (29, (0, 1, 0)), (33, (0, 1, 0)), (43, (0, 1, 0))]⟩) [0] [(0, 1, 0)] g38 nodraw ?_; refine ⟨_, by (simp [*, F30, F37, flg]; exact Is.mk), ?_⟩)
      | (refine tri_step (id := 1) (C := ⟨[], [37], [(5, (6, 0, 0)), (29, (0, 1, 0)), (33, (0, 1, 0)), (43, (0, 1, 0))]⟩) [0, 15] [(0, 1, 0)] g38 nodraw ?_; refine ⟨_, by (simp [*, F30, F37, flg]; exact Is.mk), ?_⟩)
      ))
  refine tri_loop (fun k s => (k = 2 ∧ s = mkSt [(0, .ptr (0,1,0) 0), (15, .v (.int .i64 0))] [((0,1,0), talkCells (later t0 n))]) ∨ (k = 1 ∧ s = mkSt [(0, .ptr (0,1,0) 0), (15, .v (.int .i64 1))] [((0,1,0), talkCells (tick0 (later t0 n)))]) ∨ (k = 0 ∧ s = mkSt [(0, .ptr (0,1,0) 0), (15, .v (.int .i64 2))] [((0,1,0), talkCells (tick1 (tick0 (later t0 n))))])) 2 _ (Le.refl _) (.inl ⟨rfl, rfl⟩) ?_
  rintro k s (⟨rfl, rfl⟩ | ⟨rfl, rfl⟩ | ⟨rfl, rfl⟩)
  · generalize later t0 n = T at hp0 ⊢
    rcases hp0 with h1 | ⟨h1, h2, h3⟩
    · all_goals (repeat' (first
      | (refine tri_condT (b_true (by simp; with_reducible exact IsB.mk)) ?_)
      | (refine tri_condF (b_true (by simp; with_reducible exact IsB.mk)) ?_)
      | (refine tri_skipT ?_)
      | (refine tri_skip ?_)
      | (refine th_n ?_)
      | (refine in_n ?_)
      | (refine tri_block ?_)
      | (refine tri_step (id := 2) (C := ⟨[], [37], [(5, (6, 0, 0)), (29, (0, 1, 0)), (33, (0, 1, 0)), (43, (0, 1, 0))]⟩) [0, 15, 16] [(0, 1, 0)] g38 nodraw ?_; refine ⟨_, by (simp [*, F30, F37, flg]; exact Is.mk), ?_⟩)
      | (refine tri_step (id := 3) (C := ⟨[], [37], [(5, (6, 0, 0)), (29, (0, 1, 0)), (33, (0, 1, 0)), (43, (0, 1, 0))]⟩) [0, 4, 15] [(0, 1, 0)] g38 nodraw ?_; refine ⟨_, by (simp [*, F30, F37, flg]; exact Is.mk), ?_⟩)
      | (refine tri_step (id := 4) (C := ⟨[], [37], [(5, (6, 0, 0)), (29, (0, 1, 0)), (33, (0, 1, 0)), (43, (0, 1, 0))]⟩) [0, 4, 15, 23] [(0, 1, 0)] g38 nodraw ?_; refine ⟨_, by (simp [*, F30, F37, flg]; exact Is.mk), ?_⟩)
      | (refine tri_last (id := 8) (C := ⟨[], [37], [(5, (6, 0, 0)), (29, (0, 1, 0)), (33, (0, 1, 0)), (43, (0, 1, 0))]⟩) [0, 15] [(0, 1, 0)] g38 nodraw ?_; refine ⟨_, by (simp [*, F30, F37, flg]; exact Is.mk), ?_⟩)
      | (refine tri_seq ?_)
      ))
      refine ⟨1, _, by omega, Le.refl _, .inr <| .inl ⟨rfl, ?_⟩⟩
      unfold tick0
      rw [if_neg (by simp [h1])]
      all_goals (try simp only [wi_two])
    · simp only [h1] at h3
      all_goals (repeat' (first
      | (refine tri_condT (b_true (by simp; with_reducible exact IsB.mk)) ?_)
      | (refine tri_skipT ?_)
      | (refine th_n ?_)
      | (refine in_n ?_)
      | (refine tri_block ?_)
      | (refine tri_step (id := 2) (C := ⟨[], [37], [(5, (6, 0, 0)), (29, (0, 1, 0)), (33, (0, 1, 0)), (43, (0, 1, 0))]⟩) [0, 15, 16] [(0, 1, 0)] g38 nodraw ?_; refine ⟨_, by (simp [*, F30, F37, flg]; exact Is.mk), ?_⟩)
      | (refine tri_step (id := 3) (C := ⟨[], [37], [(5, (6, 0, 0)), (29, (0, 1, 0)), (33, (0, 1, 0)), (43, (0, 1, 0))]⟩) [0, 4, 15] [(0, 1, 0)] g38 nodraw ?_; refine ⟨_, by (simp [*, F30, F37, flg]; exact Is.mk), ?_⟩)
      | (refine tri_step (id := 4) (C := ⟨[], [37], [(5, (6, 0, 0)), (29, (0, 1, 0)), (33, (0, 1, 0)), (43, (0, 1, 0))]⟩) [0, 4, 15, 23] [(0, 1, 0)] g38 nodraw ?_; refine ⟨_, by (simp [*, F30, F37, flg]; exact Is.mk), ?_⟩)
      | (refine tri_step (id := 5) (C := ⟨[], [37], [(5, (6, 0, 0)), (29, (0, 1, 0)), (33, (0, 1, 0)), (43, (0, 1, 0))]⟩) [0, 4, 5, 6, 15] [(0, 1, 0), (6, 0, 0)] g38 (fun _ => ⟨q_mixed, by kernel_rfl⟩) ?_; refine ⟨_, by (simp [*, F30, F37, flg]; exact Is.mk), ?_⟩)
      | (refine tri_step (id := 6) (C := ⟨[], [37], [(5, (6, 0, 0)), (29, (0, 1, 0)), (33, (0, 1, 0)), (43, (0, 1, 0))]⟩) [0, 4, 6, 15] [(0, 1, 0)] g38 (fun _ => ⟨q_mixed, by kernel_rfl⟩) ?_; refine ⟨_, by (simp [*, F30, F37, flg]; exact Is.mk), ?_⟩)
      | (refine tri_last (id := 7) (C := ⟨[], [37], [(5, (6, 0, 0)), (29, (0, 1, 0)), (33, (0, 1, 0)), (43, (0, 1, 0))]⟩) [0, 15] [(0, 1, 0)] g38 nodraw ?_; refine ⟨_, by (simp [*, F30, F37, flg]; exact Is.mk), ?_⟩)
      | (refine tri_last (id := 8) (C := ⟨[], [37], [(5, (6, 0, 0)), (29, (0, 1, 0)), (33, (0, 1, 0)), (43, (0, 1, 0))]⟩) [0, 15] [(0, 1, 0)] g38 nodraw ?_; refine ⟨_, by (simp [*, F30, F37, flg]; exact Is.mk), ?_⟩)
      | (refine tri_seq ?_)
      ))
      refine ⟨1, _, by omega, Le.refl _, .inr <| .inl ⟨rfl, ?_⟩⟩
      unfold tick0
      rw [if_pos h1]
      simp only [h1, wi_two]
  · generalize tick0 (later t0 n) = T at hp1 ⊢
    rcases hp1 with h1 | ⟨h1, h2, h3⟩
    · all_goals (repeat' (first
      | (refine tri_condT (b_true (by simp; with_reducible exact IsB.mk)) ?_)
      | (refine tri_condF (b_true (by simp; with_reducible exact IsB.mk)) ?_)
      | (refine tri_skipT ?_)
      | (refine tri_skip ?_)
      | (refine th_n ?_)
      | (refine in_n ?_)
      | (refine tri_block ?_)
      | (refine tri_step (id := 2) (C := ⟨[], [37], [(5, (6, 0, 0)), (29, (0, 1, 0)), (33, (0, 1, 0)), (43, (0, 1, 0))]⟩) [0, 15, 16] [(0, 1, 0)] g38 nodraw ?_; refine ⟨_, by (simp [*, F30, F37, flg]; exact Is.mk), ?_⟩)
      | (refine tri_step (id := 3) (C := ⟨[], [37], [(5, (6, 0, 0)), (29, (0, 1, 0)), (33, (0, 1, 0)), (43, (0, 1, 0))]⟩) [0, 4, 15] [(0, 1, 0)] g38 nodraw ?_; refine ⟨_, by (simp [*, F30, F37, flg]; exact Is.mk), ?_⟩)
      | (refine tri_step (id := 4) (C := ⟨[], [37], [(5, (6, 0, 0)), (29, (0, 1, 0)), (33, (0, 1, 0)), (43, (0, 1, 0))]⟩) [0, 4, 15, 23] [(0, 1, 0)] g38 nodraw ?_; refine ⟨_, by (simp [*, F30, F37, flg]; exact Is.mk), ?_⟩)
      | (refine tri_last (id := 8) (C := ⟨[], [37], [(5, (6, 0, 0)), (29, (0, 1, 0)), (33, (0, 1, 0)), (43, (0, 1, 0))]⟩) [0, 15] [(0, 1, 0)] g38 nodraw ?_; refine ⟨_, by (simp [*, F30, F37, flg]; exact Is.mk), ?_⟩)
      | (refine tri_seq ?_)
      ))
      refine ⟨0, _, by omega, Le.refl _, .inr <| .inr ⟨rfl, ?_⟩⟩
      unfold tick1
      rw [if_neg (by simp [h1])]
      all_goals (try simp only [wi_two])
    · simp only [h1] at h3
      all_goals (repeat' (first
      | (refine tri_condT (b_true (by simp; with_reducible exact IsB.mk)) ?_)
      | (refine tri_skipT ?_)
      | (refine th_n ?_)
      | (refine in_n ?_)
      | (refine tri_block ?_)
      | (refine tri_step (id := 2) (C := ⟨[], [37], [(5, (6, 0, 0)), (29, (0, 1, 0)), (33, (0, 1, 0)), (43, (0, 1, 0))]⟩) [0, 15, 16] [(0, 1, 0)] g38 nodraw ?_; refine ⟨_, by (simp [*, F30, F37, flg]; exact Is.mk), ?_⟩)
      | (refine tri_step (id := 3) (C := ⟨[], [37], [(5, (6, 0, 0)), (29, (0, 1, 0)), (33, (0, 1, 0)), (43, (0, 1, 0))]⟩) [0, 4, 15] [(0, 1, 0)] g38 nodraw ?_; refine ⟨_, by (simp [*, F30, F37, flg]; exact Is.mk), ?_⟩)
      | (refine tri_step (id := 4) (C := ⟨[], [37], [(5, (6, 0, 0)), (29, (0, 1, 0)), (33, (0, 1, 0)), (43, (0, 1, 0))]⟩) [0, 4, 15, 23] [(0, 1, 0)] g38 nodraw ?_; refine ⟨_, by (simp [*, F30, F37, flg]; exact Is.mk), ?_⟩)
      | (refine tri_step (id := 5) (C := ⟨[], [37], [(5, (6, 0, 0)), (29, (0, 1, 0)), (33, (0, 1, 0)), (43, (0, 1, 0))]⟩) [0, 4, 5, 6, 15] [(0, 1, 0), (6, 0, 0)] g38 (fun _ => ⟨q_mixed, by kernel_rfl⟩) ?_; refine ⟨_, by (simp [*, F30, F37, flg]; exact Is.mk), ?_⟩)
      | (refine tri_step (id := 6) (C := ⟨[], [37], [(5, (6, 0, 0)), (29, (0, 1, 0)), (33, (0, 1, 0)), (43, (0, 1, 0))]⟩) [0, 4, 6, 15] [(0, 1, 0)] g38 (fun _ => ⟨q_mixed, by kernel_rfl⟩) ?_; refine ⟨_, by (simp [*, F30, F37, flg]; exact Is.mk), ?_⟩)
      | (refine tri_last (id := 7) (C := ⟨[], [37], [(5, (6, 0, 0)), (29, (0, 1, 0)), (33, (0, 1, 0)), (43, (0, 1, 0))]⟩) [0, 15] [(0, 1, 0)] g38 nodraw ?_; refine ⟨_, by (simp [*, F30, F37, flg]; exact Is.mk), ?_⟩)
      | (refine tri_last (id := 8) (C := ⟨[], [37], [(5, (6, 0, 0)), (29, (0, 1, 0)), (33, (0, 1, 0)), (43, (0, 1, 0))]⟩) [0, 15] [(0, 1, 0)] g38 nodraw ?_; refine ⟨_, by (simp [*, F30, F37, flg]; exact Is.mk), ?_⟩)
      | (refine tri_seq ?_)
      ))
      refine ⟨0, _, by omega, Le.refl _, .inr <| .inr ⟨rfl, ?_⟩⟩
      unfold tick1
      rw [if_pos h1]
      simp only [h1, wi_two]
  · all_goals (repeat' (first
      | (refine tri_condF (b_true (by simp; with_reducible exact IsB.mk)) ?_)
      | (refine in_e ?_)
      | (refine th_e ?_)
      | (refine tri_exit ?_)
      | (refine tri_step (id := 2) (C := ⟨[], [37], [(5, (6, 0, 0)), (29, (0, 1, 0)), (33, (0, 1, 0)), (43, (0, 1, 0))]⟩) [0, 15, 16] [(0, 1, 0)] g38 nodraw ?_; refine ⟨_, by (simp [*, F30, F37, flg]; exact Is.mk), ?_⟩)
      | (refine tri_seq ?_)
      ))
    refine post_obj [] trivial _ rfl rfl (by simp) rfl ?_
    rw [talkCells_name]
    exact talkCells_coE rfl
open Classical in
noncomputable def F38 : Fn1
  | [x0, x1] => ((dR x0).bind (wholeC pTalk)).bind fun t0 => (dI .u64 x1).bind fun n => if ticksPre t0 n then some ((.tup []), (some (talkCells (ticks t0 n)))) else none
  | _ => none
theorem spec38 : Spec1 Try.prog 38 F38 := spec_of fun ys r o h => by
  unfold F38 at h
  split at h
  case h_2 => cases h
  obtain ⟨t0, k0, h1⟩ := bind_some h
  obtain ⟨cs0, kk0, j0⟩ := bind_some k0
  have e0 := dR_eq kk0
  subst e0
  obtain ⟨n, k1, h2⟩ := bind_some h1
  obtain ⟨hpre, hz⟩ := ite_some h2
  cases hz
  exact ⟨_, at38 t0 n hpre, rfl, le_ref (fun s s2 hG => wholeC_coR (Snd.coR pTalk_snd) j0 s s2 hG) ⟨dI_co k1, trivial⟩⟩
theorem en38 : Enters Try.prog 38 := enters_of Try.func38 (by kernel_rfl) (by kernel_rfl)

end Go.Proofs.Ytkjodjaamjnejaa

-- Printed by genwalk.py.
namespace Go.Proofs.Ytkjodjaamjnejaa
open Go Go.RowKit Caw
set_option linter.unusedSimpArgs false
set_option linter.unusedVariables false
set_option maxRecDepth 100000

-- (*caravel/caravellaw19.talk).reads
theorem g15 : GOk1 Try.prog (ctxOf [(33, F33), (37, F37)]) := gok_cons spec33 en33 (gok_cons spec37 en37 (gok_nil))
set_option maxHeartbeats 8000000 in
theorem at15 (t0 : Caw.Talk) (side : Int) (n : Int) (hpre : readsPre t0 side n) : SpecAt Try.prog 15 [.ref (talkCells t0), .v (.int .i64 side), .v (.int .i64 n)] (.tup []) (some (talkCells (reads t0 side n))) := by
  rcases hpre with ⟨rfl, h1, ⟨h0, h00⟩, h2⟩ | ⟨rfl, h1, ⟨h0, h00⟩, h2⟩
  · have w8 := read_fit _ _ h0 h00
    rw [reads_0]
    rcases told_cases t0.told0 with h3 | h3
    all_goals (simp only [read0T, bytesS, h3, Bool.true_or, Bool.false_or] at h2 ⊢)
    all_goals (refine specAt_of_tri Try.func15 rfl (Nat.le_of_ble_eq_true rfl) ?_)
    all_goals (repeat' (first
      | (refine tri_step (id := 0) (C := ⟨[], [37], [(6, (7, 0, 0)), (16, (0, 1, 0)), (21, (0, 1, 0)), (33, (0, 1, 0)), (38, (0, 1, 0)), (45, (0, 1, 0)), (52, (0, 1, 0)), (60, (0, 1, 0)), (76, (0, 1, 0)), (87, (0, 1, 0)), (96, (0, 1, 0)), (108, (0, 1, 0)), (116, (0, 1, 0)), (124, (0, 1, 0))]⟩) [0, 1, 6, 7, 8, 9] [(0, 1, 0), (7, 0, 0)] g15 (fun _ => ⟨q_mixed, by kernel_rfl⟩) ?_; refine ⟨_, by (simp [*, F33, F37, undef, flg]; exact Is.mk), ?_⟩)
      | (refine tri_step (id := 1) (C := ⟨[], [37], [(6, (7, 0, 0)), (16, (0, 1, 0)), (21, (0, 1, 0)), (33, (0, 1, 0)), (38, (0, 1, 0)), (45, (0, 1, 0)), (52, (0, 1, 0)), (60, (0, 1, 0)), (76, (0, 1, 0)), (87, (0, 1, 0)), (96, (0, 1, 0)), (108, (0, 1, 0)), (116, (0, 1, 0)), (124, (0, 1, 0))]⟩) [0, 1, 7, 8, 9] [(0, 1, 0)] g15 (fun _ => ⟨q_mixed, by kernel_rfl⟩) ?_; refine ⟨_, by (simp [*, F33, F37, undef, flg]; exact Is.mk), ?_⟩)
      | (refine tri_step (id := 2) (C := ⟨[], [37], [(6, (7, 0, 0)), (16, (0, 1, 0)), (21, (0, 1, 0)), (33, (0, 1, 0)), (38, (0, 1, 0)), (45, (0, 1, 0)), (52, (0, 1, 0)), (60, (0, 1, 0)), (76, (0, 1, 0)), (87, (0, 1, 0)), (96, (0, 1, 0)), (108, (0, 1, 0)), (116, (0, 1, 0)), (124, (0, 1, 0))]⟩) [0, 1, 8, 9] [(0, 1, 0)] g15 (fun _ => ⟨q_mixed, by kernel_rfl⟩) ?_; refine ⟨_, by (simp [*, F33, F37, undef, flg]; exact Is.mk), ?_⟩)
      | (refine tri_step (id := 3) (C := ⟨[], [37], [(6, (7, 0, 0)), (16, (0, 1, 0)), (21, (0, 1, 0)), (33, (0, 1, 0)), (38, (0, 1, 0)), (45, (0, 1, 0)), (52, (0, 1, 0)), (60, (0, 1, 0)), (76, (0, 1, 0)), (87, (0, 1, 0)), (96, (0, 1, 0)), (108, (0, 1, 0)), (116, (0, 1, 0)), (124, (0, 1, 0))]⟩) [0, 1, 8] [(0, 1, 0)] g15 (fun _ => ⟨q_mixed, by kernel_rfl⟩) ?_; refine ⟨_, by (simp [*, F33, F37, undef, flg]; exact Is.mk), ?_⟩)
      | (refine tri_step (id := 4) (C := ⟨[], [37], [(6, (7, 0, 0)), (16, (0, 1, 0)), (21, (0, 1, 0)), (33, (0, 1, 0)), (38, (0, 1, 0)), (45, (0, 1, 0)), (52, (0, 1, 0)), (60, (0, 1, 0)), (76, (0, 1, 0)), (87, (0, 1, 0)), (96, (0, 1, 0)), (108, (0, 1, 0)), (116, (0, 1, 0)), (124, (0, 1, 0))]⟩) [0, 1] [(0, 1, 0)] g15 nodraw ?_; refine ⟨_, by (simp [*, F33, F37, undef, flg]; exact Is.mk), ?_⟩)
      | (refine tri_step (id := 5) (C := ⟨[], [37], [(6, (7, 0, 0)), (16, (0, 1, 0)), (21, (0, 1, 0)), (33, (0, 1, 0)), (38, (0, 1, 0)), (45, (0, 1, 0)), (52, (0, 1, 0)), (60, (0, 1, 0)), (76, (0, 1, 0)), (87, (0, 1, 0)), (96, (0, 1, 0)), (108, (0, 1, 0)), (116, (0, 1, 0)), (124, (0, 1, 0))]⟩) [0, 1, 10] [(0, 1, 0)] g15 nodraw ?_; refine ⟨_, by (simp [*, F33, F37, undef, flg]; exact Is.mk), ?_⟩)
      | (refine tri_seq ?_)
      ))
    all_goals (generalize sends 0 _ _ = T)
    all_goals (clear h1 h0 h00 h2 h3 w8)
    all_goals (unfold read0E oddR)
    all_goals (rcases odd_cases T.read0 T.written1 T.told0 T.closed1 with g1 | ⟨g1, g2, g3, g4⟩ | ⟨g1, g2, g3, g4, g5⟩ | ⟨g1, g2, g3, g4, g5, g6⟩ | ⟨g1, g2, g3, g4, g5, g6, g7⟩ | ⟨g1, g2, g3, g4, g5, g6, g7⟩)
    all_goals (repeat' (first
      | (refine tri_condT (b_true (by simp; with_reducible exact IsB.mk)) ?_)
      | (refine tri_condF (b_true (by simp; with_reducible exact IsB.mk)) ?_)
      | (refine tri_skip ?_)
      | (refine tri_last (id := 6) (C := ⟨[], [37], [(6, (7, 0, 0)), (16, (0, 1, 0)), (21, (0, 1, 0)), (33, (0, 1, 0)), (38, (0, 1, 0)), (45, (0, 1, 0)), (52, (0, 1, 0)), (60, (0, 1, 0)), (76, (0, 1, 0)), (87, (0, 1, 0)), (96, (0, 1, 0)), (108, (0, 1, 0)), (116, (0, 1, 0)), (124, (0, 1, 0))]⟩) [0, 130] [(0, 1, 0)] g15 (fun _ => ⟨q_mixed, by kernel_rfl⟩) ?_; refine ⟨_, by (simp [*, F33, F37, undef, flg]; exact Is.mk), ?_⟩)
      | (refine tri_last (id := 7) (C := ⟨[], [37], [(6, (7, 0, 0)), (16, (0, 1, 0)), (21, (0, 1, 0)), (33, (0, 1, 0)), (38, (0, 1, 0)), (45, (0, 1, 0)), (52, (0, 1, 0)), (60, (0, 1, 0)), (76, (0, 1, 0)), (87, (0, 1, 0)), (96, (0, 1, 0)), (108, (0, 1, 0)), (116, (0, 1, 0)), (124, (0, 1, 0))]⟩) [] [(0, 1, 0)] g15 nodraw ?_; refine ⟨_, by (simp [*, F33, F37, undef, flg]; exact Is.mk), ?_⟩)
      ))
    all_goals (refine post_obj [] trivial _ rfl rfl (by simp) rfl ?_)
    all_goals (rw [talkCells_name])
    all_goals (refine talkCells_coE ?_)
    all_goals (first | (simp []; done) | (simp [*, ]; done) | (simp_all []; done) | trace_state)
  · have w8 := read_fit _ _ h0 h00
    rw [reads_1]
    rcases told_cases t0.told1 with h3 | h3
    all_goals (simp only [read1T, bytesS, h3, Bool.true_or, Bool.false_or] at h2 ⊢)
    all_goals (refine specAt_of_tri Try.func15 rfl (Nat.le_of_ble_eq_true rfl) ?_)
    all_goals (repeat' (first
      | (refine tri_step (id := 0) (C := ⟨[], [37], [(6, (7, 0, 0)), (16, (0, 1, 0)), (21, (0, 1, 0)), (33, (0, 1, 0)), (38, (0, 1, 0)), (45, (0, 1, 0)), (52, (0, 1, 0)), (60, (0, 1, 0)), (76, (0, 1, 0)), (87, (0, 1, 0)), (96, (0, 1, 0)), (108, (0, 1, 0)), (116, (0, 1, 0)), (124, (0, 1, 0))]⟩) [0, 1, 6, 7, 8, 9] [(0, 1, 0), (7, 0, 0)] g15 (fun _ => ⟨q_mixed, by kernel_rfl⟩) ?_; refine ⟨_, by (simp [*, F33, F37, undef, flg]; exact Is.mk), ?_⟩)
      | (refine tri_step (id := 1) (C := ⟨[], [37], [(6, (7, 0, 0)), (16, (0, 1, 0)), (21, (0, 1, 0)), (33, (0, 1, 0)), (38, (0, 1, 0)), (45, (0, 1, 0)), (52, (0, 1, 0)), (60, (0, 1, 0)), (76, (0, 1, 0)), (87, (0, 1, 0)), (96, (0, 1, 0)), (108, (0, 1, 0)), (116, (0, 1, 0)), (124, (0, 1, 0))]⟩) [0, 1, 7, 8, 9] [(0, 1, 0)] g15 (fun _ => ⟨q_mixed, by kernel_rfl⟩) ?_; refine ⟨_, by (simp [*, F33, F37, undef, flg]; exact Is.mk), ?_⟩)
      | (refine tri_step (id := 2) (C := ⟨[], [37], [(6, (7, 0, 0)), (16, (0, 1, 0)), (21, (0, 1, 0)), (33, (0, 1, 0)), (38, (0, 1, 0)), (45, (0, 1, 0)), (52, (0, 1, 0)), (60, (0, 1, 0)), (76, (0, 1, 0)), (87, (0, 1, 0)), (96, (0, 1, 0)), (108, (0, 1, 0)), (116, (0, 1, 0)), (124, (0, 1, 0))]⟩) [0, 1, 8, 9] [(0, 1, 0)] g15 (fun _ => ⟨q_mixed, by kernel_rfl⟩) ?_; refine ⟨_, by (simp [*, F33, F37, undef, flg]; exact Is.mk), ?_⟩)
      | (refine tri_step (id := 3) (C := ⟨[], [37], [(6, (7, 0, 0)), (16, (0, 1, 0)), (21, (0, 1, 0)), (33, (0, 1, 0)), (38, (0, 1, 0)), (45, (0, 1, 0)), (52, (0, 1, 0)), (60, (0, 1, 0)), (76, (0, 1, 0)), (87, (0, 1, 0)), (96, (0, 1, 0)), (108, (0, 1, 0)), (116, (0, 1, 0)), (124, (0, 1, 0))]⟩) [0, 1, 8] [(0, 1, 0)] g15 (fun _ => ⟨q_mixed, by kernel_rfl⟩) ?_; refine ⟨_, by (simp [*, F33, F37, undef, flg]; exact Is.mk), ?_⟩)
      | (refine tri_step (id := 4) (C := ⟨[], [37], [(6, (7, 0, 0)), (16, (0, 1, 0)), (21, (0, 1, 0)), (33, (0, 1, 0)), (38, (0, 1, 0)), (45, (0, 1, 0)), (52, (0, 1, 0)), (60, (0, 1, 0)), (76, (0, 1, 0)), (87, (0, 1, 0)), (96, (0, 1, 0)), (108, (0, 1, 0)), (116, (0, 1, 0)), (124, (0, 1, 0))]⟩) [0, 1] [(0, 1, 0)] g15 nodraw ?_; refine ⟨_, by (simp [*, F33, F37, undef, flg]; exact Is.mk), ?_⟩)
      | (refine tri_step (id := 5) (C := ⟨[], [37], [(6, (7, 0, 0)), (16, (0, 1, 0)), (21, (0, 1, 0)), (33, (0, 1, 0)), (38, (0, 1, 0)), (45, (0, 1, 0)), (52, (0, 1, 0)), (60, (0, 1, 0)), (76, (0, 1, 0)), (87, (0, 1, 0)), (96, (0, 1, 0)), (108, (0, 1, 0)), (116, (0, 1, 0)), (124, (0, 1, 0))]⟩) [0, 1, 10] [(0, 1, 0)] g15 nodraw ?_; refine ⟨_, by (simp [*, F33, F37, undef, flg]; exact Is.mk), ?_⟩)
      | (refine tri_seq ?_)
      ))
    all_goals (generalize sends 1 _ _ = T)
    all_goals (clear h1 h0 h00 h2 h3 w8)
    all_goals (unfold read1E oddR)
    all_goals (rcases odd_cases T.read1 T.written0 T.told1 T.closed0 with g1 | ⟨g1, g2, g3, g4⟩ | ⟨g1, g2, g3, g4, g5⟩ | ⟨g1, g2, g3, g4, g5, g6⟩ | ⟨g1, g2, g3, g4, g5, g6, g7⟩ | ⟨g1, g2, g3, g4, g5, g6, g7⟩)
    all_goals (repeat' (first
      | (refine tri_condT (b_true (by simp; with_reducible exact IsB.mk)) ?_)
      | (refine tri_condF (b_true (by simp; with_reducible exact IsB.mk)) ?_)
      | (refine tri_skip ?_)
      | (refine tri_last (id := 6) (C := ⟨[], [37], [(6, (7, 0, 0)), (16, (0, 1, 0)), (21, (0, 1, 0)), (33, (0, 1, 0)), (38, (0, 1, 0)), (45, (0, 1, 0)), (52, (0, 1, 0)), (60, (0, 1, 0)), (76, (0, 1, 0)), (87, (0, 1, 0)), (96, (0, 1, 0)), (108, (0, 1, 0)), (116, (0, 1, 0)), (124, (0, 1, 0))]⟩) [0, 130] [(0, 1, 0)] g15 (fun _ => ⟨q_mixed, by kernel_rfl⟩) ?_; refine ⟨_, by (simp [*, F33, F37, undef, flg]; exact Is.mk), ?_⟩)
      | (refine tri_last (id := 7) (C := ⟨[], [37], [(6, (7, 0, 0)), (16, (0, 1, 0)), (21, (0, 1, 0)), (33, (0, 1, 0)), (38, (0, 1, 0)), (45, (0, 1, 0)), (52, (0, 1, 0)), (60, (0, 1, 0)), (76, (0, 1, 0)), (87, (0, 1, 0)), (96, (0, 1, 0)), (108, (0, 1, 0)), (116, (0, 1, 0)), (124, (0, 1, 0))]⟩) [] [(0, 1, 0)] g15 nodraw ?_; refine ⟨_, by (simp [*, F33, F37, undef, flg]; exact Is.mk), ?_⟩)
      ))
    all_goals (refine post_obj [] trivial _ rfl rfl (by simp) rfl ?_)
    all_goals (rw [talkCells_name])
    all_goals (refine talkCells_coE ?_)
    all_goals (first | (simp []; done) | (simp [*, ]; done) | (simp_all []; done) | trace_state)
open Classical in
noncomputable def F15 : Fn1
  | [x0, x1, x2] => ((dR x0).bind (wholeC pTalk)).bind fun t0 => (dI .i64 x1).bind fun side => (dI .i64 x2).bind fun n => if readsPre t0 side n then some ((.tup []), (some (talkCells (reads t0 side n)))) else none
  | _ => none
theorem spec15 : Spec1 Try.prog 15 F15 := spec_of fun ys r o h => by
  unfold F15 at h
  split at h
  case h_2 => cases h
  obtain ⟨t0, k0, h1⟩ := bind_some h
  obtain ⟨cs0, kk0, j0⟩ := bind_some k0
  have e0 := dR_eq kk0
  subst e0
  obtain ⟨side, k1, h2⟩ := bind_some h1
  obtain ⟨n, k2, h3⟩ := bind_some h2
  obtain ⟨hpre, hz⟩ := ite_some h3
  cases hz
  exact ⟨_, at15 t0 side n hpre, rfl, le_ref (fun s s2 hG => wholeC_coR (Snd.coR pTalk_snd) j0 s s2 hG) ⟨dI_co k1, ⟨dI_co k2, trivial⟩⟩⟩
theorem en15 : Enters Try.prog 15 := enters_of Try.func15 (by kernel_rfl) (by kernel_rfl)

end Go.Proofs.Ytkjodjaamjnejaa

