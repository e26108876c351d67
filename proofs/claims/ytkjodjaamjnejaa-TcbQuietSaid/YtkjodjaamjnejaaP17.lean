import Derived.Test.YtkjodjaamjnejaaP13
import Derived.Test.YtkjodjaamjnejaaP8
import Derived.Test.YtkjodjaamjnejaaK10
import Derived.Test.YtkjodjaamjnejaaK11
import Derived.Test.YtkjodjaamjnejaaP10
import Derived.Test.YtkjodjaamjnejaaP9
set_option linter.all false
-- Printed by genwalk.py.
namespace Go.Proofs.Ytkjodjaamjnejaa
open Go Go.RowKit Caw
set_option linter.unusedSimpArgs false
set_option linter.unusedVariables false
set_option maxRecDepth 100000

-- caravel/caravellaw19.begin
theorem g12 : GOk1 Try.prog (ctxOf [(34, F34), (35, F35), (37, F37)]) := gok_cons spec34 en34 (gok_cons spec35 en35 (gok_cons spec37 en37 (gok_nil)))
set_option maxHeartbeats 2000000 in
theorem at12 (first : Caw.Two) : SpecAt Try.prog 12 [.agg (twoCells first)] (.ref (talkCells (begins first.a first.b))) none := by
  have hp : sendsPre 0 ⟨(epDial addrX addrY first.a 0).conn, connZ, true, false, first.a, first.b, [], [], ⟨#[]⟩, ⟨#[]⟩, ⟨#[]⟩, ⟨#[]⟩, false, false, false, false, 0, false⟩ (epDial addrX addrY first.a 0).out := (begins_ok first.a first.b).1
  have hb : begins first.a first.b = sends 0 ⟨(epDial addrX addrY first.a 0).conn, connZ, true, false, first.a, first.b, [], [], ⟨#[]⟩, ⟨#[]⟩, ⟨#[]⟩, ⟨#[]⟩, false, false, false, false, 0, false⟩ (epDial addrX addrY first.a 0).out := by unfold begins talk0; rfl
  rw [hb]
  clear hb
  refine specAt_of_tri Try.func12 rfl (Nat.le_of_ble_eq_true rfl) ?_
  (refine tri_step (id := 0) (C := ⟨[], [37], [(6, (7, 0, 0)), (28, (15, 0, 0)), (31, (15, 0, 0))]⟩) [1] [(2, 0, 0)] g12 nodraw ?_; refine ⟨_, by (simp [*, F34, F35, F37, encTwo, flg]; exact Is.mk), ?_⟩)
  (refine tri_step (id := 1) (C := ⟨[], [37], [(6, (7, 0, 0)), (28, (15, 0, 0)), (31, (15, 0, 0))]⟩) [1, 3, 4] [(2, 0, 0), (4, 0, 0), (5, 0, 0)] g12 nodraw ?_; refine ⟨_, by (simp [*, F34, F35, F37, encTwo, flg]; exact Is.mk), ?_⟩)
  (refine tri_step (id := 2) (C := ⟨[], [37], [(6, (7, 0, 0)), (28, (15, 0, 0)), (31, (15, 0, 0))]⟩) [1, 3, 4, 5] [(2, 0, 0), (4, 0, 0), (5, 0, 0), (15, 0, 0)] g12 nodraw ?_; refine ⟨_, by (simp [*, F34, F35, F37, encTwo, flg]; exact Is.mk), ?_⟩)
  refine tri_weak (le_K (tt := [(1, .ptr (2,0,0) 0), (3, .ptr (4,0,0) 0), (4, .ptr (5,0,0) 0), (5, .ptr (15,0,0) 0)]) (uu := [((2,0,0), twoCells first), ((4,0,0), addrCells addrX), ((5,0,0), addrCells addrY), ((15,0,0), talkCells ⟨connZ, connZ, false, false, first.a, first.b, [], [], ⟨#[]⟩, ⟨#[]⟩, ⟨#[]⟩, ⟨#[]⟩, false, false, false, false, 0, false⟩)]) ?_ ?_) ?_
  · simp [coK]
  · refine ⟨rfl, twoCells_co .., rfl, addrCells_co .., rfl, addrCells_co .., rfl, ?_, trivial⟩
    simp [talkCells, connZ]
  · all_goals (repeat' (first
      | (refine tri_ret ?_)
      | (refine tri_step (id := 3) (C := ⟨[], [37], [(6, (7, 0, 0)), (28, (15, 0, 0)), (31, (15, 0, 0))]⟩) [5, 6, 7] [(7, 0, 0), (15, 0, 0)] g12 nodraw ?_; refine ⟨_, by (simp [*, F34, F35, F37, encTwo, flg]; exact Is.mk), ?_⟩)
      | (refine tri_step (id := 4) (C := ⟨[], [37], [(6, (7, 0, 0)), (28, (15, 0, 0)), (31, (15, 0, 0))]⟩) [5, 7] [(15, 0, 0)] g12 (fun _ => ⟨q_mixed, by kernel_rfl⟩) ?_; refine ⟨_, by (simp [*, F34, F35, F37, encTwo, flg]; exact Is.mk), ?_⟩)
      | (refine tri_step (id := 5) (C := ⟨[], [37], [(6, (7, 0, 0)), (28, (15, 0, 0)), (31, (15, 0, 0))]⟩) [5] [(15, 0, 0)] g12 nodraw ?_; refine ⟨_, by (simp [*, F34, F35, F37, encTwo, flg]; exact Is.mk), ?_⟩)
      | (refine tri_step (id := 6) (C := ⟨[], [37], [(6, (7, 0, 0)), (28, (15, 0, 0)), (31, (15, 0, 0))]⟩) [2] [(15, 0, 0)] g12 nodraw ?_; refine ⟨_, by (simp [*, F34, F35, F37, encTwo, flg]; exact Is.mk), ?_⟩)
      ))
    refine post_new [] trivial (15,0,0) (by simp) rfl ?_
    rw [talkCells_name]
    exact talkCells_co ..
noncomputable def F12 : Fn1
  | [x0] => (whole pTwo x0).bind fun first => some ((.ref (talkCells (begins first.a first.b))), none)
  | _ => none
theorem spec12 : Spec1 Try.prog 12 F12 := spec_of fun ys r o h => by
  unfold F12 at h
  split at h
  case h_2 => cases h
  obtain ⟨first, k0, h1⟩ := bind_some h
  cases h1
  exact ⟨_, at12 first, rfl, le_plain ⟨whole_co pTwo_snd k0, trivial⟩ (by simp only [List.all_cons, List.all_nil, Bool.not_false, Bool.and_self, notRefB (whole_co pTwo_snd k0) rfl (by simp)]) rfl⟩
theorem en12 : Enters Try.prog 12 := enters_of Try.func12 (by kernel_rfl) (by kernel_rfl)

end Go.Proofs.Ytkjodjaamjnejaa

-- Printed by genwalk.py.
namespace Go.Proofs.Ytkjodjaamjnejaa
open Go Go.RowKit Caw
set_option linter.unusedSimpArgs false
set_option linter.unusedVariables false
set_option maxRecDepth 100000

-- caravel/caravellaw19.lives
theorem g11 : GOk1 Try.prog (ctxOf [(34, F34), (35, F35), (36, F36), (23, F23), (20, F20)]) := gok_cons spec34 en34 (gok_cons spec35 en35 (gok_cons spec36 en36 (gok_cons spec23 en23 (gok_cons spec20 en20 (gok_nil)))))
set_option maxHeartbeats 2000000 in
theorem at11 : SpecAt Try.prog 11 [] (.v (.bool true)) none := by
  have e1 : (epDial addrX addrY 100 0).out = [exSA] := exA_out
  have e2 : (epAnswer addrY addrX exSA 300 0).out = [exSB] := exB_out
  have e3 : hearPre (epDial addrX addrY 100 0).conn exSB := exA_pre
  have e4 : (hear (epDial addrX addrY 100 0).conn exSB 1).out = [exSC] := exA2_out
  have e5 : hearPre (epAnswer addrY addrX exSA 300 0).conn exSC := exB_pre
  have e6 : stName (hear (epDial addrX addrY 100 0).conn exSB 1).conn = ⟨#[69, 83, 84, 65, 66, 76, 73, 83, 72, 69, 68]⟩ := exA2_st
  have e7 : stName (hear (epAnswer addrY addrX exSA 300 0).conn exSC 2).conn = ⟨#[69, 83, 84, 65, 66, 76, 73, 83, 72, 69, 68]⟩ := exB2_st
  have f1 : exSA.flags = 2 := rfl
  have f2 : exSA.seq = 100 := rfl
  have f3 : exSB.flags = 18 := rfl
  have f4 : exSB.seq = 300 := rfl
  have f5 : exSB.ack = 101 := rfl
  have f6 : exSC.seq = 101 := rfl
  have f7 : exSC.ack = 301 := rfl
  all_goals refine specAt_of_tri Try.func11 rfl (Nat.le_of_ble_eq_true rfl) ?_
  all_goals (repeat' (first
    | (refine tri_condF (b_true (by simp; with_reducible exact IsB.mk)) ?_)
    | (refine tri_skipT ?_)
    | (refine tri_ret ?_)
    | (refine tri_step (id := 0) (C := ⟨[], [], [(1, (2, 0, 0)), (2, (3, 0, 0)), (3, (4, 0, 0)), (5, (6, 0, 0))]⟩) [] [] g11 nodraw ?_; refine ⟨_, by (simp [*, F34, F35, F36, F23, F20, undef, flg]; exact Is.mk), ?_⟩)
    | (refine tri_step (id := 1) (C := ⟨[], [], [(1, (2, 0, 0)), (2, (3, 0, 0)), (3, (4, 0, 0)), (5, (6, 0, 0))]⟩) [1, 2] [(2, 0, 0), (3, 0, 0)] g11 nodraw ?_; refine ⟨_, by (simp [*, F34, F35, F36, F23, F20, undef, flg]; exact Is.mk), ?_⟩)
    | (refine tri_step (id := 2) (C := ⟨[], [], [(1, (2, 0, 0)), (2, (3, 0, 0)), (3, (4, 0, 0)), (5, (6, 0, 0))]⟩) [1, 2, 3, 4] [(2, 0, 0), (3, 0, 0), (4, 0, 0)] g11 nodraw ?_; refine ⟨_, by (simp [*, F34, F35, F36, F23, F20, undef, flg]; exact Is.mk), ?_⟩)
    | (refine tri_step (id := 3) (C := ⟨[], [], [(1, (2, 0, 0)), (2, (3, 0, 0)), (3, (4, 0, 0)), (5, (6, 0, 0))]⟩) [1, 2, 3, 4, 33] [(2, 0, 0), (3, 0, 0), (4, 0, 0)] g11 nodraw ?_; refine ⟨_, by (simp [*, F34, F35, F36, F23, F20, undef, flg]; exact Is.mk), ?_⟩)
    | (refine tri_step (id := 5) (C := ⟨[], [], [(1, (2, 0, 0)), (2, (3, 0, 0)), (3, (4, 0, 0)), (5, (6, 0, 0))]⟩) [3, 5, 6] [(4, 0, 0), (6, 0, 0)] g11 (fun _ => ⟨q_mixed, by kernel_rfl⟩) ?_; refine ⟨_, by (simp [*, F34, F35, F36, F23, F20, undef, flg]; exact Is.mk), ?_⟩)
    | (refine tri_step (id := 6) (C := ⟨[], [], [(1, (2, 0, 0)), (2, (3, 0, 0)), (3, (4, 0, 0)), (5, (6, 0, 0))]⟩) [3, 5, 6, 66] [(4, 0, 0), (6, 0, 0)] g11 nodraw ?_; refine ⟨_, by (simp [*, F34, F35, F36, F23, F20, undef, flg]; exact Is.mk), ?_⟩)
    | (refine tri_step (id := 8) (C := ⟨[], [], [(1, (2, 0, 0)), (2, (3, 0, 0)), (3, (4, 0, 0)), (5, (6, 0, 0))]⟩) [3, 4, 5] [(4, 0, 0), (6, 0, 0)] g11 (fun _ => ⟨q_mixed, by kernel_rfl⟩) ?_; refine ⟨_, by (simp [*, F34, F35, F36, F23, F20, undef, flg]; exact Is.mk), ?_⟩)
    | (refine tri_step (id := 9) (C := ⟨[], [], [(1, (2, 0, 0)), (2, (3, 0, 0)), (3, (4, 0, 0)), (5, (6, 0, 0))]⟩) [3, 4, 5, 91] [(4, 0, 0), (6, 0, 0)] g11 nodraw ?_; refine ⟨_, by (simp [*, F34, F35, F36, F23, F20, undef, flg]; exact Is.mk), ?_⟩)
    | (refine tri_step (id := 11) (C := ⟨[], [], [(1, (2, 0, 0)), (2, (3, 0, 0)), (3, (4, 0, 0)), (5, (6, 0, 0))]⟩) [3, 5] [(4, 0, 0), (6, 0, 0)] g11 (fun _ => ⟨q_mixed, by kernel_rfl⟩) ?_; refine ⟨_, by (simp [*, F34, F35, F36, F23, F20, undef, flg]; exact Is.mk), ?_⟩)
    | (refine tri_step (id := 12) (C := ⟨[], [], [(1, (2, 0, 0)), (2, (3, 0, 0)), (3, (4, 0, 0)), (5, (6, 0, 0))]⟩) [0] [] g11 nodraw ?_; refine ⟨_, by (simp [*, F34, F35, F36, F23, F20, undef, flg]; exact Is.mk), ?_⟩)
    | (refine tri_seq ?_)
    ))
  all_goals (refine post_plainV (P := Try.prog) (fn := Try.f11) (by simp; exact IsV.mk) rfl ?_)
  all_goals (first | (simp [F34, F35, F36, F23, F20, undef, flg]; done) | (simp [*, F34, F35, F36, F23, F20, undef, flg]; done) | (simp_all [F34, F35, F36, F23, F20, undef, flg]; done) | (simp [F34, F35, F36, F23, F20, undef, flg] <;> (repeat' split) <;> simp_all; done) | (simp [F34, F35, F36, F23, F20, undef, flg] <;> (repeat' split) <;> simp_all [Bool.and_assoc] <;> grind [List.length_eq_zero_iff, sendCells_co, recvCells_co, pieceCells_co, connCells_co, segCells_co, clockCells_co]))
noncomputable def F11 : Fn1
  | [] => some ((.v (.bool true)), none)
  | _ => none
theorem spec11 : Spec1 Try.prog 11 F11 := spec_of fun ys r o h => by
  unfold F11 at h
  split at h
  case h_2 => cases h
  cases h
  exact ⟨_, at11, rfl, le_plain trivial (by simp only [List.all_cons, List.all_nil, Bool.not_false, Bool.and_self]) rfl⟩
theorem en11 : Enters Try.prog 11 := enters_of Try.func11 (by kernel_rfl) (by kernel_rfl)

end Go.Proofs.Ytkjodjaamjnejaa

