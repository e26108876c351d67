import Derived.Test.YtljlhooodbfpiaaGreatDoorK16
import Derived.Test.YtljlhooodbfpiaaGreatDoorK12
set_option linter.all false
-- Printed by genwalk.py.
namespace Go.Proofs.YtljlhooodbfpiaaGreatDoor
open Go Go.RowKit Caw
set_option linter.unusedSimpArgs false
set_option linter.unusedVariables false
set_option maxRecDepth 100000

-- caravel/caravelref24.Same
set_option maxHeartbeats 4000000 in
theorem at13 (x : Caw.Msg) (y : Caw.Msg) (hpre : x = y) : SpecAt Tryz.prog 13 [.agg (msgCells x), .agg (msgCells y)] (.v (.bool true)) none := by
  subst hpre
  all_goals refine specAt_of_tri Tryz.func13 rfl (Nat.le_of_ble_eq_true rfl) ?_
  all_goals (repeat' (first
    | (refine tri_condT (b_true (by simp; with_reducible exact IsB.mk)) ?_)
    | (refine tri_condF (b_true (by simp; with_reducible exact IsB.mk)) ?_)
    | (refine tri_skipT ?_)
    | (refine tri_skip ?_)
    | (refine then_to ?_)
    | (refine th_n ?_)
    | (refine in_n ?_)
    | (refine in_e ?_)
    | (refine in_x rfl ?_)
    | (refine th_e ?_)
    | (refine th_r ?_)
    | (refine in_r ?_)
    | (refine tri_ret ?_)
    | (refine tri_exit ?_)
    | (refine tri_block ?_)
    | (refine tri_step (id := 0) (C := ⟨[2, 3], [], []⟩) [2, 3] [] gok_nil nodraw ?_; refine ⟨_, by (simp [*, pMsg, msgCells, flg]; exact Is.mk), ?_⟩)
    | (refine tri_last (id := 0) (C := ⟨[2, 3], [], []⟩) [2, 3] [] gok_nil nodraw ?_; refine ⟨_, by (simp [*, pMsg, msgCells, flg]; exact Is.mk), ?_⟩)
    | (refine tri_stepG (id := 1) (C := ⟨[2, 3], [], []⟩) [4] [] gok_nil nodraw ?_; refine ⟨_, (run_split 0 6 10 (by simp [*, pMsg, msgCells, flg]; exact Is.mk) (by simp; exact IsB.mk) (run_split 6 7 17 (by simp [*, pMsg, msgCells, flg]; exact Is.mk) (by simp; exact IsB.mk) (run_split 13 7 24 (by simp [*, pMsg, msgCells, flg]; exact Is.mk) (by simp; exact IsB.mk) (by simp [*, pMsg, msgCells, flg]; exact IsK.mk) (by simp [*, pMsg, msgCells, flg]; exact IsK.mk) (by simp; exact IsK.mk)) (run_split 13 7 24 (by simp [*, pMsg, msgCells, flg]; exact Is.mk) (by simp; exact IsB.mk) (by simp [*, pMsg, msgCells, flg]; exact IsK.mk) (by simp [*, pMsg, msgCells, flg]; exact IsK.mk) (by simp; exact IsK.mk)) (by simp; exact IsK.mk)) (run_split 6 7 17 (by simp [*, pMsg, msgCells, flg]; exact Is.mk) (by simp; exact IsB.mk) (run_split 13 7 24 (by simp [*, pMsg, msgCells, flg]; exact Is.mk) (by simp; exact IsB.mk) (by simp [*, pMsg, msgCells, flg]; exact IsK.mk) (by simp [*, pMsg, msgCells, flg]; exact IsK.mk) (by simp; exact IsK.mk)) (run_split 13 7 24 (by simp [*, pMsg, msgCells, flg]; exact Is.mk) (by simp; exact IsB.mk) (by simp [*, pMsg, msgCells, flg]; exact IsK.mk) (by simp [*, pMsg, msgCells, flg]; exact IsK.mk) (by simp; exact IsK.mk)) (by simp; exact IsK.mk)) (by simp; exact IsK.mk)), ?_⟩)
    | (refine tri_lastG (id := 1) (C := ⟨[2, 3], [], []⟩) [4] [] gok_nil nodraw ?_; refine ⟨_, (run_split 0 6 10 (by simp [*, pMsg, msgCells, flg]; exact Is.mk) (by simp; exact IsB.mk) (run_split 6 7 17 (by simp [*, pMsg, msgCells, flg]; exact Is.mk) (by simp; exact IsB.mk) (run_split 13 7 24 (by simp [*, pMsg, msgCells, flg]; exact Is.mk) (by simp; exact IsB.mk) (by simp [*, pMsg, msgCells, flg]; exact IsK.mk) (by simp [*, pMsg, msgCells, flg]; exact IsK.mk) (by simp; exact IsK.mk)) (run_split 13 7 24 (by simp [*, pMsg, msgCells, flg]; exact Is.mk) (by simp; exact IsB.mk) (by simp [*, pMsg, msgCells, flg]; exact IsK.mk) (by simp [*, pMsg, msgCells, flg]; exact IsK.mk) (by simp; exact IsK.mk)) (by simp; exact IsK.mk)) (run_split 6 7 17 (by simp [*, pMsg, msgCells, flg]; exact Is.mk) (by simp; exact IsB.mk) (run_split 13 7 24 (by simp [*, pMsg, msgCells, flg]; exact Is.mk) (by simp; exact IsB.mk) (by simp [*, pMsg, msgCells, flg]; exact IsK.mk) (by simp [*, pMsg, msgCells, flg]; exact IsK.mk) (by simp; exact IsK.mk)) (run_split 13 7 24 (by simp [*, pMsg, msgCells, flg]; exact Is.mk) (by simp; exact IsB.mk) (by simp [*, pMsg, msgCells, flg]; exact IsK.mk) (by simp [*, pMsg, msgCells, flg]; exact IsK.mk) (by simp; exact IsK.mk)) (by simp; exact IsK.mk)) (by simp; exact IsK.mk)), ?_⟩)
    | (refine to_mk (by simp; exact IsK.mk))
    | (refine imp_ ?_)
    | ((simp; exact IsK.mk))
    | (refine tri_seq ?_)
    ))
  all_goals (refine post_plainV (P := Tryz.prog) (fn := Tryz.f13) (by simp; exact IsV.mk) rfl ?_)
  all_goals (first | (simp [pMsg, msgCells, flg, msgCells]; done) | (simp [*, pMsg, msgCells, flg, msgCells]; done) | (simp_all [pMsg, msgCells, flg, msgCells]; done) | (simp [pMsg, msgCells, flg, msgCells] <;> (repeat' split) <;> simp_all; done) | (simp [pMsg, msgCells, flg, msgCells] <;> (repeat' split) <;> simp_all [Bool.and_assoc] <;> grind [List.length_eq_zero_iff, sendCells_co, recvCells_co, pieceCells_co, connCells_co, segCells_co, clockCells_co]))
open Classical in
noncomputable def F13 : Fn1
  | [x0, x1] => (whole pMsg x0).bind fun x => (whole pMsg x1).bind fun y => if x = y then some ((.v (.bool true)), none) else none
  | _ => none
theorem spec13 : Spec1 Tryz.prog 13 F13 := spec_of fun ys r o h => by
  unfold F13 at h
  split at h
  case h_2 => cases h
  obtain ⟨x, k0, h1⟩ := bind_some h
  obtain ⟨y, k1, h2⟩ := bind_some h1
  obtain ⟨hpre, hz⟩ := ite_some h2
  cases hz
  exact ⟨_, at13 x y hpre, rfl, le_plain ⟨whole_co pMsg_snd k0, ⟨whole_co pMsg_snd k1, trivial⟩⟩ (by simp only [List.all_cons, List.all_nil, Bool.not_false, Bool.and_self, notRefB (whole_co pMsg_snd k0) rfl (by simp), notRefB (whole_co pMsg_snd k1) rfl (by simp)]) rfl⟩
theorem en13 : Enters Tryz.prog 13 := enters_of Tryz.func13 (by kernel_rfl) rfl

end Go.Proofs.YtljlhooodbfpiaaGreatDoor

/-! The document's message of bytes: what its steps want. -/
namespace Caw
open Go Go.RowKit
theorem zb_ofL (l : List UInt8) : zb (ofL l) = l.map fun c => ((c.toNat : Nat) : Int) := rfl
theorem zb_extract (s : ByteArray) (a b : Nat) : zb (s.extract a b) = ((zb s).take b).drop a := by
  have h : s.extract a b = ofL (((bl s).take b).drop a) := ofL_extract (bl s) a b
  rw [h, zb_ofL, zb, List.map_drop, List.map_take]
theorem zb_list (s : ByteArray) : (s.data.toList.map fun b => AV.v (.int .u8 b.toNat)) = encB (zb s) := by
  simp [encB, zb, bl, Function.comp_def]
theorem zb_get (s : ByteArray) (i : Nat) (h : i < s.size) : (zb s)[i]? = some (((s[i]'h).toNat : Nat) : Int) := by
  have := zb_drop s i h
  have h2 : ((zb s).drop i)[0]? = (zb s)[i]? := by rw [List.getElem?_drop]; rfl
  rw [← h2, this]; rfl
/-- What the document's Open looks at. -/
theorem doc_facts {s : ByteArray} (h : ¬ s.size < 12) (hs : s.size ≤ 400) : ∃ (b2 b3 : UInt8) (c0 c1 c4 c5 c6 c7 c8 c9 c10 c11 : Int) (r : List Int),
    (∀ h : 2 < s.size, s[2]'h = b2) ∧ (∀ h : 3 < s.size, s[3]'h = b3) ∧ zb s = c0 :: c1 :: ((b2.toNat : Nat) : Int) :: ((b3.toNat : Nat) : Int) :: c4 :: c5 :: c6 :: c7 :: c8 :: c9 :: c10 :: c11 :: r ∧
    zb (s.extract 4 8) = [c4, c5, c6, c7] ∧ zb (s.extract 8 12) = [c8, c9, c10, c11] ∧ zb (s.extract 12 s.size) = r ∧ (s.extract 4 8).size ≤ 8 ∧ (s.extract 8 12).size ≤ 8 ∧ (2 : Nat) < s.size ∧ (3 : Nat) < s.size ∧
    (8 : Int) ≤ s.size ∧ (12 : Int) ≤ s.size ∧ s.size = r.length + 12 := by
  have hl : ¬ (zb s).length < 12 := by rw [zb_len]; exact h
  obtain ⟨c0, c1, c2, c3, c4, c5, c6, c7, c8, c9, c10, c11, r, hz⟩ := cons12 hl
  have g2 := zb_get s 2 (by omega)
  have g3 := zb_get s 3 (by omega)
  rw [hz] at g2 g3
  simp only [List.getElem?_cons_succ, List.getElem?_cons_zero, Option.some.injEq] at g2 g3
  have hlen := zb_len s
  rw [hz] at hlen
  simp only [List.length_cons] at hlen
  refine ⟨s[2], s[3], c0, c1, c4, c5, c6, c7, c8, c9, c10, c11, r, fun _ => rfl, fun _ => rfl, ?_, ?_, ?_, ?_, ?_, ?_, by omega, by omega, by omega, by omega, by omega⟩
  · rw [hz, g2, g3]
  · rw [zb_extract, hz]; rfl
  · rw [zb_extract, hz]; rfl
  · rw [zb_extract, List.take_of_length_le (by rw [zb_len]; exact Nat.le_refl _), hz]; rfl
  · simp [ByteArray.size_extract]; omega
  · simp [ByteArray.size_extract]; omega
end Caw
namespace Caw
open Go Go.RowKit
theorem zb_str {b : List Int} (h : u8L b) : zb ⟨(b.map fun n => UInt8.ofNat n.toNat).toArray⟩ = b := by
  have e : zb ⟨(b.map fun n => UInt8.ofNat n.toNat).toArray⟩ = b.map fun n => (((UInt8.ofNat n.toNat).toNat : Nat) : Int) := by
    simp [zb, bl, Function.comp_def]
  rw [e]
  conv => rhs; rw [← List.map_id b]
  refine List.map_congr_left (fun c hc => ?_)
  have := h c hc
  simp only [id, UInt8.toNat_ofNat']
  omega
end Caw

-- Printed by genwalk.py.
namespace Go.Proofs.YtljlhooodbfpiaaGreatDoor
open Go Go.RowKit Caw
set_option linter.unusedSimpArgs false
set_option linter.unusedVariables false
set_option maxRecDepth 100000

-- caravel/caravelref24.Open
theorem g12 : GOk1 Tryz.prog (ctxOf [(26, F26), (27, F27)]) := gok_cons spec26 en26 (gok_cons spec27 en27 (gok_nil))
set_option maxHeartbeats 4000000 in
theorem at12 (s : ByteArray) (hpre : s.size ≤ 400) : SpecAt Tryz.prog 12 [.v (.string s)] (.tup [.agg (msgCells (openF (zb s)).1), .v (.int .i64 (openF (zb s)).2)]) none := by
  have hn5 : s.size ≤ 100000 := by omega
  refine specAt_of_tri Tryz.func12 rfl (Nat.le_of_ble_eq_true rfl) ?_
  by_cases h12 : s.size < 12
  · have q3 : openF (zb s) = (⟨0, 0, 0, []⟩, 6) := if_pos (by rw [zb_len]; exact h12)
    have q4 : (s.size : Int) < 12 := by omega
    all_goals (repeat' (first
      | (refine tri_condT (b_true (by simp; with_reducible exact IsB.mk)) ?_)
      | (refine tri_condF (b_true (by simp; with_reducible exact IsB.mk)) ?_)
      | (refine tri_skipT ?_)
      | (refine tri_skip ?_)
      | (refine then_to ?_)
      | (refine th_n ?_)
      | (refine in_n ?_)
      | (refine in_e ?_)
      | (refine in_x rfl ?_)
      | (refine th_e ?_)
      | (refine th_r ?_)
      | (refine in_r ?_)
      | (refine tri_ret ?_)
      | (refine tri_exit ?_)
      | (refine tri_block ?_)
      | (refine tri_step (id := 0) (C := ⟨[], [], [(9, (10, 0, 0)), (42, (10, 0, 0)), (46, (10, 0, 0)), (54, (10, 0, 0)), (60, (10, 0, 0))]⟩) [0, 2] [(3, 0, 0)] g12 nodraw ?_; refine ⟨_, by (simp [*, F26, F27, pMsg, msgCells, zb_list, flg]; exact Is.mk), ?_⟩)
      | (refine tri_last (id := 0) (C := ⟨[], [], [(9, (10, 0, 0)), (42, (10, 0, 0)), (46, (10, 0, 0)), (54, (10, 0, 0)), (60, (10, 0, 0))]⟩) [0, 2] [(3, 0, 0)] g12 nodraw ?_; refine ⟨_, by (simp [*, F26, F27, pMsg, msgCells, zb_list, flg]; exact Is.mk), ?_⟩)
      | (refine tri_step (id := 1) (C := ⟨[], [], [(9, (10, 0, 0)), (42, (10, 0, 0)), (46, (10, 0, 0)), (54, (10, 0, 0)), (60, (10, 0, 0))]⟩) [0, 2, 4] [(3, 0, 0), (5, 0, 0)] g12 nodraw ?_; refine ⟨_, by (simp [*, F26, F27, pMsg, msgCells, zb_list, flg]; exact Is.mk), ?_⟩)
      | (refine tri_last (id := 1) (C := ⟨[], [], [(9, (10, 0, 0)), (42, (10, 0, 0)), (46, (10, 0, 0)), (54, (10, 0, 0)), (60, (10, 0, 0))]⟩) [0, 2, 4] [(3, 0, 0), (5, 0, 0)] g12 nodraw ?_; refine ⟨_, by (simp [*, F26, F27, pMsg, msgCells, zb_list, flg]; exact Is.mk), ?_⟩)
      | (refine tri_step (id := 2) (C := ⟨[], [], [(9, (10, 0, 0)), (42, (10, 0, 0)), (46, (10, 0, 0)), (54, (10, 0, 0)), (60, (10, 0, 0))]⟩) [0, 2, 4, 13] [(3, 0, 0), (5, 0, 0)] g12 nodraw ?_; refine ⟨_, by (simp [*, F26, F27, pMsg, msgCells, zb_list, flg]; exact Is.mk), ?_⟩)
      | (refine tri_last (id := 2) (C := ⟨[], [], [(9, (10, 0, 0)), (42, (10, 0, 0)), (46, (10, 0, 0)), (54, (10, 0, 0)), (60, (10, 0, 0))]⟩) [0, 2, 4, 13] [(3, 0, 0), (5, 0, 0)] g12 nodraw ?_; refine ⟨_, by (simp [*, F26, F27, pMsg, msgCells, zb_list, flg]; exact Is.mk), ?_⟩)
      | (refine tri_step (id := 3) (C := ⟨[], [], [(9, (10, 0, 0)), (42, (10, 0, 0)), (46, (10, 0, 0)), (54, (10, 0, 0)), (60, (10, 0, 0))]⟩) [2, 3] [(3, 0, 0)] g12 nodraw ?_; refine ⟨_, by (simp [*, F26, F27, pMsg, msgCells, zb_list, flg]; exact Is.mk), ?_⟩)
      | (refine tri_last (id := 3) (C := ⟨[], [], [(9, (10, 0, 0)), (42, (10, 0, 0)), (46, (10, 0, 0)), (54, (10, 0, 0)), (60, (10, 0, 0))]⟩) [2, 3] [(3, 0, 0)] g12 nodraw ?_; refine ⟨_, by (simp [*, F26, F27, pMsg, msgCells, zb_list, flg]; exact Is.mk), ?_⟩)
      | (refine tri_step (id := 4) (C := ⟨[], [], [(9, (10, 0, 0)), (42, (10, 0, 0)), (46, (10, 0, 0)), (54, (10, 0, 0)), (60, (10, 0, 0))]⟩) [0, 2, 4, 17] [(3, 0, 0), (5, 0, 0)] g12 nodraw ?_; refine ⟨_, by (simp [*, F26, F27, pMsg, msgCells, zb_list, flg]; exact Is.mk), ?_⟩)
      | (refine tri_last (id := 4) (C := ⟨[], [], [(9, (10, 0, 0)), (42, (10, 0, 0)), (46, (10, 0, 0)), (54, (10, 0, 0)), (60, (10, 0, 0))]⟩) [0, 2, 4, 17] [(3, 0, 0), (5, 0, 0)] g12 nodraw ?_; refine ⟨_, by (simp [*, F26, F27, pMsg, msgCells, zb_list, flg]; exact Is.mk), ?_⟩)
      | (refine tri_step (id := 5) (C := ⟨[], [], [(9, (10, 0, 0)), (42, (10, 0, 0)), (46, (10, 0, 0)), (54, (10, 0, 0)), (60, (10, 0, 0))]⟩) [2, 3] [(3, 0, 0)] g12 nodraw ?_; refine ⟨_, by (simp [*, F26, F27, pMsg, msgCells, zb_list, flg]; exact Is.mk), ?_⟩)
      | (refine tri_last (id := 5) (C := ⟨[], [], [(9, (10, 0, 0)), (42, (10, 0, 0)), (46, (10, 0, 0)), (54, (10, 0, 0)), (60, (10, 0, 0))]⟩) [2, 3] [(3, 0, 0)] g12 nodraw ?_; refine ⟨_, by (simp [*, F26, F27, pMsg, msgCells, zb_list, flg]; exact Is.mk), ?_⟩)
      | (refine tri_step (id := 6) (C := ⟨[], [], [(9, (10, 0, 0)), (42, (10, 0, 0)), (46, (10, 0, 0)), (54, (10, 0, 0)), (60, (10, 0, 0))]⟩) [0, 2, 4, 5] [(3, 0, 0), (5, 0, 0)] g12 nodraw ?_; refine ⟨_, by (simp [*, F26, F27, pMsg, msgCells, zb_list, flg]; exact Is.mk), ?_⟩)
      | (refine tri_last (id := 6) (C := ⟨[], [], [(9, (10, 0, 0)), (42, (10, 0, 0)), (46, (10, 0, 0)), (54, (10, 0, 0)), (60, (10, 0, 0))]⟩) [0, 2, 4, 5] [(3, 0, 0), (5, 0, 0)] g12 nodraw ?_; refine ⟨_, by (simp [*, F26, F27, pMsg, msgCells, zb_list, flg]; exact Is.mk), ?_⟩)
      | (refine tri_step (id := 7) (C := ⟨[], [], [(9, (10, 0, 0)), (42, (10, 0, 0)), (46, (10, 0, 0)), (54, (10, 0, 0)), (60, (10, 0, 0))]⟩) [0, 2, 4, 5, 7] [(3, 0, 0), (5, 0, 0)] g12 nodraw ?_; refine ⟨_, by (simp [*, F26, F27, pMsg, msgCells, zb_list, flg]; exact Is.mk), ?_⟩)
      | (refine tri_last (id := 7) (C := ⟨[], [], [(9, (10, 0, 0)), (42, (10, 0, 0)), (46, (10, 0, 0)), (54, (10, 0, 0)), (60, (10, 0, 0))]⟩) [0, 2, 4, 5, 7] [(3, 0, 0), (5, 0, 0)] g12 nodraw ?_; refine ⟨_, by (simp [*, F26, F27, pMsg, msgCells, zb_list, flg]; exact Is.mk), ?_⟩)
      | (refine tri_step (id := 8) (C := ⟨[], [], [(9, (10, 0, 0)), (42, (10, 0, 0)), (46, (10, 0, 0)), (54, (10, 0, 0)), (60, (10, 0, 0))]⟩) [0, 2, 4, 9] [(3, 0, 0), (5, 0, 0), (10, 0, 0)] g12 (fun _ => ⟨q_mixed, by kernel_rfl⟩) ?_; refine ⟨_, by (simp [*, F26, F27, pMsg, msgCells, zb_list, flg]; exact Is.mk), ?_⟩)
      | (refine tri_last (id := 8) (C := ⟨[], [], [(9, (10, 0, 0)), (42, (10, 0, 0)), (46, (10, 0, 0)), (54, (10, 0, 0)), (60, (10, 0, 0))]⟩) [0, 2, 4, 9] [(3, 0, 0), (5, 0, 0), (10, 0, 0)] g12 (fun _ => ⟨q_mixed, by kernel_rfl⟩) ?_; refine ⟨_, by (simp [*, F26, F27, pMsg, msgCells, zb_list, flg]; exact Is.mk), ?_⟩)
      | (refine tri_stepG (id := 9) (C := ⟨[], [], [(9, (10, 0, 0)), (42, (10, 0, 0)), (46, (10, 0, 0)), (54, (10, 0, 0)), (60, (10, 0, 0))]⟩) [2, 4, 9, 64] [(3, 0, 0), (5, 0, 0), (10, 0, 0)] g12 (fun _ => ⟨q_mixed, by kernel_rfl⟩) ?_; refine ⟨_, (run_split 0 4 45 (by simp [*, F26, F27, pMsg, msgCells, zb_list, flg]; exact Is.mk) (by simp; exact IsB.mk) (run_split 4 5 50 (by simp [*, F26, F27, pMsg, msgCells, zb_list, flg]; exact Is.mk) (by simp; exact IsB.mk) (run_split 9 9 59 (by simp [*, F26, F27, pMsg, msgCells, zb_list, flg]; exact Is.mk) (by simp; exact IsB.mk) (by simp [*, F26, F27, pMsg, msgCells, zb_list, flg]; exact IsK.mk) (by simp [*, F26, F27, pMsg, msgCells, zb_list, flg]; exact IsK.mk) (by simp; exact IsK.mk)) (run_split 9 9 59 (by simp [*, F26, F27, pMsg, msgCells, zb_list, flg]; exact Is.mk) (by simp; exact IsB.mk) (by simp [*, F26, F27, pMsg, msgCells, zb_list, flg]; exact IsK.mk) (by simp [*, F26, F27, pMsg, msgCells, zb_list, flg]; exact IsK.mk) (by simp; exact IsK.mk)) (by simp; exact IsK.mk)) (run_split 4 5 50 (by simp [*, F26, F27, pMsg, msgCells, zb_list, flg]; exact Is.mk) (by simp; exact IsB.mk) (run_split 9 9 59 (by simp [*, F26, F27, pMsg, msgCells, zb_list, flg]; exact Is.mk) (by simp; exact IsB.mk) (by simp [*, F26, F27, pMsg, msgCells, zb_list, flg]; exact IsK.mk) (by simp [*, F26, F27, pMsg, msgCells, zb_list, flg]; exact IsK.mk) (by simp; exact IsK.mk)) (run_split 9 9 59 (by simp [*, F26, F27, pMsg, msgCells, zb_list, flg]; exact Is.mk) (by simp; exact IsB.mk) (by simp [*, F26, F27, pMsg, msgCells, zb_list, flg]; exact IsK.mk) (by simp [*, F26, F27, pMsg, msgCells, zb_list, flg]; exact IsK.mk) (by simp; exact IsK.mk)) (by simp; exact IsK.mk)) (by simp; exact IsK.mk)), ?_⟩)
      | (refine tri_lastG (id := 9) (C := ⟨[], [], [(9, (10, 0, 0)), (42, (10, 0, 0)), (46, (10, 0, 0)), (54, (10, 0, 0)), (60, (10, 0, 0))]⟩) [2, 4, 9, 64] [(3, 0, 0), (5, 0, 0), (10, 0, 0)] g12 (fun _ => ⟨q_mixed, by kernel_rfl⟩) ?_; refine ⟨_, (run_split 0 4 45 (by simp [*, F26, F27, pMsg, msgCells, zb_list, flg]; exact Is.mk) (by simp; exact IsB.mk) (run_split 4 5 50 (by simp [*, F26, F27, pMsg, msgCells, zb_list, flg]; exact Is.mk) (by simp; exact IsB.mk) (run_split 9 9 59 (by simp [*, F26, F27, pMsg, msgCells, zb_list, flg]; exact Is.mk) (by simp; exact IsB.mk) (by simp [*, F26, F27, pMsg, msgCells, zb_list, flg]; exact IsK.mk) (by simp [*, F26, F27, pMsg, msgCells, zb_list, flg]; exact IsK.mk) (by simp; exact IsK.mk)) (run_split 9 9 59 (by simp [*, F26, F27, pMsg, msgCells, zb_list, flg]; exact Is.mk) (by simp; exact IsB.mk) (by simp [*, F26, F27, pMsg, msgCells, zb_list, flg]; exact IsK.mk) (by simp [*, F26, F27, pMsg, msgCells, zb_list, flg]; exact IsK.mk) (by simp; exact IsK.mk)) (by simp; exact IsK.mk)) (run_split 4 5 50 (by simp [*, F26, F27, pMsg, msgCells, zb_list, flg]; exact Is.mk) (by simp; exact IsB.mk) (run_split 9 9 59 (by simp [*, F26, F27, pMsg, msgCells, zb_list, flg]; exact Is.mk) (by simp; exact IsB.mk) (by simp [*, F26, F27, pMsg, msgCells, zb_list, flg]; exact IsK.mk) (by simp [*, F26, F27, pMsg, msgCells, zb_list, flg]; exact IsK.mk) (by simp; exact IsK.mk)) (run_split 9 9 59 (by simp [*, F26, F27, pMsg, msgCells, zb_list, flg]; exact Is.mk) (by simp; exact IsB.mk) (by simp [*, F26, F27, pMsg, msgCells, zb_list, flg]; exact IsK.mk) (by simp [*, F26, F27, pMsg, msgCells, zb_list, flg]; exact IsK.mk) (by simp; exact IsK.mk)) (by simp; exact IsK.mk)) (by simp; exact IsK.mk)), ?_⟩)
      | (refine tri_step (id := 10) (C := ⟨[], [], [(9, (10, 0, 0)), (42, (10, 0, 0)), (46, (10, 0, 0)), (54, (10, 0, 0)), (60, (10, 0, 0))]⟩) [2, 3] [(3, 0, 0)] g12 nodraw ?_; refine ⟨_, by (simp [*, F26, F27, pMsg, msgCells, zb_list, flg]; exact Is.mk), ?_⟩)
      | (refine tri_last (id := 10) (C := ⟨[], [], [(9, (10, 0, 0)), (42, (10, 0, 0)), (46, (10, 0, 0)), (54, (10, 0, 0)), (60, (10, 0, 0))]⟩) [2, 3] [(3, 0, 0)] g12 nodraw ?_; refine ⟨_, by (simp [*, F26, F27, pMsg, msgCells, zb_list, flg]; exact Is.mk), ?_⟩)
      | (refine tri_step (id := 11) (C := ⟨[], [], [(9, (10, 0, 0)), (42, (10, 0, 0)), (46, (10, 0, 0)), (54, (10, 0, 0)), (60, (10, 0, 0))]⟩) [2, 3] [(3, 0, 0)] g12 nodraw ?_; refine ⟨_, by (simp [*, F26, F27, pMsg, msgCells, zb_list, flg]; exact Is.mk), ?_⟩)
      | (refine tri_last (id := 11) (C := ⟨[], [], [(9, (10, 0, 0)), (42, (10, 0, 0)), (46, (10, 0, 0)), (54, (10, 0, 0)), (60, (10, 0, 0))]⟩) [2, 3] [(3, 0, 0)] g12 nodraw ?_; refine ⟨_, by (simp [*, F26, F27, pMsg, msgCells, zb_list, flg]; exact Is.mk), ?_⟩)
      | (refine tri_cond (c := .tmp 13) (b_true (by simp; exact IsB.mk)) (fun hc => ?_) (fun hc => ?_))
      | (refine tri_cond (c := .tmp 17) (b_true (by simp; exact IsB.mk)) (fun hc => ?_) (fun hc => ?_))
      | (refine tri_cond (c := .tmp 64) (b_true (by simp; exact IsB.mk)) (fun hc => ?_) (fun hc => ?_))
      | (refine to_mk (by simp; exact IsK.mk))
      | (refine imp_ ?_)
      | ((simp; exact IsK.mk))
      | (refine tri_seq ?_)
      ))
    all_goals (refine post_plainV (P := Tryz.prog) (fn := Tryz.f12) (by simp; exact IsV.mk) rfl ?_)
    all_goals (simp [q3, msgCells]; done)
  · have h12z : ¬ (zb s).length < 12 := by rw [zb_len]; exact h12
    have q4 : ¬ (s.size : Int) < 12 := by omega
    by_cases hs : sumF (zb s) = 65535
    · obtain ⟨b2, b3, c0, c1, c4, c5, c6, c7, c8, c9, c10, c11, r, e2, e3, hz, z1, z2, z3, n1, n2, n3, n4, n5, n6, n7⟩ := doc_facts h12 hpre
      have hu := zb_u8 s
      have p1 : 8 ≤ s.size := by omega
      have p2 : 12 ≤ s.size := by omega
      have p3 : min 8 s.size - 4 ≤ 8 := by omega
      have z4 : (zb s).drop 12 = r := by rw [hz]; rfl
      have f1 : s.size - 12 = r.length := by omega
      have f2 : (zb s).length - 12 = r.length := by rw [zb_len]; omega
      have f3 : (s.extract 12 s.size).size = r.length := by rw [← zb_len, z3]
      have p4 : min 12 s.size - 8 ≤ 8 := by omega
      rw [hz] at hs hu
      obtain ⟨k1, k2, k3, k4, k5, k6, k7⟩ := open12_facts _ _ _ _ _ _ _ _ _ _ _ _ _ hu
      have hs2 : sumF (zb s) = 65535 := by rw [hz]; exact hs
      clear h12 h12z hu n7
      rcases bad_cases ((b2.toNat : Nat) : Int) ((b3.toNat : Nat) : Int) r with ⟨hb, b1⟩ | ⟨hb, b1, b2'⟩ | ⟨hb, b1, b2', b3'⟩ | ⟨hb, b1, b2', b3', b4⟩ | ⟨hb, b1, b2', b3', b4⟩
      case inr.inr.inr.inr =>
        have q3 : openF (zb s) = _ := (congrArg openF hz).trans (open12_ok _ _ _ _ _ _ _ _ _ _ _ _ _ hs hb)
        clear hb hz
        all_goals (repeat' (first
      | (refine tri_condT (b_true (by simp; with_reducible exact IsB.mk)) ?_)
      | (refine tri_condF (b_true (by simp; with_reducible exact IsB.mk)) ?_)
      | (refine tri_skipT ?_)
      | (refine tri_skip ?_)
      | (refine then_to ?_)
      | (refine th_n ?_)
      | (refine in_n ?_)
      | (refine in_e ?_)
      | (refine in_x rfl ?_)
      | (refine th_e ?_)
      | (refine th_r ?_)
      | (refine in_r ?_)
      | (refine tri_ret ?_)
      | (refine tri_exit ?_)
      | (refine tri_block ?_)
      | (refine tri_step (id := 0) (C := ⟨[], [], [(9, (10, 0, 0)), (42, (10, 0, 0)), (46, (10, 0, 0)), (54, (10, 0, 0)), (60, (10, 0, 0))]⟩) [0, 2] [(3, 0, 0)] g12 nodraw ?_; refine ⟨_, by (simp [*, F26, F27, pMsg, msgCells, zb_list, flg]; exact Is.mk), ?_⟩)
      | (refine tri_last (id := 0) (C := ⟨[], [], [(9, (10, 0, 0)), (42, (10, 0, 0)), (46, (10, 0, 0)), (54, (10, 0, 0)), (60, (10, 0, 0))]⟩) [0, 2] [(3, 0, 0)] g12 nodraw ?_; refine ⟨_, by (simp [*, F26, F27, pMsg, msgCells, zb_list, flg]; exact Is.mk), ?_⟩)
      | (refine tri_step (id := 1) (C := ⟨[], [], [(9, (10, 0, 0)), (42, (10, 0, 0)), (46, (10, 0, 0)), (54, (10, 0, 0)), (60, (10, 0, 0))]⟩) [0, 2, 4] [(3, 0, 0), (5, 0, 0)] g12 nodraw ?_; refine ⟨_, by (simp [*, F26, F27, pMsg, msgCells, zb_list, flg]; exact Is.mk), ?_⟩)
      | (refine tri_last (id := 1) (C := ⟨[], [], [(9, (10, 0, 0)), (42, (10, 0, 0)), (46, (10, 0, 0)), (54, (10, 0, 0)), (60, (10, 0, 0))]⟩) [0, 2, 4] [(3, 0, 0), (5, 0, 0)] g12 nodraw ?_; refine ⟨_, by (simp [*, F26, F27, pMsg, msgCells, zb_list, flg]; exact Is.mk), ?_⟩)
      | (refine tri_step (id := 2) (C := ⟨[], [], [(9, (10, 0, 0)), (42, (10, 0, 0)), (46, (10, 0, 0)), (54, (10, 0, 0)), (60, (10, 0, 0))]⟩) [0, 2, 4, 13] [(3, 0, 0), (5, 0, 0)] g12 nodraw ?_; refine ⟨_, by (simp [*, F26, F27, pMsg, msgCells, zb_list, flg]; exact Is.mk), ?_⟩)
      | (refine tri_last (id := 2) (C := ⟨[], [], [(9, (10, 0, 0)), (42, (10, 0, 0)), (46, (10, 0, 0)), (54, (10, 0, 0)), (60, (10, 0, 0))]⟩) [0, 2, 4, 13] [(3, 0, 0), (5, 0, 0)] g12 nodraw ?_; refine ⟨_, by (simp [*, F26, F27, pMsg, msgCells, zb_list, flg]; exact Is.mk), ?_⟩)
      | (refine tri_step (id := 3) (C := ⟨[], [], [(9, (10, 0, 0)), (42, (10, 0, 0)), (46, (10, 0, 0)), (54, (10, 0, 0)), (60, (10, 0, 0))]⟩) [2, 3] [(3, 0, 0)] g12 nodraw ?_; refine ⟨_, by (simp [*, F26, F27, pMsg, msgCells, zb_list, flg]; exact Is.mk), ?_⟩)
      | (refine tri_last (id := 3) (C := ⟨[], [], [(9, (10, 0, 0)), (42, (10, 0, 0)), (46, (10, 0, 0)), (54, (10, 0, 0)), (60, (10, 0, 0))]⟩) [2, 3] [(3, 0, 0)] g12 nodraw ?_; refine ⟨_, by (simp [*, F26, F27, pMsg, msgCells, zb_list, flg]; exact Is.mk), ?_⟩)
      | (refine tri_step (id := 4) (C := ⟨[], [], [(9, (10, 0, 0)), (42, (10, 0, 0)), (46, (10, 0, 0)), (54, (10, 0, 0)), (60, (10, 0, 0))]⟩) [0, 2, 4, 17] [(3, 0, 0), (5, 0, 0)] g12 nodraw ?_; refine ⟨_, by (simp [*, F26, F27, pMsg, msgCells, zb_list, flg]; exact Is.mk), ?_⟩)
      | (refine tri_last (id := 4) (C := ⟨[], [], [(9, (10, 0, 0)), (42, (10, 0, 0)), (46, (10, 0, 0)), (54, (10, 0, 0)), (60, (10, 0, 0))]⟩) [0, 2, 4, 17] [(3, 0, 0), (5, 0, 0)] g12 nodraw ?_; refine ⟨_, by (simp [*, F26, F27, pMsg, msgCells, zb_list, flg]; exact Is.mk), ?_⟩)
      | (refine tri_step (id := 5) (C := ⟨[], [], [(9, (10, 0, 0)), (42, (10, 0, 0)), (46, (10, 0, 0)), (54, (10, 0, 0)), (60, (10, 0, 0))]⟩) [2, 3] [(3, 0, 0)] g12 nodraw ?_; refine ⟨_, by (simp [*, F26, F27, pMsg, msgCells, zb_list, flg]; exact Is.mk), ?_⟩)
      | (refine tri_last (id := 5) (C := ⟨[], [], [(9, (10, 0, 0)), (42, (10, 0, 0)), (46, (10, 0, 0)), (54, (10, 0, 0)), (60, (10, 0, 0))]⟩) [2, 3] [(3, 0, 0)] g12 nodraw ?_; refine ⟨_, by (simp [*, F26, F27, pMsg, msgCells, zb_list, flg]; exact Is.mk), ?_⟩)
      | (refine tri_step (id := 6) (C := ⟨[], [], [(9, (10, 0, 0)), (42, (10, 0, 0)), (46, (10, 0, 0)), (54, (10, 0, 0)), (60, (10, 0, 0))]⟩) [0, 2, 4, 5] [(3, 0, 0), (5, 0, 0)] g12 nodraw ?_; refine ⟨_, by (simp [*, F26, F27, pMsg, msgCells, zb_list, flg]; exact Is.mk), ?_⟩)
      | (refine tri_last (id := 6) (C := ⟨[], [], [(9, (10, 0, 0)), (42, (10, 0, 0)), (46, (10, 0, 0)), (54, (10, 0, 0)), (60, (10, 0, 0))]⟩) [0, 2, 4, 5] [(3, 0, 0), (5, 0, 0)] g12 nodraw ?_; refine ⟨_, by (simp [*, F26, F27, pMsg, msgCells, zb_list, flg]; exact Is.mk), ?_⟩)
      | (refine tri_step (id := 7) (C := ⟨[], [], [(9, (10, 0, 0)), (42, (10, 0, 0)), (46, (10, 0, 0)), (54, (10, 0, 0)), (60, (10, 0, 0))]⟩) [0, 2, 4, 5, 7] [(3, 0, 0), (5, 0, 0)] g12 nodraw ?_; refine ⟨_, by (simp [*, F26, F27, pMsg, msgCells, zb_list, flg]; exact Is.mk), ?_⟩)
      | (refine tri_last (id := 7) (C := ⟨[], [], [(9, (10, 0, 0)), (42, (10, 0, 0)), (46, (10, 0, 0)), (54, (10, 0, 0)), (60, (10, 0, 0))]⟩) [0, 2, 4, 5, 7] [(3, 0, 0), (5, 0, 0)] g12 nodraw ?_; refine ⟨_, by (simp [*, F26, F27, pMsg, msgCells, zb_list, flg]; exact Is.mk), ?_⟩)
      | (refine tri_step (id := 8) (C := ⟨[], [], [(9, (10, 0, 0)), (42, (10, 0, 0)), (46, (10, 0, 0)), (54, (10, 0, 0)), (60, (10, 0, 0))]⟩) [0, 2, 4, 9] [(3, 0, 0), (5, 0, 0), (10, 0, 0)] g12 (fun _ => ⟨q_mixed, by kernel_rfl⟩) ?_; refine ⟨_, by (simp [*, F26, F27, pMsg, msgCells, zb_list, flg]; exact Is.mk), ?_⟩)
      | (refine tri_last (id := 8) (C := ⟨[], [], [(9, (10, 0, 0)), (42, (10, 0, 0)), (46, (10, 0, 0)), (54, (10, 0, 0)), (60, (10, 0, 0))]⟩) [0, 2, 4, 9] [(3, 0, 0), (5, 0, 0), (10, 0, 0)] g12 (fun _ => ⟨q_mixed, by kernel_rfl⟩) ?_; refine ⟨_, by (simp [*, F26, F27, pMsg, msgCells, zb_list, flg]; exact Is.mk), ?_⟩)
      | (refine tri_stepG (id := 9) (C := ⟨[], [], [(9, (10, 0, 0)), (42, (10, 0, 0)), (46, (10, 0, 0)), (54, (10, 0, 0)), (60, (10, 0, 0))]⟩) [2, 4, 9, 64] [(3, 0, 0), (5, 0, 0), (10, 0, 0)] g12 (fun _ => ⟨q_mixed, by kernel_rfl⟩) ?_; refine ⟨_, (run_split 0 4 45 (by simp [*, F26, F27, pMsg, msgCells, zb_list, flg]; exact Is.mk) (by simp; exact IsB.mk) (run_split 4 5 50 (by simp [*, F26, F27, pMsg, msgCells, zb_list, flg]; exact Is.mk) (by simp; exact IsB.mk) (run_split 9 9 59 (by simp [*, F26, F27, pMsg, msgCells, zb_list, flg]; exact Is.mk) (by simp; exact IsB.mk) (by simp [*, F26, F27, pMsg, msgCells, zb_list, flg]; exact IsK.mk) (by simp [*, F26, F27, pMsg, msgCells, zb_list, flg]; exact IsK.mk) (by simp; exact IsK.mk)) (run_split 9 9 59 (by simp [*, F26, F27, pMsg, msgCells, zb_list, flg]; exact Is.mk) (by simp; exact IsB.mk) (by simp [*, F26, F27, pMsg, msgCells, zb_list, flg]; exact IsK.mk) (by simp [*, F26, F27, pMsg, msgCells, zb_list, flg]; exact IsK.mk) (by simp; exact IsK.mk)) (by simp; exact IsK.mk)) (run_split 4 5 50 (by simp [*, F26, F27, pMsg, msgCells, zb_list, flg]; exact Is.mk) (by simp; exact IsB.mk) (run_split 9 9 59 (by simp [*, F26, F27, pMsg, msgCells, zb_list, flg]; exact Is.mk) (by simp; exact IsB.mk) (by simp [*, F26, F27, pMsg, msgCells, zb_list, flg]; exact IsK.mk) (by simp [*, F26, F27, pMsg, msgCells, zb_list, flg]; exact IsK.mk) (by simp; exact IsK.mk)) (run_split 9 9 59 (by simp [*, F26, F27, pMsg, msgCells, zb_list, flg]; exact Is.mk) (by simp; exact IsB.mk) (by simp [*, F26, F27, pMsg, msgCells, zb_list, flg]; exact IsK.mk) (by simp [*, F26, F27, pMsg, msgCells, zb_list, flg]; exact IsK.mk) (by simp; exact IsK.mk)) (by simp; exact IsK.mk)) (by simp; exact IsK.mk)), ?_⟩)
      | (refine tri_lastG (id := 9) (C := ⟨[], [], [(9, (10, 0, 0)), (42, (10, 0, 0)), (46, (10, 0, 0)), (54, (10, 0, 0)), (60, (10, 0, 0))]⟩) [2, 4, 9, 64] [(3, 0, 0), (5, 0, 0), (10, 0, 0)] g12 (fun _ => ⟨q_mixed, by kernel_rfl⟩) ?_; refine ⟨_, (run_split 0 4 45 (by simp [*, F26, F27, pMsg, msgCells, zb_list, flg]; exact Is.mk) (by simp; exact IsB.mk) (run_split 4 5 50 (by simp [*, F26, F27, pMsg, msgCells, zb_list, flg]; exact Is.mk) (by simp; exact IsB.mk) (run_split 9 9 59 (by simp [*, F26, F27, pMsg, msgCells, zb_list, flg]; exact Is.mk) (by simp; exact IsB.mk) (by simp [*, F26, F27, pMsg, msgCells, zb_list, flg]; exact IsK.mk) (by simp [*, F26, F27, pMsg, msgCells, zb_list, flg]; exact IsK.mk) (by simp; exact IsK.mk)) (run_split 9 9 59 (by simp [*, F26, F27, pMsg, msgCells, zb_list, flg]; exact Is.mk) (by simp; exact IsB.mk) (by simp [*, F26, F27, pMsg, msgCells, zb_list, flg]; exact IsK.mk) (by simp [*, F26, F27, pMsg, msgCells, zb_list, flg]; exact IsK.mk) (by simp; exact IsK.mk)) (by simp; exact IsK.mk)) (run_split 4 5 50 (by simp [*, F26, F27, pMsg, msgCells, zb_list, flg]; exact Is.mk) (by simp; exact IsB.mk) (run_split 9 9 59 (by simp [*, F26, F27, pMsg, msgCells, zb_list, flg]; exact Is.mk) (by simp; exact IsB.mk) (by simp [*, F26, F27, pMsg, msgCells, zb_list, flg]; exact IsK.mk) (by simp [*, F26, F27, pMsg, msgCells, zb_list, flg]; exact IsK.mk) (by simp; exact IsK.mk)) (run_split 9 9 59 (by simp [*, F26, F27, pMsg, msgCells, zb_list, flg]; exact Is.mk) (by simp; exact IsB.mk) (by simp [*, F26, F27, pMsg, msgCells, zb_list, flg]; exact IsK.mk) (by simp [*, F26, F27, pMsg, msgCells, zb_list, flg]; exact IsK.mk) (by simp; exact IsK.mk)) (by simp; exact IsK.mk)) (by simp; exact IsK.mk)), ?_⟩)
      | (refine tri_step (id := 10) (C := ⟨[], [], [(9, (10, 0, 0)), (42, (10, 0, 0)), (46, (10, 0, 0)), (54, (10, 0, 0)), (60, (10, 0, 0))]⟩) [2, 3] [(3, 0, 0)] g12 nodraw ?_; refine ⟨_, by (simp [*, F26, F27, pMsg, msgCells, zb_list, flg]; exact Is.mk), ?_⟩)
      | (refine tri_last (id := 10) (C := ⟨[], [], [(9, (10, 0, 0)), (42, (10, 0, 0)), (46, (10, 0, 0)), (54, (10, 0, 0)), (60, (10, 0, 0))]⟩) [2, 3] [(3, 0, 0)] g12 nodraw ?_; refine ⟨_, by (simp [*, F26, F27, pMsg, msgCells, zb_list, flg]; exact Is.mk), ?_⟩)
      | (refine tri_step (id := 11) (C := ⟨[], [], [(9, (10, 0, 0)), (42, (10, 0, 0)), (46, (10, 0, 0)), (54, (10, 0, 0)), (60, (10, 0, 0))]⟩) [2, 3] [(3, 0, 0)] g12 nodraw ?_; refine ⟨_, by (simp [*, F26, F27, pMsg, msgCells, zb_list, flg]; exact Is.mk), ?_⟩)
      | (refine tri_last (id := 11) (C := ⟨[], [], [(9, (10, 0, 0)), (42, (10, 0, 0)), (46, (10, 0, 0)), (54, (10, 0, 0)), (60, (10, 0, 0))]⟩) [2, 3] [(3, 0, 0)] g12 nodraw ?_; refine ⟨_, by (simp [*, F26, F27, pMsg, msgCells, zb_list, flg]; exact Is.mk), ?_⟩)
      | (refine tri_cond (c := .tmp 13) (b_true (by simp; exact IsB.mk)) (fun hc => ?_) (fun hc => ?_))
      | (refine tri_cond (c := .tmp 17) (b_true (by simp; exact IsB.mk)) (fun hc => ?_) (fun hc => ?_))
      | (refine tri_cond (c := .tmp 64) (b_true (by simp; exact IsB.mk)) (fun hc => ?_) (fun hc => ?_))
      | (refine to_mk (by simp; exact IsK.mk))
      | (refine imp_ ?_)
      | ((simp; exact IsK.mk))
      | (refine tri_seq ?_)
      ))
        all_goals (refine post_plainV (P := Tryz.prog) (fn := Tryz.f12) (by simp; exact IsV.mk) rfl ?_)
        all_goals (first | (simp [q3, msgCells]; done) | (simp [q3, msgCells, z3]; done) | (simp [*, msgCells, zb_list]; done) | (simp [q3, msgCells, zb_list, z3, z4]; done) | (exfalso; simp_all; done))
      all_goals (have q3 : openF (zb s) = _ := (congrArg openF hz).trans (open12_bad _ _ _ _ _ _ _ _ _ _ _ _ _ hs hb); clear hb hz)
      all_goals (repeat' (first
      | (refine tri_condT (b_true (by simp; with_reducible exact IsB.mk)) ?_)
      | (refine tri_condF (b_true (by simp; with_reducible exact IsB.mk)) ?_)
      | (refine tri_skipT ?_)
      | (refine tri_skip ?_)
      | (refine then_to ?_)
      | (refine th_n ?_)
      | (refine in_n ?_)
      | (refine in_e ?_)
      | (refine in_x rfl ?_)
      | (refine th_e ?_)
      | (refine th_r ?_)
      | (refine in_r ?_)
      | (refine tri_ret ?_)
      | (refine tri_exit ?_)
      | (refine tri_block ?_)
      | (refine tri_step (id := 0) (C := ⟨[], [], [(9, (10, 0, 0)), (42, (10, 0, 0)), (46, (10, 0, 0)), (54, (10, 0, 0)), (60, (10, 0, 0))]⟩) [0, 2] [(3, 0, 0)] g12 nodraw ?_; refine ⟨_, by (simp [*, F26, F27, pMsg, msgCells, zb_list, flg]; exact Is.mk), ?_⟩)
      | (refine tri_last (id := 0) (C := ⟨[], [], [(9, (10, 0, 0)), (42, (10, 0, 0)), (46, (10, 0, 0)), (54, (10, 0, 0)), (60, (10, 0, 0))]⟩) [0, 2] [(3, 0, 0)] g12 nodraw ?_; refine ⟨_, by (simp [*, F26, F27, pMsg, msgCells, zb_list, flg]; exact Is.mk), ?_⟩)
      | (refine tri_step (id := 1) (C := ⟨[], [], [(9, (10, 0, 0)), (42, (10, 0, 0)), (46, (10, 0, 0)), (54, (10, 0, 0)), (60, (10, 0, 0))]⟩) [0, 2, 4] [(3, 0, 0), (5, 0, 0)] g12 nodraw ?_; refine ⟨_, by (simp [*, F26, F27, pMsg, msgCells, zb_list, flg]; exact Is.mk), ?_⟩)
      | (refine tri_last (id := 1) (C := ⟨[], [], [(9, (10, 0, 0)), (42, (10, 0, 0)), (46, (10, 0, 0)), (54, (10, 0, 0)), (60, (10, 0, 0))]⟩) [0, 2, 4] [(3, 0, 0), (5, 0, 0)] g12 nodraw ?_; refine ⟨_, by (simp [*, F26, F27, pMsg, msgCells, zb_list, flg]; exact Is.mk), ?_⟩)
      | (refine tri_step (id := 2) (C := ⟨[], [], [(9, (10, 0, 0)), (42, (10, 0, 0)), (46, (10, 0, 0)), (54, (10, 0, 0)), (60, (10, 0, 0))]⟩) [0, 2, 4, 13] [(3, 0, 0), (5, 0, 0)] g12 nodraw ?_; refine ⟨_, by (simp [*, F26, F27, pMsg, msgCells, zb_list, flg]; exact Is.mk), ?_⟩)
      | (refine tri_last (id := 2) (C := ⟨[], [], [(9, (10, 0, 0)), (42, (10, 0, 0)), (46, (10, 0, 0)), (54, (10, 0, 0)), (60, (10, 0, 0))]⟩) [0, 2, 4, 13] [(3, 0, 0), (5, 0, 0)] g12 nodraw ?_; refine ⟨_, by (simp [*, F26, F27, pMsg, msgCells, zb_list, flg]; exact Is.mk), ?_⟩)
      | (refine tri_step (id := 3) (C := ⟨[], [], [(9, (10, 0, 0)), (42, (10, 0, 0)), (46, (10, 0, 0)), (54, (10, 0, 0)), (60, (10, 0, 0))]⟩) [2, 3] [(3, 0, 0)] g12 nodraw ?_; refine ⟨_, by (simp [*, F26, F27, pMsg, msgCells, zb_list, flg]; exact Is.mk), ?_⟩)
      | (refine tri_last (id := 3) (C := ⟨[], [], [(9, (10, 0, 0)), (42, (10, 0, 0)), (46, (10, 0, 0)), (54, (10, 0, 0)), (60, (10, 0, 0))]⟩) [2, 3] [(3, 0, 0)] g12 nodraw ?_; refine ⟨_, by (simp [*, F26, F27, pMsg, msgCells, zb_list, flg]; exact Is.mk), ?_⟩)
      | (refine tri_step (id := 4) (C := ⟨[], [], [(9, (10, 0, 0)), (42, (10, 0, 0)), (46, (10, 0, 0)), (54, (10, 0, 0)), (60, (10, 0, 0))]⟩) [0, 2, 4, 17] [(3, 0, 0), (5, 0, 0)] g12 nodraw ?_; refine ⟨_, by (simp [*, F26, F27, pMsg, msgCells, zb_list, flg]; exact Is.mk), ?_⟩)
      | (refine tri_last (id := 4) (C := ⟨[], [], [(9, (10, 0, 0)), (42, (10, 0, 0)), (46, (10, 0, 0)), (54, (10, 0, 0)), (60, (10, 0, 0))]⟩) [0, 2, 4, 17] [(3, 0, 0), (5, 0, 0)] g12 nodraw ?_; refine ⟨_, by (simp [*, F26, F27, pMsg, msgCells, zb_list, flg]; exact Is.mk), ?_⟩)
      | (refine tri_step (id := 5) (C := ⟨[], [], [(9, (10, 0, 0)), (42, (10, 0, 0)), (46, (10, 0, 0)), (54, (10, 0, 0)), (60, (10, 0, 0))]⟩) [2, 3] [(3, 0, 0)] g12 nodraw ?_; refine ⟨_, by (simp [*, F26, F27, pMsg, msgCells, zb_list, flg]; exact Is.mk), ?_⟩)
      | (refine tri_last (id := 5) (C := ⟨[], [], [(9, (10, 0, 0)), (42, (10, 0, 0)), (46, (10, 0, 0)), (54, (10, 0, 0)), (60, (10, 0, 0))]⟩) [2, 3] [(3, 0, 0)] g12 nodraw ?_; refine ⟨_, by (simp [*, F26, F27, pMsg, msgCells, zb_list, flg]; exact Is.mk), ?_⟩)
      | (refine tri_step (id := 6) (C := ⟨[], [], [(9, (10, 0, 0)), (42, (10, 0, 0)), (46, (10, 0, 0)), (54, (10, 0, 0)), (60, (10, 0, 0))]⟩) [0, 2, 4, 5] [(3, 0, 0), (5, 0, 0)] g12 nodraw ?_; refine ⟨_, by (simp [*, F26, F27, pMsg, msgCells, zb_list, flg]; exact Is.mk), ?_⟩)
      | (refine tri_last (id := 6) (C := ⟨[], [], [(9, (10, 0, 0)), (42, (10, 0, 0)), (46, (10, 0, 0)), (54, (10, 0, 0)), (60, (10, 0, 0))]⟩) [0, 2, 4, 5] [(3, 0, 0), (5, 0, 0)] g12 nodraw ?_; refine ⟨_, by (simp [*, F26, F27, pMsg, msgCells, zb_list, flg]; exact Is.mk), ?_⟩)
      | (refine tri_step (id := 7) (C := ⟨[], [], [(9, (10, 0, 0)), (42, (10, 0, 0)), (46, (10, 0, 0)), (54, (10, 0, 0)), (60, (10, 0, 0))]⟩) [0, 2, 4, 5, 7] [(3, 0, 0), (5, 0, 0)] g12 nodraw ?_; refine ⟨_, by (simp [*, F26, F27, pMsg, msgCells, zb_list, flg]; exact Is.mk), ?_⟩)
      | (refine tri_last (id := 7) (C := ⟨[], [], [(9, (10, 0, 0)), (42, (10, 0, 0)), (46, (10, 0, 0)), (54, (10, 0, 0)), (60, (10, 0, 0))]⟩) [0, 2, 4, 5, 7] [(3, 0, 0), (5, 0, 0)] g12 nodraw ?_; refine ⟨_, by (simp [*, F26, F27, pMsg, msgCells, zb_list, flg]; exact Is.mk), ?_⟩)
      | (refine tri_step (id := 8) (C := ⟨[], [], [(9, (10, 0, 0)), (42, (10, 0, 0)), (46, (10, 0, 0)), (54, (10, 0, 0)), (60, (10, 0, 0))]⟩) [0, 2, 4, 9] [(3, 0, 0), (5, 0, 0), (10, 0, 0)] g12 (fun _ => ⟨q_mixed, by kernel_rfl⟩) ?_; refine ⟨_, by (simp [*, F26, F27, pMsg, msgCells, zb_list, flg]; exact Is.mk), ?_⟩)
      | (refine tri_last (id := 8) (C := ⟨[], [], [(9, (10, 0, 0)), (42, (10, 0, 0)), (46, (10, 0, 0)), (54, (10, 0, 0)), (60, (10, 0, 0))]⟩) [0, 2, 4, 9] [(3, 0, 0), (5, 0, 0), (10, 0, 0)] g12 (fun _ => ⟨q_mixed, by kernel_rfl⟩) ?_; refine ⟨_, by (simp [*, F26, F27, pMsg, msgCells, zb_list, flg]; exact Is.mk), ?_⟩)
      | (refine tri_stepG (id := 9) (C := ⟨[], [], [(9, (10, 0, 0)), (42, (10, 0, 0)), (46, (10, 0, 0)), (54, (10, 0, 0)), (60, (10, 0, 0))]⟩) [2, 4, 9, 64] [(3, 0, 0), (5, 0, 0), (10, 0, 0)] g12 (fun _ => ⟨q_mixed, by kernel_rfl⟩) ?_; refine ⟨_, (run_split 0 4 45 (by simp [*, F26, F27, pMsg, msgCells, zb_list, flg]; exact Is.mk) (by simp; exact IsB.mk) (run_split 4 5 50 (by simp [*, F26, F27, pMsg, msgCells, zb_list, flg]; exact Is.mk) (by simp; exact IsB.mk) (run_split 9 9 59 (by simp [*, F26, F27, pMsg, msgCells, zb_list, flg]; exact Is.mk) (by simp; exact IsB.mk) (by simp [*, F26, F27, pMsg, msgCells, zb_list, flg]; exact IsK.mk) (by simp [*, F26, F27, pMsg, msgCells, zb_list, flg]; exact IsK.mk) (by simp; exact IsK.mk)) (run_split 9 9 59 (by simp [*, F26, F27, pMsg, msgCells, zb_list, flg]; exact Is.mk) (by simp; exact IsB.mk) (by simp [*, F26, F27, pMsg, msgCells, zb_list, flg]; exact IsK.mk) (by simp [*, F26, F27, pMsg, msgCells, zb_list, flg]; exact IsK.mk) (by simp; exact IsK.mk)) (by simp; exact IsK.mk)) (run_split 4 5 50 (by simp [*, F26, F27, pMsg, msgCells, zb_list, flg]; exact Is.mk) (by simp; exact IsB.mk) (run_split 9 9 59 (by simp [*, F26, F27, pMsg, msgCells, zb_list, flg]; exact Is.mk) (by simp; exact IsB.mk) (by simp [*, F26, F27, pMsg, msgCells, zb_list, flg]; exact IsK.mk) (by simp [*, F26, F27, pMsg, msgCells, zb_list, flg]; exact IsK.mk) (by simp; exact IsK.mk)) (run_split 9 9 59 (by simp [*, F26, F27, pMsg, msgCells, zb_list, flg]; exact Is.mk) (by simp; exact IsB.mk) (by simp [*, F26, F27, pMsg, msgCells, zb_list, flg]; exact IsK.mk) (by simp [*, F26, F27, pMsg, msgCells, zb_list, flg]; exact IsK.mk) (by simp; exact IsK.mk)) (by simp; exact IsK.mk)) (by simp; exact IsK.mk)), ?_⟩)
      | (refine tri_lastG (id := 9) (C := ⟨[], [], [(9, (10, 0, 0)), (42, (10, 0, 0)), (46, (10, 0, 0)), (54, (10, 0, 0)), (60, (10, 0, 0))]⟩) [2, 4, 9, 64] [(3, 0, 0), (5, 0, 0), (10, 0, 0)] g12 (fun _ => ⟨q_mixed, by kernel_rfl⟩) ?_; refine ⟨_, (run_split 0 4 45 (by simp [*, F26, F27, pMsg, msgCells, zb_list, flg]; exact Is.mk) (by simp; exact IsB.mk) (run_split 4 5 50 (by simp [*, F26, F27, pMsg, msgCells, zb_list, flg]; exact Is.mk) (by simp; exact IsB.mk) (run_split 9 9 59 (by simp [*, F26, F27, pMsg, msgCells, zb_list, flg]; exact Is.mk) (by simp; exact IsB.mk) (by simp [*, F26, F27, pMsg, msgCells, zb_list, flg]; exact IsK.mk) (by simp [*, F26, F27, pMsg, msgCells, zb_list, flg]; exact IsK.mk) (by simp; exact IsK.mk)) (run_split 9 9 59 (by simp [*, F26, F27, pMsg, msgCells, zb_list, flg]; exact Is.mk) (by simp; exact IsB.mk) (by simp [*, F26, F27, pMsg, msgCells, zb_list, flg]; exact IsK.mk) (by simp [*, F26, F27, pMsg, msgCells, zb_list, flg]; exact IsK.mk) (by simp; exact IsK.mk)) (by simp; exact IsK.mk)) (run_split 4 5 50 (by simp [*, F26, F27, pMsg, msgCells, zb_list, flg]; exact Is.mk) (by simp; exact IsB.mk) (run_split 9 9 59 (by simp [*, F26, F27, pMsg, msgCells, zb_list, flg]; exact Is.mk) (by simp; exact IsB.mk) (by simp [*, F26, F27, pMsg, msgCells, zb_list, flg]; exact IsK.mk) (by simp [*, F26, F27, pMsg, msgCells, zb_list, flg]; exact IsK.mk) (by simp; exact IsK.mk)) (run_split 9 9 59 (by simp [*, F26, F27, pMsg, msgCells, zb_list, flg]; exact Is.mk) (by simp; exact IsB.mk) (by simp [*, F26, F27, pMsg, msgCells, zb_list, flg]; exact IsK.mk) (by simp [*, F26, F27, pMsg, msgCells, zb_list, flg]; exact IsK.mk) (by simp; exact IsK.mk)) (by simp; exact IsK.mk)) (by simp; exact IsK.mk)), ?_⟩)
      | (refine tri_step (id := 10) (C := ⟨[], [], [(9, (10, 0, 0)), (42, (10, 0, 0)), (46, (10, 0, 0)), (54, (10, 0, 0)), (60, (10, 0, 0))]⟩) [2, 3] [(3, 0, 0)] g12 nodraw ?_; refine ⟨_, by (simp [*, F26, F27, pMsg, msgCells, zb_list, flg]; exact Is.mk), ?_⟩)
      | (refine tri_last (id := 10) (C := ⟨[], [], [(9, (10, 0, 0)), (42, (10, 0, 0)), (46, (10, 0, 0)), (54, (10, 0, 0)), (60, (10, 0, 0))]⟩) [2, 3] [(3, 0, 0)] g12 nodraw ?_; refine ⟨_, by (simp [*, F26, F27, pMsg, msgCells, zb_list, flg]; exact Is.mk), ?_⟩)
      | (refine tri_step (id := 11) (C := ⟨[], [], [(9, (10, 0, 0)), (42, (10, 0, 0)), (46, (10, 0, 0)), (54, (10, 0, 0)), (60, (10, 0, 0))]⟩) [2, 3] [(3, 0, 0)] g12 nodraw ?_; refine ⟨_, by (simp [*, F26, F27, pMsg, msgCells, zb_list, flg]; exact Is.mk), ?_⟩)
      | (refine tri_last (id := 11) (C := ⟨[], [], [(9, (10, 0, 0)), (42, (10, 0, 0)), (46, (10, 0, 0)), (54, (10, 0, 0)), (60, (10, 0, 0))]⟩) [2, 3] [(3, 0, 0)] g12 nodraw ?_; refine ⟨_, by (simp [*, F26, F27, pMsg, msgCells, zb_list, flg]; exact Is.mk), ?_⟩)
      | (refine tri_cond (c := .tmp 13) (b_true (by simp; exact IsB.mk)) (fun hc => ?_) (fun hc => ?_))
      | (refine tri_cond (c := .tmp 17) (b_true (by simp; exact IsB.mk)) (fun hc => ?_) (fun hc => ?_))
      | (refine tri_cond (c := .tmp 64) (b_true (by simp; exact IsB.mk)) (fun hc => ?_) (fun hc => ?_))
      | (refine to_mk (by simp; exact IsK.mk))
      | (refine imp_ ?_)
      | ((simp; exact IsK.mk))
      | (refine tri_seq ?_)
      ))
      all_goals (refine post_plainV (P := Tryz.prog) (fn := Tryz.f12) (by simp; exact IsV.mk) rfl ?_)
      all_goals (first | (simp [q3, msgCells]; done) | (exfalso; simp_all; done))
    · have q3 : openF (zb s) = (⟨0, 0, 0, []⟩, 8) := by unfold openF; rw [if_neg h12z, if_pos hs]
      have hs2 : (sumF (zb s) == 65535) = false := by simpa using hs
      have hs3 : (sumF (zb s) != 65535) = true := by simpa using hs
      all_goals (repeat' (first
      | (refine tri_condT (b_true (by simp; with_reducible exact IsB.mk)) ?_)
      | (refine tri_condF (b_true (by simp; with_reducible exact IsB.mk)) ?_)
      | (refine tri_skipT ?_)
      | (refine tri_skip ?_)
      | (refine then_to ?_)
      | (refine th_n ?_)
      | (refine in_n ?_)
      | (refine in_e ?_)
      | (refine in_x rfl ?_)
      | (refine th_e ?_)
      | (refine th_r ?_)
      | (refine in_r ?_)
      | (refine tri_ret ?_)
      | (refine tri_exit ?_)
      | (refine tri_block ?_)
      | (refine tri_step (id := 0) (C := ⟨[], [], [(9, (10, 0, 0)), (42, (10, 0, 0)), (46, (10, 0, 0)), (54, (10, 0, 0)), (60, (10, 0, 0))]⟩) [0, 2] [(3, 0, 0)] g12 nodraw ?_; refine ⟨_, by (simp [*, F26, F27, pMsg, msgCells, zb_list, flg]; exact Is.mk), ?_⟩)
      | (refine tri_last (id := 0) (C := ⟨[], [], [(9, (10, 0, 0)), (42, (10, 0, 0)), (46, (10, 0, 0)), (54, (10, 0, 0)), (60, (10, 0, 0))]⟩) [0, 2] [(3, 0, 0)] g12 nodraw ?_; refine ⟨_, by (simp [*, F26, F27, pMsg, msgCells, zb_list, flg]; exact Is.mk), ?_⟩)
      | (refine tri_step (id := 1) (C := ⟨[], [], [(9, (10, 0, 0)), (42, (10, 0, 0)), (46, (10, 0, 0)), (54, (10, 0, 0)), (60, (10, 0, 0))]⟩) [0, 2, 4] [(3, 0, 0), (5, 0, 0)] g12 nodraw ?_; refine ⟨_, by (simp [*, F26, F27, pMsg, msgCells, zb_list, flg]; exact Is.mk), ?_⟩)
      | (refine tri_last (id := 1) (C := ⟨[], [], [(9, (10, 0, 0)), (42, (10, 0, 0)), (46, (10, 0, 0)), (54, (10, 0, 0)), (60, (10, 0, 0))]⟩) [0, 2, 4] [(3, 0, 0), (5, 0, 0)] g12 nodraw ?_; refine ⟨_, by (simp [*, F26, F27, pMsg, msgCells, zb_list, flg]; exact Is.mk), ?_⟩)
      | (refine tri_step (id := 2) (C := ⟨[], [], [(9, (10, 0, 0)), (42, (10, 0, 0)), (46, (10, 0, 0)), (54, (10, 0, 0)), (60, (10, 0, 0))]⟩) [0, 2, 4, 13] [(3, 0, 0), (5, 0, 0)] g12 nodraw ?_; refine ⟨_, by (simp [*, F26, F27, pMsg, msgCells, zb_list, flg]; exact Is.mk), ?_⟩)
      | (refine tri_last (id := 2) (C := ⟨[], [], [(9, (10, 0, 0)), (42, (10, 0, 0)), (46, (10, 0, 0)), (54, (10, 0, 0)), (60, (10, 0, 0))]⟩) [0, 2, 4, 13] [(3, 0, 0), (5, 0, 0)] g12 nodraw ?_; refine ⟨_, by (simp [*, F26, F27, pMsg, msgCells, zb_list, flg]; exact Is.mk), ?_⟩)
      | (refine tri_step (id := 3) (C := ⟨[], [], [(9, (10, 0, 0)), (42, (10, 0, 0)), (46, (10, 0, 0)), (54, (10, 0, 0)), (60, (10, 0, 0))]⟩) [2, 3] [(3, 0, 0)] g12 nodraw ?_; refine ⟨_, by (simp [*, F26, F27, pMsg, msgCells, zb_list, flg]; exact Is.mk), ?_⟩)
      | (refine tri_last (id := 3) (C := ⟨[], [], [(9, (10, 0, 0)), (42, (10, 0, 0)), (46, (10, 0, 0)), (54, (10, 0, 0)), (60, (10, 0, 0))]⟩) [2, 3] [(3, 0, 0)] g12 nodraw ?_; refine ⟨_, by (simp [*, F26, F27, pMsg, msgCells, zb_list, flg]; exact Is.mk), ?_⟩)
      | (refine tri_step (id := 4) (C := ⟨[], [], [(9, (10, 0, 0)), (42, (10, 0, 0)), (46, (10, 0, 0)), (54, (10, 0, 0)), (60, (10, 0, 0))]⟩) [0, 2, 4, 17] [(3, 0, 0), (5, 0, 0)] g12 nodraw ?_; refine ⟨_, by (simp [*, F26, F27, pMsg, msgCells, zb_list, flg]; exact Is.mk), ?_⟩)
      | (refine tri_last (id := 4) (C := ⟨[], [], [(9, (10, 0, 0)), (42, (10, 0, 0)), (46, (10, 0, 0)), (54, (10, 0, 0)), (60, (10, 0, 0))]⟩) [0, 2, 4, 17] [(3, 0, 0), (5, 0, 0)] g12 nodraw ?_; refine ⟨_, by (simp [*, F26, F27, pMsg, msgCells, zb_list, flg]; exact Is.mk), ?_⟩)
      | (refine tri_step (id := 5) (C := ⟨[], [], [(9, (10, 0, 0)), (42, (10, 0, 0)), (46, (10, 0, 0)), (54, (10, 0, 0)), (60, (10, 0, 0))]⟩) [2, 3] [(3, 0, 0)] g12 nodraw ?_; refine ⟨_, by (simp [*, F26, F27, pMsg, msgCells, zb_list, flg]; exact Is.mk), ?_⟩)
      | (refine tri_last (id := 5) (C := ⟨[], [], [(9, (10, 0, 0)), (42, (10, 0, 0)), (46, (10, 0, 0)), (54, (10, 0, 0)), (60, (10, 0, 0))]⟩) [2, 3] [(3, 0, 0)] g12 nodraw ?_; refine ⟨_, by (simp [*, F26, F27, pMsg, msgCells, zb_list, flg]; exact Is.mk), ?_⟩)
      | (refine tri_step (id := 6) (C := ⟨[], [], [(9, (10, 0, 0)), (42, (10, 0, 0)), (46, (10, 0, 0)), (54, (10, 0, 0)), (60, (10, 0, 0))]⟩) [0, 2, 4, 5] [(3, 0, 0), (5, 0, 0)] g12 nodraw ?_; refine ⟨_, by (simp [*, F26, F27, pMsg, msgCells, zb_list, flg]; exact Is.mk), ?_⟩)
      | (refine tri_last (id := 6) (C := ⟨[], [], [(9, (10, 0, 0)), (42, (10, 0, 0)), (46, (10, 0, 0)), (54, (10, 0, 0)), (60, (10, 0, 0))]⟩) [0, 2, 4, 5] [(3, 0, 0), (5, 0, 0)] g12 nodraw ?_; refine ⟨_, by (simp [*, F26, F27, pMsg, msgCells, zb_list, flg]; exact Is.mk), ?_⟩)
      | (refine tri_step (id := 7) (C := ⟨[], [], [(9, (10, 0, 0)), (42, (10, 0, 0)), (46, (10, 0, 0)), (54, (10, 0, 0)), (60, (10, 0, 0))]⟩) [0, 2, 4, 5, 7] [(3, 0, 0), (5, 0, 0)] g12 nodraw ?_; refine ⟨_, by (simp [*, F26, F27, pMsg, msgCells, zb_list, flg]; exact Is.mk), ?_⟩)
      | (refine tri_last (id := 7) (C := ⟨[], [], [(9, (10, 0, 0)), (42, (10, 0, 0)), (46, (10, 0, 0)), (54, (10, 0, 0)), (60, (10, 0, 0))]⟩) [0, 2, 4, 5, 7] [(3, 0, 0), (5, 0, 0)] g12 nodraw ?_; refine ⟨_, by (simp [*, F26, F27, pMsg, msgCells, zb_list, flg]; exact Is.mk), ?_⟩)
      | (refine tri_step (id := 8) (C := ⟨[], [], [(9, (10, 0, 0)), (42, (10, 0, 0)), (46, (10, 0, 0)), (54, (10, 0, 0)), (60, (10, 0, 0))]⟩) [0, 2, 4, 9] [(3, 0, 0), (5, 0, 0), (10, 0, 0)] g12 (fun _ => ⟨q_mixed, by kernel_rfl⟩) ?_; refine ⟨_, by (simp [*, F26, F27, pMsg, msgCells, zb_list, flg]; exact Is.mk), ?_⟩)
      | (refine tri_last (id := 8) (C := ⟨[], [], [(9, (10, 0, 0)), (42, (10, 0, 0)), (46, (10, 0, 0)), (54, (10, 0, 0)), (60, (10, 0, 0))]⟩) [0, 2, 4, 9] [(3, 0, 0), (5, 0, 0), (10, 0, 0)] g12 (fun _ => ⟨q_mixed, by kernel_rfl⟩) ?_; refine ⟨_, by (simp [*, F26, F27, pMsg, msgCells, zb_list, flg]; exact Is.mk), ?_⟩)
      | (refine tri_stepG (id := 9) (C := ⟨[], [], [(9, (10, 0, 0)), (42, (10, 0, 0)), (46, (10, 0, 0)), (54, (10, 0, 0)), (60, (10, 0, 0))]⟩) [2, 4, 9, 64] [(3, 0, 0), (5, 0, 0), (10, 0, 0)] g12 (fun _ => ⟨q_mixed, by kernel_rfl⟩) ?_; refine ⟨_, (run_split 0 4 45 (by simp [*, F26, F27, pMsg, msgCells, zb_list, flg]; exact Is.mk) (by simp; exact IsB.mk) (run_split 4 5 50 (by simp [*, F26, F27, pMsg, msgCells, zb_list, flg]; exact Is.mk) (by simp; exact IsB.mk) (run_split 9 9 59 (by simp [*, F26, F27, pMsg, msgCells, zb_list, flg]; exact Is.mk) (by simp; exact IsB.mk) (by simp [*, F26, F27, pMsg, msgCells, zb_list, flg]; exact IsK.mk) (by simp [*, F26, F27, pMsg, msgCells, zb_list, flg]; exact IsK.mk) (by simp; exact IsK.mk)) (run_split 9 9 59 (by simp [*, F26, F27, pMsg, msgCells, zb_list, flg]; exact Is.mk) (by simp; exact IsB.mk) (by simp [*, F26, F27, pMsg, msgCells, zb_list, flg]; exact IsK.mk) (by simp [*, F26, F27, pMsg, msgCells, zb_list, flg]; exact IsK.mk) (by simp; exact IsK.mk)) (by simp; exact IsK.mk)) (run_split 4 5 50 (by simp [*, F26, F27, pMsg, msgCells, zb_list, flg]; exact Is.mk) (by simp; exact IsB.mk) (run_split 9 9 59 (by simp [*, F26, F27, pMsg, msgCells, zb_list, flg]; exact Is.mk) (by simp; exact IsB.mk) (by simp [*, F26, F27, pMsg, msgCells, zb_list, flg]; exact IsK.mk) (by simp [*, F26, F27, pMsg, msgCells, zb_list, flg]; exact IsK.mk) (by simp; exact IsK.mk)) (run_split 9 9 59 (by simp [*, F26, F27, pMsg, msgCells, zb_list, flg]; exact Is.mk) (by simp; exact IsB.mk) (by simp [*, F26, F27, pMsg, msgCells, zb_list, flg]; exact IsK.mk) (by simp [*, F26, F27, pMsg, msgCells, zb_list, flg]; exact IsK.mk) (by simp; exact IsK.mk)) (by simp; exact IsK.mk)) (by simp; exact IsK.mk)), ?_⟩)
      | (refine tri_lastG (id := 9) (C := ⟨[], [], [(9, (10, 0, 0)), (42, (10, 0, 0)), (46, (10, 0, 0)), (54, (10, 0, 0)), (60, (10, 0, 0))]⟩) [2, 4, 9, 64] [(3, 0, 0), (5, 0, 0), (10, 0, 0)] g12 (fun _ => ⟨q_mixed, by kernel_rfl⟩) ?_; refine ⟨_, (run_split 0 4 45 (by simp [*, F26, F27, pMsg, msgCells, zb_list, flg]; exact Is.mk) (by simp; exact IsB.mk) (run_split 4 5 50 (by simp [*, F26, F27, pMsg, msgCells, zb_list, flg]; exact Is.mk) (by simp; exact IsB.mk) (run_split 9 9 59 (by simp [*, F26, F27, pMsg, msgCells, zb_list, flg]; exact Is.mk) (by simp; exact IsB.mk) (by simp [*, F26, F27, pMsg, msgCells, zb_list, flg]; exact IsK.mk) (by simp [*, F26, F27, pMsg, msgCells, zb_list, flg]; exact IsK.mk) (by simp; exact IsK.mk)) (run_split 9 9 59 (by simp [*, F26, F27, pMsg, msgCells, zb_list, flg]; exact Is.mk) (by simp; exact IsB.mk) (by simp [*, F26, F27, pMsg, msgCells, zb_list, flg]; exact IsK.mk) (by simp [*, F26, F27, pMsg, msgCells, zb_list, flg]; exact IsK.mk) (by simp; exact IsK.mk)) (by simp; exact IsK.mk)) (run_split 4 5 50 (by simp [*, F26, F27, pMsg, msgCells, zb_list, flg]; exact Is.mk) (by simp; exact IsB.mk) (run_split 9 9 59 (by simp [*, F26, F27, pMsg, msgCells, zb_list, flg]; exact Is.mk) (by simp; exact IsB.mk) (by simp [*, F26, F27, pMsg, msgCells, zb_list, flg]; exact IsK.mk) (by simp [*, F26, F27, pMsg, msgCells, zb_list, flg]; exact IsK.mk) (by simp; exact IsK.mk)) (run_split 9 9 59 (by simp [*, F26, F27, pMsg, msgCells, zb_list, flg]; exact Is.mk) (by simp; exact IsB.mk) (by simp [*, F26, F27, pMsg, msgCells, zb_list, flg]; exact IsK.mk) (by simp [*, F26, F27, pMsg, msgCells, zb_list, flg]; exact IsK.mk) (by simp; exact IsK.mk)) (by simp; exact IsK.mk)) (by simp; exact IsK.mk)), ?_⟩)
      | (refine tri_step (id := 10) (C := ⟨[], [], [(9, (10, 0, 0)), (42, (10, 0, 0)), (46, (10, 0, 0)), (54, (10, 0, 0)), (60, (10, 0, 0))]⟩) [2, 3] [(3, 0, 0)] g12 nodraw ?_; refine ⟨_, by (simp [*, F26, F27, pMsg, msgCells, zb_list, flg]; exact Is.mk), ?_⟩)
      | (refine tri_last (id := 10) (C := ⟨[], [], [(9, (10, 0, 0)), (42, (10, 0, 0)), (46, (10, 0, 0)), (54, (10, 0, 0)), (60, (10, 0, 0))]⟩) [2, 3] [(3, 0, 0)] g12 nodraw ?_; refine ⟨_, by (simp [*, F26, F27, pMsg, msgCells, zb_list, flg]; exact Is.mk), ?_⟩)
      | (refine tri_step (id := 11) (C := ⟨[], [], [(9, (10, 0, 0)), (42, (10, 0, 0)), (46, (10, 0, 0)), (54, (10, 0, 0)), (60, (10, 0, 0))]⟩) [2, 3] [(3, 0, 0)] g12 nodraw ?_; refine ⟨_, by (simp [*, F26, F27, pMsg, msgCells, zb_list, flg]; exact Is.mk), ?_⟩)
      | (refine tri_last (id := 11) (C := ⟨[], [], [(9, (10, 0, 0)), (42, (10, 0, 0)), (46, (10, 0, 0)), (54, (10, 0, 0)), (60, (10, 0, 0))]⟩) [2, 3] [(3, 0, 0)] g12 nodraw ?_; refine ⟨_, by (simp [*, F26, F27, pMsg, msgCells, zb_list, flg]; exact Is.mk), ?_⟩)
      | (refine tri_cond (c := .tmp 13) (b_true (by simp; exact IsB.mk)) (fun hc => ?_) (fun hc => ?_))
      | (refine tri_cond (c := .tmp 17) (b_true (by simp; exact IsB.mk)) (fun hc => ?_) (fun hc => ?_))
      | (refine tri_cond (c := .tmp 64) (b_true (by simp; exact IsB.mk)) (fun hc => ?_) (fun hc => ?_))
      | (refine to_mk (by simp; exact IsK.mk))
      | (refine imp_ ?_)
      | ((simp; exact IsK.mk))
      | (refine tri_seq ?_)
      ))
      all_goals (refine post_plainV (P := Tryz.prog) (fn := Tryz.f12) (by simp; exact IsV.mk) rfl ?_)
      all_goals (simp [q3, msgCells]; done)
open Classical in
noncomputable def F12 : Fn1
  | [x0] => (dZ x0).bind fun s => if s.size ≤ 400 then some ((.tup [.agg (msgCells (openF (zb s)).1), .v (.int .i64 (openF (zb s)).2)]), none) else none
  | _ => none
theorem spec12 : Spec1 Tryz.prog 12 F12 := spec_of fun ys r o h => by
  unfold F12 at h
  split at h
  case h_2 => cases h
  obtain ⟨s, k0, h1⟩ := bind_some h
  obtain ⟨hpre, hz⟩ := ite_some h1
  cases hz
  exact ⟨_, at12 s hpre, rfl, le_plain ⟨dZ_co k0, trivial⟩ (by simp only [List.all_cons, List.all_nil, Bool.not_false, Bool.and_self, notRefB (dZ_co k0) rfl (by simp)]) rfl⟩
theorem en12 : Enters Tryz.prog 12 := enters_of Tryz.func12 (by kernel_rfl) rfl

end Go.Proofs.YtljlhooodbfpiaaGreatDoor

