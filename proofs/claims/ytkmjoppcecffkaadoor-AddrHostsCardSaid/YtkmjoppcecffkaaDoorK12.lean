import Derived.Test.YtkmjoppcecffkaaDoorK11
import Derived.Test.YtkmjoppcecffkaaDoorK10
import Derived.Lib.ItoaNum
import Derived.Shelf.Strings.OnBuilder
import Derived.Test.YtkmjoppcecffkaaDoorK8
import Derived.Test.YtkmjoppcecffkaaDoorK9
set_option linter.all false
-- Printed by genwalk.py.
namespace Go.Proofs.YtkmjoppcecffkaaDoor
open Go Go.RowKit Caw
set_option linter.unusedSimpArgs false
set_option linter.unusedVariables false
set_option maxRecDepth 100000

-- caravel/addr.Read
theorem g10 : GOk1 Tryd.prog (ctxOf [(25, F25), (12, F12), (26, F26)]) := gok_cons spec25 en25 (gok_cons spec12 en12 (gok_cons spec26 en26 (gok_nil)))
set_option maxHeartbeats 400000 in
theorem at10 (s : ByteArray) (hpre : s.size ≤ 100000) : SpecAt Tryd.prog 10 [.v (.string s)] (.tup [.agg (addrCells (readA s).1), .v (.int .i64 (readA s).2)]) none := by
  have h1 := cut_size s ⟨#[58]⟩ hpre
  all_goals refine specAt_of_tri Tryd.func10 rfl (Nat.le_of_ble_eq_true rfl) ?_
  all_goals (repeat' (first
    | (refine tri_condT (b_true (by simp; with_reducible exact IsB.mk)) ?_)
    | (refine tri_condF (b_true (by simp; with_reducible exact IsB.mk)) ?_)
    | (refine tri_skipT ?_)
    | (refine tri_skip ?_)
    | (refine then_to ?_)
    | (refine th_n ?_)
    | (refine in_n ?_)
    | (refine in_e ?_)
    | (refine in_x rfl ?_)
    | (refine th_e ?_)
    | (refine th_r ?_)
    | (refine in_r ?_)
    | (refine tri_ret ?_)
    | (refine tri_exit ?_)
    | (refine tri_block ?_)
    | (refine tri_step (id := 0) (C := ⟨[], [], []⟩) [0, 2] [(3, 0, 0)] g10 nodraw ?_; refine ⟨_, by (simp [*, F25, F12, F26, flg]; exact Is.mk), ?_⟩)
    | (refine tri_last (id := 0) (C := ⟨[], [], []⟩) [0, 2] [(3, 0, 0)] g10 nodraw ?_; refine ⟨_, by (simp [*, F25, F12, F26, flg]; exact Is.mk), ?_⟩)
    | (refine tri_step (id := 1) (C := ⟨[], [], []⟩) [2, 4, 5, 6] [(3, 0, 0)] g10 nodraw ?_; refine ⟨_, by (simp [*, F25, F12, F26, flg]; exact Is.mk), ?_⟩)
    | (refine tri_last (id := 1) (C := ⟨[], [], []⟩) [2, 4, 5, 6] [(3, 0, 0)] g10 nodraw ?_; refine ⟨_, by (simp [*, F25, F12, F26, flg]; exact Is.mk), ?_⟩)
    | (refine tri_step (id := 2) (C := ⟨[], [], []⟩) [2, 5, 6, 7, 8] [(3, 0, 0), (8, 0, 0)] g10 nodraw ?_; refine ⟨_, by (simp [*, F25, F12, F26, flg]; exact Is.mk), ?_⟩)
    | (refine tri_last (id := 2) (C := ⟨[], [], []⟩) [2, 5, 6, 7, 8] [(3, 0, 0), (8, 0, 0)] g10 nodraw ?_; refine ⟨_, by (simp [*, F25, F12, F26, flg]; exact Is.mk), ?_⟩)
    | (refine tri_step (id := 3) (C := ⟨[], [], []⟩) [2, 6, 7, 8, 9, 10] [(3, 0, 0), (8, 0, 0)] g10 nodraw ?_; refine ⟨_, by (simp [*, F25, F12, F26, flg]; exact Is.mk), ?_⟩)
    | (refine tri_last (id := 3) (C := ⟨[], [], []⟩) [2, 6, 7, 8, 9, 10] [(3, 0, 0), (8, 0, 0)] g10 nodraw ?_; refine ⟨_, by (simp [*, F25, F12, F26, flg]; exact Is.mk), ?_⟩)
    | (refine tri_stepG (id := 4) (C := ⟨[], [], []⟩) [2, 7, 9, 36] [(3, 0, 0), (8, 0, 0)] g10 nodraw ?_; refine ⟨_, (run_split 0 3 29 (by simp [*, F25, F12, F26, flg]; exact Is.mk) (by simp; exact IsB.mk) (run_split 3 4 33 (by simp [*, F25, F12, F26, flg]; exact Is.mk) (by simp; exact IsB.mk) (by simp [*, F25, F12, F26, flg]; exact IsK.mk) (by simp [*, F25, F12, F26, flg]; exact IsK.mk) (by simp; exact IsK.mk)) (run_split 3 4 33 (by simp [*, F25, F12, F26, flg]; exact Is.mk) (by simp; exact IsB.mk) (by simp [*, F25, F12, F26, flg]; exact IsK.mk) (by simp [*, F25, F12, F26, flg]; exact IsK.mk) (by simp; exact IsK.mk)) (by simp; exact IsK.mk)), ?_⟩)
    | (refine tri_lastG (id := 4) (C := ⟨[], [], []⟩) [2, 7, 9, 36] [(3, 0, 0), (8, 0, 0)] g10 nodraw ?_; refine ⟨_, (run_split 0 3 29 (by simp [*, F25, F12, F26, flg]; exact Is.mk) (by simp; exact IsB.mk) (run_split 3 4 33 (by simp [*, F25, F12, F26, flg]; exact Is.mk) (by simp; exact IsB.mk) (by simp [*, F25, F12, F26, flg]; exact IsK.mk) (by simp [*, F25, F12, F26, flg]; exact IsK.mk) (by simp; exact IsK.mk)) (run_split 3 4 33 (by simp [*, F25, F12, F26, flg]; exact Is.mk) (by simp; exact IsB.mk) (by simp [*, F25, F12, F26, flg]; exact IsK.mk) (by simp [*, F25, F12, F26, flg]; exact IsK.mk) (by simp; exact IsK.mk)) (by simp; exact IsK.mk)), ?_⟩)
    | (refine tri_step (id := 5) (C := ⟨[], [], []⟩) [2, 3] [(3, 0, 0)] g10 nodraw ?_; refine ⟨_, by (simp [*, F25, F12, F26, flg]; exact Is.mk), ?_⟩)
    | (refine tri_last (id := 5) (C := ⟨[], [], []⟩) [2, 3] [(3, 0, 0)] g10 nodraw ?_; refine ⟨_, by (simp [*, F25, F12, F26, flg]; exact Is.mk), ?_⟩)
    | (refine tri_step (id := 6) (C := ⟨[], [], []⟩) [2, 3] [(3, 0, 0)] g10 nodraw ?_; refine ⟨_, by (simp [*, F25, F12, F26, flg]; exact Is.mk), ?_⟩)
    | (refine tri_last (id := 6) (C := ⟨[], [], []⟩) [2, 3] [(3, 0, 0)] g10 nodraw ?_; refine ⟨_, by (simp [*, F25, F12, F26, flg]; exact Is.mk), ?_⟩)
    | (refine tri_cond (c := .tmp 36) (b_true (by simp; exact IsB.mk)) (fun hc => ?_) (fun hc => ?_))
    | (refine to_mk (by simp; exact IsK.mk))
    | (refine imp_ ?_)
    | ((simp; exact IsK.mk))
    | (refine tri_seq ?_)
    ))
  all_goals (refine post_plainV (P := Tryd.prog) (fn := Tryd.f10) (by simp; exact IsV.mk) rfl ?_)
  all_goals (first | (simp [F25, F12, F26, flg, readA, readOk, addr0, addrCells, ipCells]; done) | (simp [*, F25, F12, F26, flg, readA, readOk, addr0, addrCells, ipCells]; done) | (simp_all [F25, F12, F26, flg, readA, readOk, addr0, addrCells, ipCells]; done) | (simp [F25, F12, F26, flg, readA, readOk, addr0, addrCells, ipCells] <;> (repeat' split) <;> simp_all; done) | (simp [F25, F12, F26, flg, readA, readOk, addr0, addrCells, ipCells] <;> (repeat' split) <;> simp_all [Bool.and_assoc] <;> grind [List.length_eq_zero_iff, sendCells_co, recvCells_co, pieceCells_co, connCells_co, segCells_co, clockCells_co]))
open Classical in
noncomputable def F10 : Fn1
  | [x0] => (dZ x0).bind fun s => if s.size ≤ 100000 then some ((.tup [.agg (addrCells (readA s).1), .v (.int .i64 (readA s).2)]), none) else none
  | _ => none
theorem spec10 : Spec1 Tryd.prog 10 F10 := spec_of fun ys r o h => by
  unfold F10 at h
  split at h
  case h_2 => cases h
  obtain ⟨s, k0, h1⟩ := bind_some h
  obtain ⟨hpre, hz⟩ := ite_some h1
  cases hz
  exact ⟨_, at10 s hpre, rfl, le_plain ⟨dZ_co k0, trivial⟩ (by simp only [List.all_cons, List.all_nil, Bool.not_false, Bool.and_self, notRefB (dZ_co k0) rfl (by simp)]) rfl⟩
theorem en10 : Enters Tryd.prog 10 := enters_of Tryd.func10 (by kernel_rfl) rfl

end Go.Proofs.YtkmjoppcecffkaaDoor

/-! Writing addresses. -/
set_option linter.all false
namespace Caw
open Go Go.RowKit
def dd (n : Int) : List UInt8 := Lib.decDigits n.toNat
theorem dd_fold (n : Int) : Lib.decDigits n.toNat = dd n := rfl
@[simp] theorem bl_mk1 (c : UInt8) : bl ⟨#[c]⟩ = [c] := rfl
structure LowIp (a : Ip) : Prop where
  a0 : 0 ≤ a.a
  a1 : a.a < 256
  b0 : 0 ≤ a.b
  b1 : a.b < 256
  c0 : 0 ≤ a.c
  c1 : a.c < 256
  d0 : 0 ≤ a.d
  d1 : a.d < 256
def writeIP (a : Ip) : ByteArray := ofL (Lib.join [dd a.a, dd a.b, dd a.c, dd a.d] [46])
theorem dd_lenN : ∀ (k n : Nat), n < 10 ^ (k + 1) → (Lib.decDigits n).length ≤ k + 1
  | 0, n, h => by rw [Lib.decDigits, dif_pos (by simpa using h)]; simp
  | k + 1, n, h => by
    rw [Lib.decDigits]
    split
    · simp
    · have := dd_lenN k (n / 10) (by rw [Nat.pow_succ] at h; omega)
      simp; omega
theorem dd_len {n : Int} (h : n < 100000) : (dd n).length ≤ 5 := dd_lenN 4 _ (by omega)
theorem writeIP_len {a : Ip} (h : LowIp a) : (Lib.join [dd a.a, dd a.b, dd a.c, dd a.d] [46]).length ≤ 100000 := by
  have h1 := dd_len (Int.lt_trans h.a1 (by decide))
  have h2 := dd_len (Int.lt_trans h.b1 (by decide))
  have h3 := dd_len (Int.lt_trans h.c1 (by decide))
  have h4 := dd_len (Int.lt_trans h.d1 (by decide))
  simp [Lib.join]
  omega
theorem lowIp_wrap {a : Ip} (h : LowIp a) : IntKind.wrap .i64 a.a = a.a ∧ IntKind.wrap .i64 a.b = a.b ∧ IntKind.wrap .i64 a.c = a.c ∧ IntKind.wrap .i64 a.d = a.d := by
  obtain ⟨a0, a1, b0, b1, c0, c1, d0, d1⟩ := h
  exact ⟨wrap_i64 (by omega), wrap_i64 (by omega), wrap_i64 (by omega), wrap_i64 (by omega)⟩
def ipStrs (a : Ip) : Nat → List ByteArray
  | 0 => []
  | 1 => [ofL (dd a.a)]
  | 2 => [ofL (dd a.a), ofL (dd a.b)]
  | 3 => [ofL (dd a.a), ofL (dd a.b), ofL (dd a.c)]
  | _ => [ofL (dd a.a), ofL (dd a.b), ofL (dd a.c), ofL (dd a.d)]
end Caw

-- Printed by genwalk.py.
namespace Go.Proofs.YtkmjoppcecffkaaDoor
open Go Go.RowKit Caw
set_option linter.unusedSimpArgs false
set_option linter.unusedVariables false
set_option maxRecDepth 100000

-- strings.Join
set_option maxHeartbeats 400000 in
theorem at30 (l : List ByteArray) (t : ByteArray) (hpre : l ≠ [] ∧ l.length ≤ 1000 ∧ (Lib.join (l.map bl) (bl t)).length ≤ 100000) : SpecAt Tryd.prog 30 [.sl 1 (encZ l) none, .v (.string t)] (.v (.string (ofL (Lib.join (l.map bl) (bl t))))) none := by
  exact join30_at l t hpre
open Classical in
noncomputable def F30 : Fn1
  | [x0, x1] => (decZs x0).bind fun l => (dZ x1).bind fun t => if l ≠ [] ∧ l.length ≤ 1000 ∧ (Lib.join (l.map bl) (bl t)).length ≤ 100000 then some ((.v (.string (ofL (Lib.join (l.map bl) (bl t))))), none) else none
  | _ => none
theorem spec30 : Spec1 Tryd.prog 30 F30 := spec_of fun ys r o h => by
  unfold F30 at h
  split at h
  case h_2 => cases h
  obtain ⟨l, k0, h1⟩ := bind_some h
  obtain ⟨t, k1, h2⟩ := bind_some h1
  obtain ⟨hpre, hz⟩ := ite_some h2
  cases hz
  exact ⟨_, at30 l t hpre, rfl, le_plain ⟨decZs_coA k0, ⟨dZ_co k1, trivial⟩⟩ (by simp only [List.all_cons, List.all_nil, Bool.not_false, Bool.and_self, notRefB (decZs_coA k0) rfl (by simp), notRefB (dZ_co k1) rfl (by simp)]) rfl⟩
theorem en30 : Enters Tryd.prog 30 := enters_of Tryd.func30 (by kernel_rfl) rfl

-- caravel/addr.WriteIP
theorem g16 : GOk1 Tryd.prog (ctxOf [(29, F29), (30, F30)]) := gok_cons spec29 en29 (gok_cons spec30 en30 (gok_nil))
set_option maxHeartbeats 2000000 in
theorem at16 (a : Caw.Ip) (hpre : LowIp a) : SpecAt Tryd.prog 16 [.agg (ipCells a)] (.v (.string (writeIP a))) none := by
  have hj := writeIP_len hpre
  obtain ⟨w0, w1, w2, w3⟩ := lowIp_wrap hpre
  obtain ⟨a0, a1, b0, b1, c0, c1, d0, d1⟩ := hpre
  have q1 : a.a < 100000 := by omega
  have q2 : a.b < 100000 := by omega
  have q3 : a.c < 100000 := by omega
  have q4 : a.d < 100000 := by omega
  refine specAt_of_tri Tryd.func16 rfl (Nat.le_of_ble_eq_true rfl) ?_
  all_goals (repeat' (first
      | (refine tri_condT (b_true (by simp; with_reducible exact IsB.mk)) ?_)
      | (refine tri_condF (b_true (by simp; with_reducible exact IsB.mk)) ?_)
      | (refine tri_skipT ?_)
      | (refine tri_skip ?_)
      | (refine then_to ?_)
      | (refine th_n ?_)
      | (refine in_n ?_)
      | (refine in_e ?_)
      | (refine in_x rfl ?_)
      | (refine th_e ?_)
      | (refine th_r ?_)
      | (refine in_r ?_)
      | (refine tri_ret ?_)
      | (refine tri_exit ?_)
      | (refine tri_block ?_)
      | (refine tri_step (id := 0) (C := ⟨[1], [], []⟩) [1] [] g16 nodraw ?_; refine ⟨_, by (simp [*, F29, F30, ipCells, dd_fold, flg]; exact Is.mk), ?_⟩)
      | (refine tri_last (id := 0) (C := ⟨[1], [], []⟩) [1] [] g16 nodraw ?_; refine ⟨_, by (simp [*, F29, F30, ipCells, dd_fold, flg]; exact Is.mk), ?_⟩)
      | (refine tri_step (id := 1) (C := ⟨[1], [], []⟩) [1, 3] [] g16 nodraw ?_; refine ⟨_, by (simp [*, F29, F30, ipCells, dd_fold, flg]; exact Is.mk), ?_⟩)
      | (refine tri_last (id := 1) (C := ⟨[1], [], []⟩) [1, 3] [] g16 nodraw ?_; refine ⟨_, by (simp [*, F29, F30, ipCells, dd_fold, flg]; exact Is.mk), ?_⟩)
      | (refine tri_step (id := 2) (C := ⟨[1], [], []⟩) [3, 6, 7] [] g16 nodraw ?_; refine ⟨_, by (simp [*, F29, F30, ipCells, dd_fold, flg]; exact Is.mk), ?_⟩)
      | (refine tri_last (id := 2) (C := ⟨[1], [], []⟩) [3, 6, 7] [] g16 nodraw ?_; refine ⟨_, by (simp [*, F29, F30, ipCells, dd_fold, flg]; exact Is.mk), ?_⟩)
      | (refine tri_step (id := 3) (C := ⟨[1], [], []⟩) [3, 6, 7, 8] [] g16 nodraw ?_; refine ⟨_, by (simp [*, F29, F30, ipCells, dd_fold, flg]; exact Is.mk), ?_⟩)
      | (refine tri_last (id := 3) (C := ⟨[1], [], []⟩) [3, 6, 7, 8] [] g16 nodraw ?_; refine ⟨_, by (simp [*, F29, F30, ipCells, dd_fold, flg]; exact Is.mk), ?_⟩)
      | (refine tri_step (id := 4) (C := ⟨[1], [], []⟩) [3, 5, 6, 7] [] g16 nodraw ?_; refine ⟨_, by (simp [*, F29, F30, ipCells, dd_fold, flg]; exact Is.mk), ?_⟩)
      | (refine tri_last (id := 4) (C := ⟨[1], [], []⟩) [3, 5, 6, 7] [] g16 nodraw ?_; refine ⟨_, by (simp [*, F29, F30, ipCells, dd_fold, flg]; exact Is.mk), ?_⟩)
      | (refine tri_step (id := 5) (C := ⟨[1], [], []⟩) [3, 6, 7] [] g16 nodraw ?_; refine ⟨_, by (simp [*, F29, F30, ipCells, dd_fold, flg]; exact Is.mk), ?_⟩)
      | (refine tri_last (id := 5) (C := ⟨[1], [], []⟩) [3, 6, 7] [] g16 nodraw ?_; refine ⟨_, by (simp [*, F29, F30, ipCells, dd_fold, flg]; exact Is.mk), ?_⟩)
      | (refine tri_step (id := 6) (C := ⟨[1], [], []⟩) [3, 6, 7] [] g16 nodraw ?_; refine ⟨_, by (simp [*, F29, F30, ipCells, dd_fold, flg]; exact Is.mk), ?_⟩)
      | (refine tri_last (id := 6) (C := ⟨[1], [], []⟩) [3, 6, 7] [] g16 nodraw ?_; refine ⟨_, by (simp [*, F29, F30, ipCells, dd_fold, flg]; exact Is.mk), ?_⟩)
      | (refine tri_step (id := 7) (C := ⟨[1], [], []⟩) [2] [] g16 nodraw ?_; refine ⟨_, by (simp [*, F29, F30, ipCells, dd_fold, flg]; exact Is.mk), ?_⟩)
      | (refine tri_last (id := 7) (C := ⟨[1], [], []⟩) [2] [] g16 nodraw ?_; refine ⟨_, by (simp [*, F29, F30, ipCells, dd_fold, flg]; exact Is.mk), ?_⟩)
      | (refine tri_cond (c := .tmp 8) (b_true (by simp; exact IsB.mk)) (fun hc => ?_) (fun hc => ?_))
      | (refine to_mk (by simp; exact IsK.mk))
      | (refine imp_ ?_)
      | ((simp; exact IsK.mk))
      | (refine tri_seq ?_)
      ))
  refine tri_loop (fun n st => ∃ i : Nat, i ≤ 4 ∧ n = 4 - i ∧ st = mkSt [(3, .sl 1 (encZ (ipStrs a i)) (some ((16,0,0),0))), (6, .v (.agg #[.int .u8 a.a, .int .u8 a.b, .int .u8 a.c, .int .u8 a.d])), (7, .v (.int .i64 i))] []) 4 _ (le_K (by simp [ipStrs]) (by simp)) ⟨0, by omega, rfl, rfl⟩ ?_
  rintro n st ⟨i, hi, hn, rfl⟩
  rcases (by omega : i = 0 ∨ i = 1 ∨ i = 2 ∨ i = 3 ∨ i = 4) with rfl | rfl | rfl | rfl | rfl
  · all_goals (repeat' (first
      | (refine tri_condT (b_true (by simp; with_reducible exact IsB.mk)) ?_)
      | (refine tri_condF (b_true (by simp; with_reducible exact IsB.mk)) ?_)
      | (refine tri_skipT ?_)
      | (refine tri_skip ?_)
      | (refine then_to ?_)
      | (refine th_n ?_)
      | (refine in_n ?_)
      | (refine in_e ?_)
      | (refine in_x rfl ?_)
      | (refine th_e ?_)
      | (refine th_r ?_)
      | (refine in_r ?_)
      | (refine tri_ret ?_)
      | (refine tri_exit ?_)
      | (refine tri_block ?_)
      | (refine tri_step (id := 0) (C := ⟨[1], [], []⟩) [1] [] g16 nodraw ?_; refine ⟨_, by (simp [*, F29, F30, ipCells, dd_fold, flg]; exact Is.mk), ?_⟩)
      | (refine tri_last (id := 0) (C := ⟨[1], [], []⟩) [1] [] g16 nodraw ?_; refine ⟨_, by (simp [*, F29, F30, ipCells, dd_fold, flg]; exact Is.mk), ?_⟩)
      | (refine tri_step (id := 1) (C := ⟨[1], [], []⟩) [1, 3] [] g16 nodraw ?_; refine ⟨_, by (simp [*, F29, F30, ipCells, dd_fold, flg]; exact Is.mk), ?_⟩)
      | (refine tri_last (id := 1) (C := ⟨[1], [], []⟩) [1, 3] [] g16 nodraw ?_; refine ⟨_, by (simp [*, F29, F30, ipCells, dd_fold, flg]; exact Is.mk), ?_⟩)
      | (refine tri_step (id := 2) (C := ⟨[1], [], []⟩) [3, 6, 7] [] g16 nodraw ?_; refine ⟨_, by (simp [*, F29, F30, ipCells, dd_fold, flg]; exact Is.mk), ?_⟩)
      | (refine tri_last (id := 2) (C := ⟨[1], [], []⟩) [3, 6, 7] [] g16 nodraw ?_; refine ⟨_, by (simp [*, F29, F30, ipCells, dd_fold, flg]; exact Is.mk), ?_⟩)
      | (refine tri_step (id := 3) (C := ⟨[1], [], []⟩) [3, 6, 7, 8] [] g16 nodraw ?_; refine ⟨_, by (simp [*, F29, F30, ipCells, dd_fold, flg]; exact Is.mk), ?_⟩)
      | (refine tri_last (id := 3) (C := ⟨[1], [], []⟩) [3, 6, 7, 8] [] g16 nodraw ?_; refine ⟨_, by (simp [*, F29, F30, ipCells, dd_fold, flg]; exact Is.mk), ?_⟩)
      | (refine tri_step (id := 4) (C := ⟨[1], [], []⟩) [3, 5, 6, 7] [] g16 nodraw ?_; refine ⟨_, by (simp [*, F29, F30, ipCells, dd_fold, flg]; exact Is.mk), ?_⟩)
      | (refine tri_last (id := 4) (C := ⟨[1], [], []⟩) [3, 5, 6, 7] [] g16 nodraw ?_; refine ⟨_, by (simp [*, F29, F30, ipCells, dd_fold, flg]; exact Is.mk), ?_⟩)
      | (refine tri_step (id := 5) (C := ⟨[1], [], []⟩) [3, 6, 7] [] g16 nodraw ?_; refine ⟨_, by (simp [*, F29, F30, ipCells, dd_fold, flg]; exact Is.mk), ?_⟩)
      | (refine tri_last (id := 5) (C := ⟨[1], [], []⟩) [3, 6, 7] [] g16 nodraw ?_; refine ⟨_, by (simp [*, F29, F30, ipCells, dd_fold, flg]; exact Is.mk), ?_⟩)
      | (refine tri_step (id := 6) (C := ⟨[1], [], []⟩) [3, 6, 7] [] g16 nodraw ?_; refine ⟨_, by (simp [*, F29, F30, ipCells, dd_fold, flg]; exact Is.mk), ?_⟩)
      | (refine tri_last (id := 6) (C := ⟨[1], [], []⟩) [3, 6, 7] [] g16 nodraw ?_; refine ⟨_, by (simp [*, F29, F30, ipCells, dd_fold, flg]; exact Is.mk), ?_⟩)
      | (refine tri_step (id := 7) (C := ⟨[1], [], []⟩) [2] [] g16 nodraw ?_; refine ⟨_, by (simp [*, F29, F30, ipCells, dd_fold, flg]; exact Is.mk), ?_⟩)
      | (refine tri_last (id := 7) (C := ⟨[1], [], []⟩) [2] [] g16 nodraw ?_; refine ⟨_, by (simp [*, F29, F30, ipCells, dd_fold, flg]; exact Is.mk), ?_⟩)
      | (refine tri_cond (c := .tmp 8) (b_true (by simp; exact IsB.mk)) (fun hc => ?_) (fun hc => ?_))
      | (refine to_mk (by simp; exact IsK.mk))
      | (refine imp_ ?_)
      | ((simp; exact IsK.mk))
      | (refine tri_seq ?_)
      ))
    exact ⟨4 - (0 + 1), _, by omega, Le.refl _, 0 + 1, by omega, rfl, rfl⟩
  · all_goals (repeat' (first
      | (refine tri_condT (b_true (by simp; with_reducible exact IsB.mk)) ?_)
      | (refine tri_condF (b_true (by simp; with_reducible exact IsB.mk)) ?_)
      | (refine tri_skipT ?_)
      | (refine tri_skip ?_)
      | (refine then_to ?_)
      | (refine th_n ?_)
      | (refine in_n ?_)
      | (refine in_e ?_)
      | (refine in_x rfl ?_)
      | (refine th_e ?_)
      | (refine th_r ?_)
      | (refine in_r ?_)
      | (refine tri_ret ?_)
      | (refine tri_exit ?_)
      | (refine tri_block ?_)
      | (refine tri_step (id := 0) (C := ⟨[1], [], []⟩) [1] [] g16 nodraw ?_; refine ⟨_, by (simp [*, F29, F30, ipCells, dd_fold, flg]; exact Is.mk), ?_⟩)
      | (refine tri_last (id := 0) (C := ⟨[1], [], []⟩) [1] [] g16 nodraw ?_; refine ⟨_, by (simp [*, F29, F30, ipCells, dd_fold, flg]; exact Is.mk), ?_⟩)
      | (refine tri_step (id := 1) (C := ⟨[1], [], []⟩) [1, 3] [] g16 nodraw ?_; refine ⟨_, by (simp [*, F29, F30, ipCells, dd_fold, flg]; exact Is.mk), ?_⟩)
      | (refine tri_last (id := 1) (C := ⟨[1], [], []⟩) [1, 3] [] g16 nodraw ?_; refine ⟨_, by (simp [*, F29, F30, ipCells, dd_fold, flg]; exact Is.mk), ?_⟩)
      | (refine tri_step (id := 2) (C := ⟨[1], [], []⟩) [3, 6, 7] [] g16 nodraw ?_; refine ⟨_, by (simp [*, F29, F30, ipCells, dd_fold, flg]; exact Is.mk), ?_⟩)
      | (refine tri_last (id := 2) (C := ⟨[1], [], []⟩) [3, 6, 7] [] g16 nodraw ?_; refine ⟨_, by (simp [*, F29, F30, ipCells, dd_fold, flg]; exact Is.mk), ?_⟩)
      | (refine tri_step (id := 3) (C := ⟨[1], [], []⟩) [3, 6, 7, 8] [] g16 nodraw ?_; refine ⟨_, by (simp [*, F29, F30, ipCells, dd_fold, flg]; exact Is.mk), ?_⟩)
      | (refine tri_last (id := 3) (C := ⟨[1], [], []⟩) [3, 6, 7, 8] [] g16 nodraw ?_; refine ⟨_, by (simp [*, F29, F30, ipCells, dd_fold, flg]; exact Is.mk), ?_⟩)
      | (refine tri_step (id := 4) (C := ⟨[1], [], []⟩) [3, 5, 6, 7] [] g16 nodraw ?_; refine ⟨_, by (simp [*, F29, F30, ipCells, dd_fold, flg]; exact Is.mk), ?_⟩)
      | (refine tri_last (id := 4) (C := ⟨[1], [], []⟩) [3, 5, 6, 7] [] g16 nodraw ?_; refine ⟨_, by (simp [*, F29, F30, ipCells, dd_fold, flg]; exact Is.mk), ?_⟩)
      | (refine tri_step (id := 5) (C := ⟨[1], [], []⟩) [3, 6, 7] [] g16 nodraw ?_; refine ⟨_, by (simp [*, F29, F30, ipCells, dd_fold, flg]; exact Is.mk), ?_⟩)
      | (refine tri_last (id := 5) (C := ⟨[1], [], []⟩) [3, 6, 7] [] g16 nodraw ?_; refine ⟨_, by (simp [*, F29, F30, ipCells, dd_fold, flg]; exact Is.mk), ?_⟩)
      | (refine tri_step (id := 6) (C := ⟨[1], [], []⟩) [3, 6, 7] [] g16 nodraw ?_; refine ⟨_, by (simp [*, F29, F30, ipCells, dd_fold, flg]; exact Is.mk), ?_⟩)
      | (refine tri_last (id := 6) (C := ⟨[1], [], []⟩) [3, 6, 7] [] g16 nodraw ?_; refine ⟨_, by (simp [*, F29, F30, ipCells, dd_fold, flg]; exact Is.mk), ?_⟩)
      | (refine tri_step (id := 7) (C := ⟨[1], [], []⟩) [2] [] g16 nodraw ?_; refine ⟨_, by (simp [*, F29, F30, ipCells, dd_fold, flg]; exact Is.mk), ?_⟩)
      | (refine tri_last (id := 7) (C := ⟨[1], [], []⟩) [2] [] g16 nodraw ?_; refine ⟨_, by (simp [*, F29, F30, ipCells, dd_fold, flg]; exact Is.mk), ?_⟩)
      | (refine tri_cond (c := .tmp 8) (b_true (by simp; exact IsB.mk)) (fun hc => ?_) (fun hc => ?_))
      | (refine to_mk (by simp; exact IsK.mk))
      | (refine imp_ ?_)
      | ((simp; exact IsK.mk))
      | (refine tri_seq ?_)
      ))
    exact ⟨4 - (1 + 1), _, by omega, Le.refl _, 1 + 1, by omega, rfl, rfl⟩
  · all_goals (repeat' (first
      | (refine tri_condT (b_true (by simp; with_reducible exact IsB.mk)) ?_)
      | (refine tri_condF (b_true (by simp; with_reducible exact IsB.mk)) ?_)
      | (refine tri_skipT ?_)
      | (refine tri_skip ?_)
      | (refine then_to ?_)
      | (refine th_n ?_)
      | (refine in_n ?_)
      | (refine in_e ?_)
      | (refine in_x rfl ?_)
      | (refine th_e ?_)
      | (refine th_r ?_)
      | (refine in_r ?_)
      | (refine tri_ret ?_)
      | (refine tri_exit ?_)
      | (refine tri_block ?_)
      | (refine tri_step (id := 0) (C := ⟨[1], [], []⟩) [1] [] g16 nodraw ?_; refine ⟨_, by (simp [*, F29, F30, ipCells, dd_fold, flg]; exact Is.mk), ?_⟩)
      | (refine tri_last (id := 0) (C := ⟨[1], [], []⟩) [1] [] g16 nodraw ?_; refine ⟨_, by (simp [*, F29, F30, ipCells, dd_fold, flg]; exact Is.mk), ?_⟩)
      | (refine tri_step (id := 1) (C := ⟨[1], [], []⟩) [1, 3] [] g16 nodraw ?_; refine ⟨_, by (simp [*, F29, F30, ipCells, dd_fold, flg]; exact Is.mk), ?_⟩)
      | (refine tri_last (id := 1) (C := ⟨[1], [], []⟩) [1, 3] [] g16 nodraw ?_; refine ⟨_, by (simp [*, F29, F30, ipCells, dd_fold, flg]; exact Is.mk), ?_⟩)
      | (refine tri_step (id := 2) (C := ⟨[1], [], []⟩) [3, 6, 7] [] g16 nodraw ?_; refine ⟨_, by (simp [*, F29, F30, ipCells, dd_fold, flg]; exact Is.mk), ?_⟩)
      | (refine tri_last (id := 2) (C := ⟨[1], [], []⟩) [3, 6, 7] [] g16 nodraw ?_; refine ⟨_, by (simp [*, F29, F30, ipCells, dd_fold, flg]; exact Is.mk), ?_⟩)
      | (refine tri_step (id := 3) (C := ⟨[1], [], []⟩) [3, 6, 7, 8] [] g16 nodraw ?_; refine ⟨_, by (simp [*, F29, F30, ipCells, dd_fold, flg]; exact Is.mk), ?_⟩)
      | (refine tri_last (id := 3) (C := ⟨[1], [], []⟩) [3, 6, 7, 8] [] g16 nodraw ?_; refine ⟨_, by (simp [*, F29, F30, ipCells, dd_fold, flg]; exact Is.mk), ?_⟩)
      | (refine tri_step (id := 4) (C := ⟨[1], [], []⟩) [3, 5, 6, 7] [] g16 nodraw ?_; refine ⟨_, by (simp [*, F29, F30, ipCells, dd_fold, flg]; exact Is.mk), ?_⟩)
      | (refine tri_last (id := 4) (C := ⟨[1], [], []⟩) [3, 5, 6, 7] [] g16 nodraw ?_; refine ⟨_, by (simp [*, F29, F30, ipCells, dd_fold, flg]; exact Is.mk), ?_⟩)
      | (refine tri_step (id := 5) (C := ⟨[1], [], []⟩) [3, 6, 7] [] g16 nodraw ?_; refine ⟨_, by (simp [*, F29, F30, ipCells, dd_fold, flg]; exact Is.mk), ?_⟩)
      | (refine tri_last (id := 5) (C := ⟨[1], [], []⟩) [3, 6, 7] [] g16 nodraw ?_; refine ⟨_, by (simp [*, F29, F30, ipCells, dd_fold, flg]; exact Is.mk), ?_⟩)
      | (refine tri_step (id := 6) (C := ⟨[1], [], []⟩) [3, 6, 7] [] g16 nodraw ?_; refine ⟨_, by (simp [*, F29, F30, ipCells, dd_fold, flg]; exact Is.mk), ?_⟩)
      | (refine tri_last (id := 6) (C := ⟨[1], [], []⟩) [3, 6, 7] [] g16 nodraw ?_; refine ⟨_, by (simp [*, F29, F30, ipCells, dd_fold, flg]; exact Is.mk), ?_⟩)
      | (refine tri_step (id := 7) (C := ⟨[1], [], []⟩) [2] [] g16 nodraw ?_; refine ⟨_, by (simp [*, F29, F30, ipCells, dd_fold, flg]; exact Is.mk), ?_⟩)
      | (refine tri_last (id := 7) (C := ⟨[1], [], []⟩) [2] [] g16 nodraw ?_; refine ⟨_, by (simp [*, F29, F30, ipCells, dd_fold, flg]; exact Is.mk), ?_⟩)
      | (refine tri_cond (c := .tmp 8) (b_true (by simp; exact IsB.mk)) (fun hc => ?_) (fun hc => ?_))
      | (refine to_mk (by simp; exact IsK.mk))
      | (refine imp_ ?_)
      | ((simp; exact IsK.mk))
      | (refine tri_seq ?_)
      ))
    exact ⟨4 - (2 + 1), _, by omega, Le.refl _, 2 + 1, by omega, rfl, rfl⟩
  · all_goals (repeat' (first
      | (refine tri_condT (b_true (by simp; with_reducible exact IsB.mk)) ?_)
      | (refine tri_condF (b_true (by simp; with_reducible exact IsB.mk)) ?_)
      | (refine tri_skipT ?_)
      | (refine tri_skip ?_)
      | (refine then_to ?_)
      | (refine th_n ?_)
      | (refine in_n ?_)
      | (refine in_e ?_)
      | (refine in_x rfl ?_)
      | (refine th_e ?_)
      | (refine th_r ?_)
      | (refine in_r ?_)
      | (refine tri_ret ?_)
      | (refine tri_exit ?_)
      | (refine tri_block ?_)
      | (refine tri_step (id := 0) (C := ⟨[1], [], []⟩) [1] [] g16 nodraw ?_; refine ⟨_, by (simp [*, F29, F30, ipCells, dd_fold, flg]; exact Is.mk), ?_⟩)
      | (refine tri_last (id := 0) (C := ⟨[1], [], []⟩) [1] [] g16 nodraw ?_; refine ⟨_, by (simp [*, F29, F30, ipCells, dd_fold, flg]; exact Is.mk), ?_⟩)
      | (refine tri_step (id := 1) (C := ⟨[1], [], []⟩) [1, 3] [] g16 nodraw ?_; refine ⟨_, by (simp [*, F29, F30, ipCells, dd_fold, flg]; exact Is.mk), ?_⟩)
      | (refine tri_last (id := 1) (C := ⟨[1], [], []⟩) [1, 3] [] g16 nodraw ?_; refine ⟨_, by (simp [*, F29, F30, ipCells, dd_fold, flg]; exact Is.mk), ?_⟩)
      | (refine tri_step (id := 2) (C := ⟨[1], [], []⟩) [3, 6, 7] [] g16 nodraw ?_; refine ⟨_, by (simp [*, F29, F30, ipCells, dd_fold, flg]; exact Is.mk), ?_⟩)
      | (refine tri_last (id := 2) (C := ⟨[1], [], []⟩) [3, 6, 7] [] g16 nodraw ?_; refine ⟨_, by (simp [*, F29, F30, ipCells, dd_fold, flg]; exact Is.mk), ?_⟩)
      | (refine tri_step (id := 3) (C := ⟨[1], [], []⟩) [3, 6, 7, 8] [] g16 nodraw ?_; refine ⟨_, by (simp [*, F29, F30, ipCells, dd_fold, flg]; exact Is.mk), ?_⟩)
      | (refine tri_last (id := 3) (C := ⟨[1], [], []⟩) [3, 6, 7, 8] [] g16 nodraw ?_; refine ⟨_, by (simp [*, F29, F30, ipCells, dd_fold, flg]; exact Is.mk), ?_⟩)
      | (refine tri_step (id := 4) (C := ⟨[1], [], []⟩) [3, 5, 6, 7] [] g16 nodraw ?_; refine ⟨_, by (simp [*, F29, F30, ipCells, dd_fold, flg]; exact Is.mk), ?_⟩)
      | (refine tri_last (id := 4) (C := ⟨[1], [], []⟩) [3, 5, 6, 7] [] g16 nodraw ?_; refine ⟨_, by (simp [*, F29, F30, ipCells, dd_fold, flg]; exact Is.mk), ?_⟩)
      | (refine tri_step (id := 5) (C := ⟨[1], [], []⟩) [3, 6, 7] [] g16 nodraw ?_; refine ⟨_, by (simp [*, F29, F30, ipCells, dd_fold, flg]; exact Is.mk), ?_⟩)
      | (refine tri_last (id := 5) (C := ⟨[1], [], []⟩) [3, 6, 7] [] g16 nodraw ?_; refine ⟨_, by (simp [*, F29, F30, ipCells, dd_fold, flg]; exact Is.mk), ?_⟩)
      | (refine tri_step (id := 6) (C := ⟨[1], [], []⟩) [3, 6, 7] [] g16 nodraw ?_; refine ⟨_, by (simp [*, F29, F30, ipCells, dd_fold, flg]; exact Is.mk), ?_⟩)
      | (refine tri_last (id := 6) (C := ⟨[1], [], []⟩) [3, 6, 7] [] g16 nodraw ?_; refine ⟨_, by (simp [*, F29, F30, ipCells, dd_fold, flg]; exact Is.mk), ?_⟩)
      | (refine tri_step (id := 7) (C := ⟨[1], [], []⟩) [2] [] g16 nodraw ?_; refine ⟨_, by (simp [*, F29, F30, ipCells, dd_fold, flg]; exact Is.mk), ?_⟩)
      | (refine tri_last (id := 7) (C := ⟨[1], [], []⟩) [2] [] g16 nodraw ?_; refine ⟨_, by (simp [*, F29, F30, ipCells, dd_fold, flg]; exact Is.mk), ?_⟩)
      | (refine tri_cond (c := .tmp 8) (b_true (by simp; exact IsB.mk)) (fun hc => ?_) (fun hc => ?_))
      | (refine to_mk (by simp; exact IsK.mk))
      | (refine imp_ ?_)
      | ((simp; exact IsK.mk))
      | (refine tri_seq ?_)
      ))
    exact ⟨4 - (3 + 1), _, by omega, Le.refl _, 3 + 1, by omega, rfl, rfl⟩
  · have e4 : ipStrs a 4 = [ofL (dd a.a), ofL (dd a.b), ofL (dd a.c), ofL (dd a.d)] := rfl
    all_goals (repeat' (first
      | (refine tri_condT (b_true (by simp; with_reducible exact IsB.mk)) ?_)
      | (refine tri_condF (b_true (by simp; with_reducible exact IsB.mk)) ?_)
      | (refine tri_skipT ?_)
      | (refine tri_skip ?_)
      | (refine then_to ?_)
      | (refine th_n ?_)
      | (refine in_n ?_)
      | (refine in_e ?_)
      | (refine in_x rfl ?_)
      | (refine th_e ?_)
      | (refine th_r ?_)
      | (refine in_r ?_)
      | (refine tri_ret ?_)
      | (refine tri_exit ?_)
      | (refine tri_block ?_)
      | (refine tri_step (id := 0) (C := ⟨[1], [], []⟩) [1] [] g16 nodraw ?_; refine ⟨_, by (simp [*, F29, F30, ipCells, dd_fold, flg]; exact Is.mk), ?_⟩)
      | (refine tri_last (id := 0) (C := ⟨[1], [], []⟩) [1] [] g16 nodraw ?_; refine ⟨_, by (simp [*, F29, F30, ipCells, dd_fold, flg]; exact Is.mk), ?_⟩)
      | (refine tri_step (id := 1) (C := ⟨[1], [], []⟩) [1, 3] [] g16 nodraw ?_; refine ⟨_, by (simp [*, F29, F30, ipCells, dd_fold, flg]; exact Is.mk), ?_⟩)
      | (refine tri_last (id := 1) (C := ⟨[1], [], []⟩) [1, 3] [] g16 nodraw ?_; refine ⟨_, by (simp [*, F29, F30, ipCells, dd_fold, flg]; exact Is.mk), ?_⟩)
      | (refine tri_step (id := 2) (C := ⟨[1], [], []⟩) [3, 6, 7] [] g16 nodraw ?_; refine ⟨_, by (simp [*, F29, F30, ipCells, dd_fold, flg]; exact Is.mk), ?_⟩)
      | (refine tri_last (id := 2) (C := ⟨[1], [], []⟩) [3, 6, 7] [] g16 nodraw ?_; refine ⟨_, by (simp [*, F29, F30, ipCells, dd_fold, flg]; exact Is.mk), ?_⟩)
      | (refine tri_step (id := 3) (C := ⟨[1], [], []⟩) [3, 6, 7, 8] [] g16 nodraw ?_; refine ⟨_, by (simp [*, F29, F30, ipCells, dd_fold, flg]; exact Is.mk), ?_⟩)
      | (refine tri_last (id := 3) (C := ⟨[1], [], []⟩) [3, 6, 7, 8] [] g16 nodraw ?_; refine ⟨_, by (simp [*, F29, F30, ipCells, dd_fold, flg]; exact Is.mk), ?_⟩)
      | (refine tri_step (id := 4) (C := ⟨[1], [], []⟩) [3, 5, 6, 7] [] g16 nodraw ?_; refine ⟨_, by (simp [*, F29, F30, ipCells, dd_fold, flg]; exact Is.mk), ?_⟩)
      | (refine tri_last (id := 4) (C := ⟨[1], [], []⟩) [3, 5, 6, 7] [] g16 nodraw ?_; refine ⟨_, by (simp [*, F29, F30, ipCells, dd_fold, flg]; exact Is.mk), ?_⟩)
      | (refine tri_step (id := 5) (C := ⟨[1], [], []⟩) [3, 6, 7] [] g16 nodraw ?_; refine ⟨_, by (simp [*, F29, F30, ipCells, dd_fold, flg]; exact Is.mk), ?_⟩)
      | (refine tri_last (id := 5) (C := ⟨[1], [], []⟩) [3, 6, 7] [] g16 nodraw ?_; refine ⟨_, by (simp [*, F29, F30, ipCells, dd_fold, flg]; exact Is.mk), ?_⟩)
      | (refine tri_step (id := 6) (C := ⟨[1], [], []⟩) [3, 6, 7] [] g16 nodraw ?_; refine ⟨_, by (simp [*, F29, F30, ipCells, dd_fold, flg]; exact Is.mk), ?_⟩)
      | (refine tri_last (id := 6) (C := ⟨[1], [], []⟩) [3, 6, 7] [] g16 nodraw ?_; refine ⟨_, by (simp [*, F29, F30, ipCells, dd_fold, flg]; exact Is.mk), ?_⟩)
      | (refine tri_step (id := 7) (C := ⟨[1], [], []⟩) [2] [] g16 nodraw ?_; refine ⟨_, by (simp [*, F29, F30, ipCells, dd_fold, flg]; exact Is.mk), ?_⟩)
      | (refine tri_last (id := 7) (C := ⟨[1], [], []⟩) [2] [] g16 nodraw ?_; refine ⟨_, by (simp [*, F29, F30, ipCells, dd_fold, flg]; exact Is.mk), ?_⟩)
      | (refine tri_cond (c := .tmp 8) (b_true (by simp; exact IsB.mk)) (fun hc => ?_) (fun hc => ?_))
      | (refine to_mk (by simp; exact IsK.mk))
      | (refine imp_ ?_)
      | ((simp; exact IsK.mk))
      | (refine tri_seq ?_)
      ))
    all_goals (refine post_plainV (P := Tryd.prog) (fn := Tryd.f16) (by simp; exact IsV.mk) rfl ?_)
    all_goals (simp [writeIP]; done)
open Classical in
noncomputable def F16 : Fn1
  | [x0] => (whole pIp x0).bind fun a => if LowIp a then some ((.v (.string (writeIP a))), none) else none
  | _ => none
theorem spec16 : Spec1 Tryd.prog 16 F16 := spec_of fun ys r o h => by
  unfold F16 at h
  split at h
  case h_2 => cases h
  obtain ⟨a, k0, h1⟩ := bind_some h
  obtain ⟨hpre, hz⟩ := ite_some h1
  cases hz
  exact ⟨_, at16 a hpre, rfl, le_plain ⟨whole_co pIp_snd k0, trivial⟩ (by simp only [List.all_cons, List.all_nil, Bool.not_false, Bool.and_self, notRefB (whole_co pIp_snd k0) rfl (by simp)]) rfl⟩
theorem en16 : Enters Tryd.prog 16 := enters_of Tryd.func16 (by kernel_rfl) rfl

end Go.Proofs.YtkmjoppcecffkaaDoor

/-! Bytes as they are written in sixteens. -/
set_option linter.all false
namespace Caw
open Go Go.RowKit
theorem emakeR_eq {P : Program} {st : St} {d : Nat} {t : TypeId} {m : Int} (h : makeB P t = true) (h2 : sliceT P t = some 1) : emakeR P st d t m = if 0 ≤ m ∧ m * 2 ≤ 1099511627776 then
    some (.sl 1 [] (some (nmOf d 0, st.G (nmOf d 0) + 1)), bump st (nmOf d 0)) else none := by
  unfold makeB at h
  split at h
  case h_2 => cases h
  rename_i e hu
  split at h
  case h_2 => cases h
  rename_i i hi
  split at h
  case h_2 => cases h
  rename_i hz
  simp only [Bool.and_eq_true, beq_iff_eq] at h
  obtain ⟨h1, h3⟩ := h
  unfold emakeR
  simp only [hu, hi, hz, h1, h3, h2]
  simp
def hexs : ByteArray := ⟨#[48,49,50,51,52,53,54,55,56,57,97,98,99,100,101,102]⟩
def hexD (n : Nat) : UInt8 := if n < 10 then UInt8.ofNat (48 + n) else UInt8.ofNat (87 + n)
theorem hexs_get {n : Nat} (h : n < 16) : (⟨#[48,49,50,51,52,53,54,55,56,57,97,98,99,100,101,102]⟩ : ByteArray)[n]? = some (hexD n) := by
  revert n; decide
/-- One byte. -/
structure Byte1 (b : List Int) (x : Int) : Prop where
  eq : b = [x]
  lo : 0 ≤ x
  hi : x < 256
def hexL (x : Int) : List UInt8 := [hexD (x.toNat / 16), hexD (x.toNat % 16)]
def hexZ (b : List Int) : ByteArray := ofL (hexL (b.headD 0))
theorem hex_facts {x : Int} (h0 : 0 ≤ x) (h1 : x < 256) : IntKind.wrap .u8 (x.tdiv 16) = ((x.toNat / 16 : Nat) : Int) ∧ x.tmod 16 = ((x.toNat % 16 : Nat) : Int) ∧ x.toNat / 16 < 16 ∧ x.toNat % 16 < 16 := by
  obtain ⟨k, rfl⟩ : ∃ k : Nat, x = k := ⟨x.toNat, by omega⟩
  have e1 : (k : Int).tdiv 16 = ((k / 16 : Nat) : Int) := by rw [Int.tdiv_eq_ediv_of_nonneg (by omega)]; omega
  have e2 : (k : Int).tmod 16 = ((k % 16 : Nat) : Int) := by rw [Int.tmod_eq_emod_of_nonneg (by omega)]; omega
  refine ⟨?_, by simpa using e2, by simp; omega, by simp; omega⟩
  rw [e1]
  simp only [Int.toNat_natCast]
  have : k / 16 < 256 := by omega
  generalize k / 16 = q at this
  simp [IntKind.wrap, IntKind.bits, IntKind.signed]
  omega
def isB1 (b : List Int) : Prop := ∃ x, Byte1 b x
structure MacOk (a : Mac) : Prop where
  a1 : isB1 [a.a]
  b1 : isB1 [a.b]
  c1 : isB1 [a.c]
  d1 : isB1 [a.d]
  e1 : isB1 [a.e]
  f1 : isB1 [a.f]
theorem isB1_of {x : Int} (h0 : 0 ≤ x) (h1 : x < 256) : isB1 [x] := ⟨x, rfl, h0, h1⟩
def writeMAC (a : Mac) : ByteArray := ofL (Lib.join [hexL a.a, hexL a.b, hexL a.c, hexL a.d, hexL a.e, hexL a.f] [58])
def macStrs (a : Mac) : Nat → List ByteArray
  | 0 => []
  | 1 => [hexZ [a.a]]
  | 2 => [hexZ [a.a], hexZ [a.b]]
  | 3 => [hexZ [a.a], hexZ [a.b], hexZ [a.c]]
  | 4 => [hexZ [a.a], hexZ [a.b], hexZ [a.c], hexZ [a.d]]
  | 5 => [hexZ [a.a], hexZ [a.b], hexZ [a.c], hexZ [a.d], hexZ [a.e]]
  | _ => [hexZ [a.a], hexZ [a.b], hexZ [a.c], hexZ [a.d], hexZ [a.e], hexZ [a.f]]
theorem bl_hexZ (x : Int) : bl (hexZ [x]) = hexL x := rfl
theorem writeMAC_len (a : Mac) : (Lib.join [hexL a.a, hexL a.b, hexL a.c, hexL a.d, hexL a.e, hexL a.f] [58]).length ≤ 100000 := by
  simp [Lib.join, hexL]
def macAll : Mac := ⟨255, 255, 255, 255, 255, 255⟩
theorem macAll_ok : MacOk macAll := ⟨isB1_of (by decide) (by decide), isB1_of (by decide) (by decide), isB1_of (by decide) (by decide), isB1_of (by decide) (by decide), isB1_of (by decide) (by decide), isB1_of (by decide) (by decide)⟩
theorem wrap_six : IntKind.wrap .i64 1 = 1 ∧ IntKind.wrap .i64 2 = 2 ∧ IntKind.wrap .i64 3 = 3 ∧ IntKind.wrap .i64 4 = 4 ∧ IntKind.wrap .i64 5 = 5 ∧ IntKind.wrap .i64 6 = 6 := ⟨rfl, rfl, rfl, rfl, rfl, rfl⟩
end Caw

