import Derived.Test.YtkmjoppcecffkaaDoorK12
import Derived.Test.YtkmjoppcecffkaaDoorK13
import Derived.KernelRfl
import Derived.Test.YtkmjoppcecffkaaDoorK8
import Derived.Laws.RangeString
import Derived.Laws.RangeAny
set_option linter.all false
/-! An address with its port. -/
set_option linter.all false
namespace Caw
open Go Go.RowKit
def ipOf (a : Addr) : Ip := ⟨a.a, a.b, a.c, a.d⟩
def writeA (a : Addr) : ByteArray := writeIP (ipOf a) ++ ⟨#[58]⟩ ++ ofL (dd a.port)
structure LowA (a : Addr) : Prop where
  ip : LowIp (ipOf a)
  p0 : 0 ≤ a.port
  p1 : a.port < 65536
theorem writeA_facts {a : Addr} (h : LowA a) : IntKind.wrap .i64 a.port = a.port ∧ (writeIP (ipOf a)).size + (⟨#[58]⟩ : ByteArray).size ≤ 4611686018427387904 ∧ (writeIP (ipOf a)).size + (⟨#[58]⟩ : ByteArray).size + (dd a.port).length ≤ 4611686018427387904 := by
  have h1 := writeIP_len h.ip
  have h2 := dd_len (Int.lt_trans h.p1 (by decide))
  have h3 : (writeIP (ipOf a)).size ≤ 100000 := by simpa [writeIP] using h1
  have h4 := h.p0
  have h5 := h.p1
  have h6 : (⟨#[58]⟩ : ByteArray).size = 1 := rfl
  exact ⟨wrap_i64 (by omega), by omega, by omega⟩
end Caw

-- Printed by genwalk.py.
namespace Go.Proofs.YtkmjoppcecffkaaDoor
open Go Go.RowKit Caw
set_option linter.unusedSimpArgs false
set_option linter.unusedVariables false
set_option maxRecDepth 100000

-- caravel/addr.Write
theorem g14 : GOk1 Tryd.prog (ctxOf [(16, F16), (29, F29)]) := gok_cons spec16 en16 (gok_cons spec29 en29 (gok_nil))
set_option maxHeartbeats 2000000 in
theorem at14 (a : Caw.Addr) (hpre : LowA a) : SpecAt Tryd.prog 14 [.agg (addrCells a)] (.v (.string (writeA a))) none := by
  obtain ⟨w1, w2, w3⟩ := writeA_facts hpre
  obtain ⟨h0, p0, p1⟩ := hpre
  have q1 : a.port < 100000 := by omega
  have hp : pIp [AV.v (.int .u8 a.a), .v (.int .u8 a.b), .v (.int .u8 a.c), .v (.int .u8 a.d)] = some (ipOf a, []) := pIp_all (ipOf a)
  refine specAt_of_tri Tryd.func14 rfl (Nat.le_of_ble_eq_true rfl) ?_
  all_goals (repeat' (first
      | (refine tri_condT (b_true (by simp; with_reducible exact IsB.mk)) ?_)
      | (refine tri_condF (b_true (by simp; with_reducible exact IsB.mk)) ?_)
      | (refine tri_skipT ?_)
      | (refine tri_skip ?_)
      | (refine then_to ?_)
      | (refine th_n ?_)
      | (refine in_n ?_)
      | (refine in_e ?_)
      | (refine in_x rfl ?_)
      | (refine th_e ?_)
      | (refine th_r ?_)
      | (refine in_r ?_)
      | (refine tri_ret ?_)
      | (refine tri_exit ?_)
      | (refine tri_block ?_)
      | (refine tri_step (id := 0) (C := ⟨[], [], [(3, (2, 0, 0)), (7, (2, 0, 0))]⟩) [1] [(2, 0, 0)] g14 nodraw ?_; refine ⟨_, by (simp [*, F16, F29, addrCells, dd_fold, flg]; exact Is.mk), ?_⟩)
      | (refine tri_last (id := 0) (C := ⟨[], [], [(3, (2, 0, 0)), (7, (2, 0, 0))]⟩) [1] [(2, 0, 0)] g14 nodraw ?_; refine ⟨_, by (simp [*, F16, F29, addrCells, dd_fold, flg]; exact Is.mk), ?_⟩)
      | (refine tri_step (id := 1) (C := ⟨[], [], [(3, (2, 0, 0)), (7, (2, 0, 0))]⟩) [2] [] g14 (fun _ => ⟨q_mixed, by kernel_rfl⟩) ?_; refine ⟨_, by (simp [*, F16, F29, addrCells, dd_fold, flg]; exact Is.mk), ?_⟩)
      | (refine tri_last (id := 1) (C := ⟨[], [], [(3, (2, 0, 0)), (7, (2, 0, 0))]⟩) [2] [] g14 (fun _ => ⟨q_mixed, by kernel_rfl⟩) ?_; refine ⟨_, by (simp [*, F16, F29, addrCells, dd_fold, flg]; exact Is.mk), ?_⟩)
      | (refine to_mk (by simp; exact IsK.mk))
      | (refine imp_ ?_)
      | ((simp; exact IsK.mk))
      | (refine tri_seq ?_)
      ))
  all_goals (refine post_plainV (P := Tryd.prog) (fn := Tryd.f14) (by simp; exact IsV.mk) rfl ?_)
  all_goals (first | (simp [F16, F29, addrCells, dd_fold, flg, writeA]; done) | (simp [*, F16, F29, addrCells, dd_fold, flg, writeA]; done) | (simp_all [F16, F29, addrCells, dd_fold, flg, writeA]; done) | (simp [F16, F29, addrCells, dd_fold, flg, writeA] <;> (repeat' split) <;> simp_all; done) | (simp [F16, F29, addrCells, dd_fold, flg, writeA] <;> (repeat' split) <;> simp_all [Bool.and_assoc] <;> grind [List.length_eq_zero_iff, sendCells_co, recvCells_co, pieceCells_co, connCells_co, segCells_co, clockCells_co]))
open Classical in
noncomputable def F14 : Fn1
  | [x0] => (whole pAddr x0).bind fun a => if LowA a then some ((.v (.string (writeA a))), none) else none
  | _ => none
theorem spec14 : Spec1 Tryd.prog 14 F14 := spec_of fun ys r o h => by
  unfold F14 at h
  split at h
  case h_2 => cases h
  obtain ⟨a, k0, h1⟩ := bind_some h
  obtain ⟨hpre, hz⟩ := ite_some h1
  cases hz
  exact ⟨_, at14 a hpre, rfl, le_plain ⟨whole_co pAddr_snd k0, trivial⟩ (by simp only [List.all_cons, List.all_nil, Bool.not_false, Bool.and_self, notRefB (whole_co pAddr_snd k0) rfl (by simp)]) rfl⟩
theorem en14 : Enters Tryd.prog 14 := enters_of Tryd.func14 (by kernel_rfl) rfl

end Go.Proofs.YtkmjoppcecffkaaDoor

/-! The text that shows that the functions live. -/
set_option linter.all false
namespace Caw
open Go Go.RowKit
def liveS : ByteArray := ⟨#[49,48,46,48,46,48,46,49,58,56,48]⟩
theorem num_live (s : ByteArray) (most n : Int) (h : numF s most s.size 0 0 = some n) (h2 : s.data.toList.isEmpty = false) : numberR s most = (n, true) := by
  rw [numberR_some h, ByteArray.toList_eq, h2]; rfl
theorem live_split : splitZ ⟨#[49,48,46,48,46,48,46,49]⟩ ⟨#[46]⟩ = [⟨#[49,48]⟩, ⟨#[48]⟩, ⟨#[48]⟩, ⟨#[49]⟩] := by kernel_rfl
theorem live_cut : cutZ ⟨#[49,48,46,48,46,48,46,49,58,56,48]⟩ ⟨#[58]⟩ = (⟨#[49,48,46,48,46,48,46,49]⟩, ⟨#[56,48]⟩, true) := by kernel_rfl
theorem live_n10 : numberR ⟨#[49,48]⟩ 255 = (10, true) := num_live _ _ _ (by kernel_rfl) rfl
theorem live_n0 : numberR ⟨#[48]⟩ 255 = (0, true) := num_live _ _ _ (by kernel_rfl) rfl
theorem live_n1 : numberR ⟨#[49]⟩ 255 = (1, true) := num_live _ _ _ (by kernel_rfl) rfl
theorem live_n80 : numberR ⟨#[56,48]⟩ 65535 = (80, true) := num_live _ _ _ (by kernel_rfl) rfl
theorem live_ip : readIP ⟨#[49,48,46,48,46,48,46,49]⟩ = (⟨10, 0, 0, 1⟩, 0) := by
  rw [readIP_four live_split]
  simp [readF, restOk, nok, ipPart, num8, live_n10, live_n0, live_n1]
  decide
theorem live_read : readA ⟨#[49,48,46,48,46,48,46,49,58,56,48]⟩ = (⟨10, 0, 0, 1, 80⟩, 0) := by
  simp [readA, readOk, live_cut, live_ip, live_n80]
  decide
theorem dd10 : dd 10 = [49, 48] := by
  unfold dd
  rw [Lib.decDigits, dif_neg (by decide), Lib.decDigits, dif_pos (by decide)]; rfl
theorem dd0 : dd 0 = [48] := by
  unfold dd
  rw [Lib.decDigits, dif_pos (by decide)]; rfl
theorem dd1 : dd 1 = [49] := by
  unfold dd
  rw [Lib.decDigits, dif_pos (by decide)]; rfl
theorem dd80 : dd 80 = [56, 48] := by
  unfold dd
  rw [Lib.decDigits, dif_neg (by decide), Lib.decDigits, dif_pos (by decide)]; rfl
theorem live_write : writeA ⟨10, 0, 0, 1, 80⟩ = ⟨#[49,48,46,48,46,48,46,49,58,56,48]⟩ := by
  simp only [writeA, writeIP, ipOf, dd10, dd0, dd1, dd80]
  kernel_rfl
theorem live_low : LowA ⟨10, 0, 0, 1, 80⟩ := ⟨⟨by decide, by decide, by decide, by decide, by decide, by decide, by decide, by decide⟩, by decide, by decide⟩
theorem live_mac : writeMAC macAll = ⟨#[102,102,58,102,102,58,102,102,58,102,102,58,102,102,58,102,102]⟩ := by kernel_rfl
theorem live_size : (⟨#[49,48,46,48,46,48,46,49,58,56,48]⟩ : ByteArray).size ≤ 100000 := by decide
end Caw

-- Printed by genwalk.py.
namespace Go.Proofs.YtkmjoppcecffkaaDoor
open Go Go.RowKit Caw
set_option linter.unusedSimpArgs false
set_option linter.unusedVariables false
set_option maxRecDepth 100000

-- caravel/caravellaw04.lives
theorem g9 : GOk1 Tryd.prog (ctxOf [(10, F10), (14, F14), (24, F24), (22, F22)]) := gok_cons spec10 en10 (gok_cons spec14 en14 (gok_cons spec24 en24 (gok_cons spec22 en22 (gok_nil))))
set_option maxHeartbeats 2000000 in
theorem at9 : SpecAt Tryd.prog 9 [] (.v (.bool true)) none := by
  have l1 := live_read
  have l2 := live_write
  have l3 := live_mac
  have l4 := live_low
  have l5 := live_size
  have l6 := macAll_ok
  unfold macAll at l3 l6
  have l7 : whole pMac (AV.v (.agg #[.int .u8 255, .int .u8 255, .int .u8 255, .int .u8 255, .int .u8 255, .int .u8 255])) = some (⟨255, 255, 255, 255, 255, 255⟩ : Mac) := whole_encMac ⟨255, 255, 255, 255, 255, 255⟩
  refine specAt_of_tri Tryd.func9 rfl (Nat.le_of_ble_eq_true rfl) ?_
  all_goals (repeat' (first
      | (refine tri_condT (b_true (by simp; with_reducible exact IsB.mk)) ?_)
      | (refine tri_condF (b_true (by simp; with_reducible exact IsB.mk)) ?_)
      | (refine tri_skipT ?_)
      | (refine tri_skip ?_)
      | (refine then_to ?_)
      | (refine th_n ?_)
      | (refine in_n ?_)
      | (refine in_e ?_)
      | (refine in_x rfl ?_)
      | (refine th_e ?_)
      | (refine th_r ?_)
      | (refine in_r ?_)
      | (refine tri_ret ?_)
      | (refine tri_exit ?_)
      | (refine tri_block ?_)
      | (refine tri_step (id := 0) (C := ⟨[], [], []⟩) [] [] g9 nodraw ?_; refine ⟨_, by (simp [*, F10, F14, F24, F22, flg]; exact Is.mk), ?_⟩)
      | (refine tri_last (id := 0) (C := ⟨[], [], []⟩) [] [] g9 nodraw ?_; refine ⟨_, by (simp [*, F10, F14, F24, F22, flg]; exact Is.mk), ?_⟩)
      | (refine tri_step (id := 1) (C := ⟨[], [], []⟩) [1, 2] [(2, 0, 0)] g9 nodraw ?_; refine ⟨_, by (simp [*, F10, F14, F24, F22, flg]; exact Is.mk), ?_⟩)
      | (refine tri_last (id := 1) (C := ⟨[], [], []⟩) [1, 2] [(2, 0, 0)] g9 nodraw ?_; refine ⟨_, by (simp [*, F10, F14, F24, F22, flg]; exact Is.mk), ?_⟩)
      | (refine tri_stepG (id := 2) (C := ⟨[], [], []⟩) [0] [] g9 nodraw ?_; refine ⟨_, (run_split 0 3 9 (by simp [*, F10, F14, F24, F22, flg]; exact Is.mk) (by simp; exact IsB.mk) (run_split 3 5 14 (by simp [*, F10, F14, F24, F22, flg]; exact Is.mk) (by simp; exact IsB.mk) (run_split 8 5 19 (by simp [*, F10, F14, F24, F22, flg]; exact Is.mk) (by simp; exact IsB.mk) (by simp [*, F10, F14, F24, F22, flg]; exact IsK.mk) (by simp [*, F10, F14, F24, F22, flg]; exact IsK.mk) (by simp; exact IsK.mk)) (run_split 8 5 19 (by simp [*, F10, F14, F24, F22, flg]; exact Is.mk) (by simp; exact IsB.mk) (by simp [*, F10, F14, F24, F22, flg]; exact IsK.mk) (by simp [*, F10, F14, F24, F22, flg]; exact IsK.mk) (by simp; exact IsK.mk)) (by simp; exact IsK.mk)) (run_split 3 5 14 (by simp [*, F10, F14, F24, F22, flg]; exact Is.mk) (by simp; exact IsB.mk) (run_split 8 5 19 (by simp [*, F10, F14, F24, F22, flg]; exact Is.mk) (by simp; exact IsB.mk) (by simp [*, F10, F14, F24, F22, flg]; exact IsK.mk) (by simp [*, F10, F14, F24, F22, flg]; exact IsK.mk) (by simp; exact IsK.mk)) (run_split 8 5 19 (by simp [*, F10, F14, F24, F22, flg]; exact Is.mk) (by simp; exact IsB.mk) (by simp [*, F10, F14, F24, F22, flg]; exact IsK.mk) (by simp [*, F10, F14, F24, F22, flg]; exact IsK.mk) (by simp; exact IsK.mk)) (by simp; exact IsK.mk)) (by simp; exact IsK.mk)), ?_⟩)
      | (refine tri_lastG (id := 2) (C := ⟨[], [], []⟩) [0] [] g9 nodraw ?_; refine ⟨_, (run_split 0 3 9 (by simp [*, F10, F14, F24, F22, flg]; exact Is.mk) (by simp; exact IsB.mk) (run_split 3 5 14 (by simp [*, F10, F14, F24, F22, flg]; exact Is.mk) (by simp; exact IsB.mk) (run_split 8 5 19 (by simp [*, F10, F14, F24, F22, flg]; exact Is.mk) (by simp; exact IsB.mk) (by simp [*, F10, F14, F24, F22, flg]; exact IsK.mk) (by simp [*, F10, F14, F24, F22, flg]; exact IsK.mk) (by simp; exact IsK.mk)) (run_split 8 5 19 (by simp [*, F10, F14, F24, F22, flg]; exact Is.mk) (by simp; exact IsB.mk) (by simp [*, F10, F14, F24, F22, flg]; exact IsK.mk) (by simp [*, F10, F14, F24, F22, flg]; exact IsK.mk) (by simp; exact IsK.mk)) (by simp; exact IsK.mk)) (run_split 3 5 14 (by simp [*, F10, F14, F24, F22, flg]; exact Is.mk) (by simp; exact IsB.mk) (run_split 8 5 19 (by simp [*, F10, F14, F24, F22, flg]; exact Is.mk) (by simp; exact IsB.mk) (by simp [*, F10, F14, F24, F22, flg]; exact IsK.mk) (by simp [*, F10, F14, F24, F22, flg]; exact IsK.mk) (by simp; exact IsK.mk)) (run_split 8 5 19 (by simp [*, F10, F14, F24, F22, flg]; exact Is.mk) (by simp; exact IsB.mk) (by simp [*, F10, F14, F24, F22, flg]; exact IsK.mk) (by simp [*, F10, F14, F24, F22, flg]; exact IsK.mk) (by simp; exact IsK.mk)) (by simp; exact IsK.mk)) (by simp; exact IsK.mk)), ?_⟩)
      | (refine to_mk (by simp; exact IsK.mk))
      | (refine imp_ ?_)
      | ((simp; exact IsK.mk))
      | (refine tri_seq ?_)
      ))
  all_goals (refine post_plainV (P := Tryd.prog) (fn := Tryd.f9) (by simp; exact IsV.mk) rfl ?_)
  all_goals (first | (simp [F10, F14, F24, F22, flg]; done) | (simp [*, F10, F14, F24, F22, flg]; done) | (simp_all [F10, F14, F24, F22, flg]; done) | (simp [F10, F14, F24, F22, flg] <;> (repeat' split) <;> simp_all; done) | (simp [F10, F14, F24, F22, flg] <;> (repeat' split) <;> simp_all [Bool.and_assoc] <;> grind [List.length_eq_zero_iff, sendCells_co, recvCells_co, pieceCells_co, connCells_co, segCells_co, clockCells_co]))
noncomputable def F9 : Fn1
  | [] => some ((.v (.bool true)), none)
  | _ => none
theorem spec9 : Spec1 Tryd.prog 9 F9 := spec_of fun ys r o h => by
  unfold F9 at h
  split at h
  case h_2 => cases h
  cases h
  exact ⟨_, at9, rfl, le_plain trivial (by simp only [List.all_cons, List.all_nil, Bool.not_false, Bool.and_self]) rfl⟩
theorem en9 : Enters Tryd.prog 9 := enters_of Tryd.func9 (by kernel_rfl) rfl

end Go.Proofs.YtkmjoppcecffkaaDoor

/-! What is written is read, and whatever is read was written so: hosts' addresses. -/
set_option linter.all false
namespace Caw
open Go Go.RowKit Go.Lib
/-! ### Digits -/
def isDig (c : UInt8) : Prop := 48 ≤ c.toNat ∧ c.toNat ≤ 57
theorem of48 {d : Nat} (h : d < 10) : (UInt8.ofNat (48 + d)).toNat = 48 + d := by
  rw [UInt8.toNat_ofNat']; omega
theorem dig48 {d : Nat} (h : d < 10) : isDig (UInt8.ofNat (48 + d)) := by
  unfold isDig
  rw [of48 h]; omega
theorem dec_dig : ∀ (k n : Nat), n < k → ∀ c ∈ decDigits n, isDig c
  | 0, n, h, c, hc => by omega
  | k + 1, n, h, c, hc => by
    rw [decDigits] at hc
    split at hc
    · rename_i h1
      simp only [List.mem_singleton] at hc
      subst hc
      exact dig48 h1
    · rename_i h1
      rcases List.mem_append.1 hc with hc | hc
      · exact dec_dig k (n / 10) (by omega) c hc
      · simp only [List.mem_singleton] at hc
        subst hc
        exact dig48 (by omega)
theorem dd_dig {n : Int} {c : UInt8} (h : c ∈ dd n) : isDig c := dec_dig _ _ (Nat.lt_succ_self _) c h
theorem dd_no {n : Int} {c : UInt8} (h : c.toNat < 48 ∨ 57 < c.toNat) : c ∉ dd n := fun hc => by
  have := dd_dig hc
  unfold isDig at this
  omega
theorem dec_ne (n : Nat) : decDigits n ≠ [] := by
  rw [decDigits]
  split <;> simp
theorem dd_ne (n : Int) : dd n ≠ [] := dec_ne _
/-! ### The number of a text, by its bytes -/
def numL (most : Int) : List UInt8 → Bool → Int → Option Int
  | [], _, n => some n
  | c :: l, inner, n => if (c.toNat : Int) < 48 ∨ 57 < (c.toNat : Int) ∨ (inner = true ∧ n = 0) then none
      else if most < 10 * n + ((c.toNat : Int) - 48) then none else numL most l true (10 * n + ((c.toNat : Int) - 48))
theorem drop_bl (s : ByteArray) (pos : Nat) (h : pos < s.size) : (bl s).drop pos = s[pos] :: (bl s).drop (pos + 1) := by
  have h2 : pos < (bl s).length := by rw [bl_len]; exact h
  rw [List.drop_eq_getElem_cons h2]
  rfl
theorem numF_numL (s : ByteArray) (most : Int) : ∀ (b pos : Nat) (n : Int), s.size ≤ pos + b → numF s most b pos n = numL most ((bl s).drop pos) (decide (0 < pos)) n
  | 0, pos, n, h => by
    have : (bl s).drop pos = [] := List.drop_eq_nil_of_le (by rw [bl_len]; omega)
    rw [this]; rfl
  | b + 1, pos, n, h => by
    by_cases hp : pos < s.size
    · rw [drop_bl s pos hp]
      by_cases ha : (s[pos]'hp).toNat < 128
      · have hd := decode_ascii s pos hp ha
        have ih := numF_numL s most b (pos + 1) (10 * n + (((s[pos]'hp).toNat : Int) - 48)) (by omega)
        simp only [numF, hp, if_true, hd, numL, ih, Nat.zero_lt_succ, decide_true, decide_eq_true_eq]
      · have hd := (decode_high s pos hp (by omega)).1
        simp only [numF, hp, if_true, numL]
        rw [if_pos (by omega), if_pos (by omega)]
    · have : (bl s).drop pos = [] := List.drop_eq_nil_of_le (by rw [bl_len]; omega)
      rw [this, numF_end s most _ pos n hp]; rfl
theorem numberR_eq (s : ByteArray) (most : Int) : numberR s most = match numL most (bl s) false 0 with
    | some n => (n, !(bl s).isEmpty)
    | none => (0, false) := by
  have h := numF_numL s most s.size 0 0 (by omega)
  simp only [List.drop_zero, Nat.lt_irrefl, decide_false] at h
  unfold numberR
  rw [h, ByteArray.toList_eq]
  rfl
theorem numL_app (most : Int) : ∀ (l1 l2 : List UInt8) (f : Bool) (n : Int), numL most (l1 ++ l2) f n = (numL most l1 f n).bind fun m => numL most l2 (f || !l1.isEmpty) m
  | [], l2, f, n => by simp [numL]
  | c :: l, l2, f, n => by
    simp only [List.cons_append, numL]
    split
    · rfl
    · split
      · rfl
      · rw [numL_app most l l2 true]
        simp
theorem numL_one {most n : Int} {d : Nat} (f : Bool) (hd : d < 10) (h1 : f = true → n ≠ 0) (h : 10 * n + d ≤ most) : numL most [UInt8.ofNat (48 + d)] f n = some (10 * n + d) := by
  have e := of48 hd
  simp only [numL, e]
  have e2 : ¬ (((48 + d : Nat) : Int) < 48 ∨ 57 < ((48 + d : Nat) : Int) ∨ (f = true ∧ n = 0)) := by
    rintro (h | h | ⟨h, h2⟩)
    · omega
    · omega
    · exact h1 h h2
  rw [if_neg e2, if_neg (by omega)]
  congr 1; omega
theorem numL_dec (most : Int) : ∀ (k n : Nat), n < k → (n : Int) ≤ most → numL most (decDigits n) false 0 = some (n : Int)
  | 0, n, h, _ => by omega
  | k + 1, n, h, hm => by
    rw [decDigits]
    split
    · rename_i h1
      have := numL_one (most := most) (n := 0) (d := n) false h1 (by simp) (by omega)
      simpa using this
    · rename_i h1
      rw [numL_app, numL_dec most k (n / 10) (by omega) (by omega)]
      simp only [Option.bind_some, Bool.false_or]
      have := numL_one (most := most) (n := ((n / 10 : Nat) : Int)) (d := n % 10) (!(decDigits (n / 10)).isEmpty) (by omega) (fun _ => by omega) (by omega)
      rw [this]
      congr 1; omega
theorem numL_inv (most : Int) : ∀ (k : Nat) (l : List UInt8) (m : Int), l.length = k → l ≠ [] → numL most l false 0 = some m → l = decDigits m.toNat ∧ 0 ≤ m ∧ m ≤ most
  | 0, l, m, hk, hl, h => absurd (List.length_eq_zero_iff.1 hk) hl
  | k + 1, l, m, hk, hl, h => by
    have e := List.dropLast_concat_getLast hl
    generalize l.getLast hl = c at e
    have hlen : l.dropLast.length = k := by simp [hk]
    generalize l.dropLast = p at e hlen
    subst e
    rw [numL_app] at h
    obtain ⟨n, h1, h2⟩ := Option.bind_eq_some_iff.1 h
    simp only [Bool.false_or, numL] at h2
    split at h2
    · cases h2
    rename_i hc
    split at h2
    · cases h2
    rename_i hm
    have hc1 : ¬ (c.toNat : Int) < 48 := fun e => hc (.inl e)
    have hc2 : ¬ 57 < (c.toNat : Int) := fun e => hc (.inr (.inl e))
    simp only [Option.some.injEq] at h2
    have hce : c = UInt8.ofNat (48 + (c.toNat - 48)) := by
      rw [show 48 + (c.toNat - 48) = c.toNat by omega, UInt8.ofNat_toNat]
    by_cases hp : p = []
    · subst hp
      simp only [numL, Option.some.injEq] at h1
      subst h1
      have hmn : m.toNat = c.toNat - 48 := by omega
      rw [decDigits, dif_pos (by omega), hmn, ← hce]
      exact ⟨rfl, by omega, by omega⟩
    · obtain ⟨i1, i2, i3⟩ := numL_inv most k p n hlen hp h1
      have hn : n ≠ 0 := fun e => hc (.inr (.inr ⟨by cases p with | nil => exact absurd rfl hp | cons => rfl, e⟩))
      have hq : m.toNat / 10 = n.toNat := by omega
      have hr : m.toNat % 10 = c.toNat - 48 := by omega
      rw [decDigits, dif_neg (by omega), hq, hr, ← hce, ← i1]
      exact ⟨rfl, by omega, by omega⟩
theorem numberR_dd {n most : Int} (h0 : 0 ≤ n) (h1 : n ≤ most) : numberR (ofL (dd n)) most = (n, true) := by
  rw [numberR_eq, bl_ofL]
  have := numL_dec most _ n.toNat (Nat.lt_succ_self _) (by omega)
  unfold dd
  rw [this]
  have h2 : (decDigits n.toNat).isEmpty = false := by
    have := dec_ne n.toNat
    cases h : decDigits n.toNat with
    | nil => exact absurd h this
    | cons => rfl
  rw [h2]
  simp only [Bool.not_false, Prod.mk.injEq, and_true]
  omega
theorem numberR_inv {s : ByteArray} {most : Int} (h : (numberR s most).2 = true) : ∃ n, numberR s most = (n, true) ∧ 0 ≤ n ∧ n ≤ most ∧ s = ofL (dd n) := by
  rw [numberR_eq] at h ⊢
  cases hn : numL most (bl s) false 0 with
  | none => rw [hn] at h; cases h
  | some m =>
    rw [hn] at h
    simp only at h ⊢
    have hne : bl s ≠ [] := by
      intro e
      rw [e] at h
      cases h
    obtain ⟨i1, i2, i3⟩ := numL_inv most _ (bl s) m rfl hne hn
    refine ⟨m, by rw [h], i2, i3, ?_⟩
    rw [← ofL_bl s, i1]; rfl
/-! ### Splitting and joining -/
theorem split_app {c : UInt8} : ∀ {x : List UInt8} (r : List UInt8), c ∉ x → splitL (x ++ c :: r) c = x :: splitL r c
  | [], r, _ => by simp [splitL]
  | b :: x, r, h => by
    have hb : b ≠ c := fun e => h (by simp [e])
    have hx : c ∉ x := fun e => h (List.mem_cons_of_mem _ e)
    rw [List.cons_append, splitL]
    simp [hb, split_app r hx]
theorem split_free {c : UInt8} {l : List UInt8} (h : c ∉ l) : splitL l c = [l] := split_none (List.count_eq_zero.2 h)
theorem split_no {c : UInt8} : ∀ (l : List UInt8), ∀ x ∈ splitL l c, c ∉ x
  | [], x, h => by simp [splitL] at h; subst h; simp
  | b :: l, x, h => by
    by_cases hb : b = c
    · subst hb
      simp [splitL] at h
      rcases h with rfl | h
      · simp
      · exact split_no l x h
    · obtain ⟨y, r, e⟩ := splitL_ne l c
      have ih := split_no (c := c) l
      rw [e] at ih
      simp [splitL, hb, e] at h
      rcases h with rfl | h
      · intro hc
        rcases List.mem_cons.1 hc with rfl | hc
        · exact hb rfl
        · exact ih y (by simp) hc
      · exact ih x (by simp [h])
theorem join_cons2 (x y : List UInt8) (r : List (List UInt8)) (sep : List UInt8) : join (x :: y :: r) sep = x ++ sep ++ join (y :: r) sep := by
  simp [join, List.intercalate]
theorem split_join {c : UInt8} : ∀ (l : List UInt8), join (splitL l c) [c] = l
  | [] => by simp [splitL, join_one]
  | b :: l => by
    have ih := split_join (c := c) l
    obtain ⟨y, r, e⟩ := splitL_ne l c
    rw [e] at ih
    by_cases hb : b = c
    · subst hb
      simp only [splitL, beq_self_eq_true, if_true, e, join_cons2, List.nil_append]
      rw [ih]; rfl
    · have hs : splitL (b :: l) c = (b :: y) :: r := by simp [splitL, hb, e]
      rw [hs]
      cases r with
      | nil => simp only [join_one] at ih ⊢; rw [ih]
      | cons z r =>
        rw [join_cons2] at ih ⊢
        rw [← ih]; simp
/-! ### Hosts' addresses -/
theorem join4 (p q r t : List UInt8) (c : UInt8) : join [p, q, r, t] [c] = p ++ c :: (q ++ c :: (r ++ c :: t)) := by
  simp [join_cons2, join_one]
theorem split4 {p q r t : List UInt8} {c : UInt8} (h1 : c ∉ p) (h2 : c ∉ q) (h3 : c ∉ r) (h4 : c ∉ t) : splitL (join [p, q, r, t] [c]) c = [p, q, r, t] := by
  rw [join4, split_app _ h1, split_app _ h2, split_app _ h3, split_free h4]
theorem wrap8 {n : Int} (h0 : 0 ≤ n) (h1 : n ≤ 255) : IntKind.wrap .u8 n = n := by
  simp [IntKind.wrap, IntKind.bits, IntKind.signed]
  omega
theorem wrap16 {n : Int} (h0 : 0 ≤ n) (h1 : n ≤ 65535) : IntKind.wrap .u16 n = n := by
  simp [IntKind.wrap, IntKind.bits, IntKind.signed]
  omega
theorem readIP_write {a : Ip} (h : LowIp a) : readIP (writeIP a) = (a, 0) := by
  have n46 : ∀ n : Int, (46 : UInt8) ∉ dd n := fun n => dd_no (by decide)
  have hs : splitZ (writeIP a) ⟨#[46]⟩ = [ofL (dd a.a), ofL (dd a.b), ofL (dd a.c), ofL (dd a.d)] := by
    show (splitL (bl (ofL _)) 46).map ofL = _
    rw [bl_ofL, split4 (n46 _) (n46 _) (n46 _) (n46 _)]; rfl
  obtain ⟨a0, a1, b0, b1, c0, c1, d0, d1⟩ := h
  rw [readIP_four hs]
  simp only [readF, restOk, nok, num8, ipPart, numberR_dd a0 (by omega : a.a ≤ 255), numberR_dd b0 (by omega : a.b ≤ 255), numberR_dd c0 (by omega : a.c ≤ 255), numberR_dd d0 (by omega : a.d ≤ 255)]
  rw [wrap8 a0 (by omega), wrap8 b0 (by omega), wrap8 c0 (by omega), wrap8 d0 (by omega)]
  rfl
theorem readIP_cases (s : ByteArray) : (∃ a, LowIp a ∧ s = writeIP a ∧ readIP s = (a, 0)) ∨ readIP s = (ip0, 7) := by
  rcases four (splitZ s ⟨#[46]⟩) with ⟨p, q, r, t, h⟩ | h
  · rw [readIP_four h]
    by_cases hk : restOk p q r t 0 = true
    · left
      simp only [restOk, Bool.and_eq_true, nok] at hk
      obtain ⟨⟨⟨k1, k2⟩, k3⟩, k4⟩ := hk
      obtain ⟨n1, e1, l1, u1, s1⟩ := numberR_inv k1
      obtain ⟨n2, e2, l2, u2, s2⟩ := numberR_inv k2
      obtain ⟨n3, e3, l3, u3, s3⟩ := numberR_inv k3
      obtain ⟨n4, e4, l4, u4, s4⟩ := numberR_inv k4
      refine ⟨⟨n1, n2, n3, n4⟩, ⟨l1, by show n1 < 256; omega, l2, by show n2 < 256; omega, l3, by show n3 < 256; omega, l4, by show n4 < 256; omega⟩, ?_, ?_⟩
      · have hj := split_join (c := 46) (bl s)
        have hz : splitL (bl s) 46 = [dd n1, dd n2, dd n3, dd n4] := by
          have h2 : (splitL (bl s) 46).map ofL = [p, q, r, t] := h
          rw [s1, s2, s3, s4] at h2
          have h3 := congrArg (List.map bl) h2
          rw [List.map_map] at h3
          have : (bl ∘ ofL) = id := rfl
          rw [this, List.map_id] at h3
          exact h3
        rw [hz] at hj
        rw [← ofL_bl s, ← hj]; rfl
      · simp only [readF, restOk, nok, num8, ipPart, e1, e2, e3, e4]
        rw [wrap8 l1 u1, wrap8 l2 u2, wrap8 l3 u3, wrap8 l4 u4]
        rfl
    · right
      unfold readF
      rw [if_neg hk]
  · exact .inr (readIP_short h)
/-! ### With a port -/
theorem index_app {c : UInt8} : ∀ {x : List UInt8} (r : List UInt8), c ∉ x → indexByte (x ++ c :: r) c = x.length
  | [], r, _ => by simp [indexByte]
  | b :: x, r, h => by
    have hb : b ≠ c := fun e => h (by simp [e])
    have hx : c ∉ x := fun e => h (List.mem_cons_of_mem _ e)
    have ih := index_app r hx
    rw [List.cons_append, indexByte]
    simp [hb, ih]
theorem cut_app {x r : List UInt8} {c : UInt8} (h : c ∉ x) : cutZ (ofL (x ++ c :: r)) ⟨#[c]⟩ = (ofL x, ofL r, true) := by
  have h1 : 0 < (bl (ofL (x ++ c :: r))).count (hd ⟨#[c]⟩) := by
    rw [bl_ofL, hd_mk]
    exact List.count_pos_iff.2 (by simp)
  have h2 : indexZ (ofL (x ++ c :: r)) ⟨#[c]⟩ = x.length := index_app r h
  unfold cutZ
  rw [if_pos h1, h2, bl_ofL]
  simp
theorem cut_inv {s : ByteArray} {c : UInt8} (h : (cutZ s ⟨#[c]⟩).2.2 = true) : ∃ x r, bl s = x ++ c :: r ∧ c ∉ x ∧ cutZ s ⟨#[c]⟩ = (ofL x, ofL r, true) := by
  have hm : c ∈ bl s := by
    unfold cutZ at h
    split at h
    · rename_i h1; exact List.count_pos_iff.1 h1
    · cases h
  obtain ⟨x, r, e, hn⟩ := List.eq_append_cons_of_mem hm
  exact ⟨x, r, e, hn, by rw [← ofL_bl s, e]; exact cut_app hn⟩
def ipA (a : Addr) : Ip := ipOf a
theorem addr_eta (a : Addr) : a = ⟨(ipOf a).a, (ipOf a).b, (ipOf a).c, (ipOf a).d, a.port⟩ := rfl
theorem writeA_bl (a : Addr) : bl (writeA a) = bl (writeIP (ipOf a)) ++ 58 :: dd a.port := by
  simp [writeA, bl, ofL, ByteArray.data_append]
theorem ip_no {a : Ip} {c : UInt8} (h1 : c.toNat < 48 ∨ 57 < c.toNat) (h2 : c ≠ 46) : c ∉ bl (writeIP a) := by
  have e : bl (writeIP a) = join [dd a.a, dd a.b, dd a.c, dd a.d] [46] := rfl
  rw [e, join4]
  simp [h2, dd_no h1]
theorem readA_write {a : Addr} (h : LowA a) : readA (writeA a) = (a, 0) := by
  have hc : cutZ (writeA a) ⟨#[58]⟩ = (writeIP (ipOf a), ofL (dd a.port), true) := by
    have := cut_app (x := bl (writeIP (ipOf a))) (r := dd a.port) (c := 58) (ip_no (by decide) (by decide))
    rw [← writeA_bl, ofL_bl, ofL_bl] at this
    exact this
  have hp := numberR_dd h.p0 (by have := h.p1; omega : a.port ≤ 65535)
  have hi := readIP_write h.ip
  unfold readA
  have hok : readOk (writeA a) = true := by simp [readOk, hc, hp, hi]
  rw [if_pos hok]
  simp only [hc, hp, hi]
  rw [wrap16 h.p0 (by have := h.p1; omega)]
  rfl
theorem readA_cases (s : ByteArray) : (∃ a, LowA a ∧ s = writeA a ∧ readA s = (a, 0)) ∨ readA s = (addr0, 7) := by
  by_cases hk : readOk s = true
  · left
    have hk2 := hk
    unfold readOk at hk
    simp only [Bool.and_eq_true, beq_iff_eq] at hk
    obtain ⟨⟨k1, k2⟩, k3⟩ := hk
    obtain ⟨x, r, e1, e2, e3⟩ := cut_inv k1
    rw [e3] at k2 k3
    simp only at k2 k3
    obtain ⟨n, g1, g2, g3, g4⟩ := numberR_inv k3
    rcases readIP_cases (ofL x) with ⟨a, f1, f2, f3⟩ | f
    · refine ⟨⟨a.a, a.b, a.c, a.d, n⟩, ⟨f1, g2, by show n < 65536; omega⟩, ?_, ?_⟩
      · have h1 : bl s = bl (writeA ⟨a.a, a.b, a.c, a.d, n⟩) := by
          rw [writeA_bl, e1]
          have h2 : x = bl (writeIP a) := by rw [← f2, bl_ofL]
          have h3 : r = dd n := by have := congrArg bl g4; simpa using this
          rw [h2, h3]
          rfl
        rw [← ofL_bl s, h1, ofL_bl]
      · unfold readA
        rw [if_pos hk2]
        simp only [e3, f3, g1]
        rw [wrap16 g2 g3]
    · rw [f] at k2
      exact absurd k2 (by decide)
  · right
    unfold readA
    rw [if_neg hk]
/-! ### Unlike addresses are written unlike; which texts are which -/
theorem writeA_inj {a b : Addr} (ha : LowA a) (hb : LowA b) : writeA a = writeA b ↔ a = b := by
  constructor
  · intro h
    have h1 := readA_write ha
    rw [h, readA_write hb] at h1
    exact (congrArg Prod.fst h1).symm
  · rintro rfl; rfl
theorem count_no {c : UInt8} {l : List UInt8} (h : c ∉ l) : l.count c = 0 := List.count_eq_zero.2 h
theorem colons_ip (a : Ip) : (bl (writeIP a)).count 58 = 0 := count_no (ip_no (by decide) (by decide))
theorem colons_a (a : Addr) : (bl (writeA a)).count 58 = 1 := by
  rw [writeA_bl, List.count_append, colons_ip, List.count_cons_self, count_no (dd_no (by decide))]
end Caw

/-! What is written is read, and whatever is read was written so: cards' addresses. -/
set_option linter.all false
namespace Caw
open Go Go.RowKit Go.Lib
def digZ (r : Int) : Int := if 48 ≤ r ∧ r ≤ 57 then r - 48 else if 97 ≤ r ∧ r ≤ 102 then r - 87 else -1
theorem digZ_lt (r : Int) : -1 ≤ digZ r ∧ digZ r < 16 := by
  unfold digZ
  split
  · omega
  · split <;> omega
/-- From byte pos on. -/
def unF (s : ByteArray) : Nat → Nat → List Int → Int → List Int × Int
  | 0, _, out, half => if half < 0 then (out, 0) else ([], 6)
  | b + 1, pos, out, half => if pos < s.size then
      (if digZ ((Utf8.decode s pos).1 : Nat) < 0 then ([], 7)
       else if half < 0 then unF s b (pos + (Utf8.decode s pos).2) out (digZ ((Utf8.decode s pos).1 : Nat))
       else unF s b (pos + (Utf8.decode s pos).2) (out ++ [IntKind.wrap .u8 (16 * half + digZ ((Utf8.decode s pos).1 : Nat))]) (-1))
    else if half < 0 then (out, 0) else ([], 6)
def unhexR (s : ByteArray) : List Int × Int := unF s s.size 0 [] (-1)
theorem unF_end (s : ByteArray) (b pos : Nat) (out : List Int) (half : Int) (h : ¬ pos < s.size) : unF s b pos out half = if half < 0 then (out, 0) else ([], 6) := by
  cases b with
  | zero => rfl
  | succ b => simp [unF, h]
theorem unF_step {s : ByteArray} {b pos : Nat} (out : List Int) (half : Int) (hp : pos < s.size) (hd : s.size ≤ pos + b) : ∃ c, b = c + 1 ∧ s.size ≤ pos + (Utf8.decode s pos).2 + c ∧
    unF s b pos out half = (if digZ ((Utf8.decode s pos).1 : Nat) < 0 then ([], 7)
       else if half < 0 then unF s c (pos + (Utf8.decode s pos).2) out (digZ ((Utf8.decode s pos).1 : Nat))
       else unF s c (pos + (Utf8.decode s pos).2) (out ++ [IntKind.wrap .u8 (16 * half + digZ ((Utf8.decode s pos).1 : Nat))]) (-1)) := by
  cases b with
  | zero => omega
  | succ b => 
    have := width_pos s pos hp
    exact ⟨b, rfl, by omega, by simp only [unF, hp, if_true]⟩
def unL : List UInt8 → List Int → Int → List Int × Int
  | [], out, half => if half < 0 then (out, 0) else ([], 6)
  | c :: l, out, half => if digZ (c.toNat : Nat) < 0 then ([], 7) else if half < 0 then unL l out (digZ (c.toNat : Nat)) else unL l (out ++ [IntKind.wrap .u8 (16 * half + digZ (c.toNat : Nat))]) (-1)
theorem digZ_high {r : Int} (h : 103 ≤ r) : digZ r = -1 := by
  unfold digZ
  rw [if_neg (by omega), if_neg (by omega)]
theorem unF_unL (s : ByteArray) : ∀ (b pos : Nat) (out : List Int) (half : Int), s.size ≤ pos + b → unF s b pos out half = unL ((bl s).drop pos) out half
  | 0, pos, out, half, h => by
    have : (bl s).drop pos = [] := List.drop_eq_nil_of_le (by rw [bl_len]; omega)
    rw [this]; rfl
  | b + 1, pos, out, half, h => by
    by_cases hp : pos < s.size
    · rw [drop_bl s pos hp]
      by_cases ha : (s[pos]'hp).toNat < 128
      · have hd := decode_ascii s pos hp ha
        simp only [unF, hp, if_true, hd, unL]
        rw [unF_unL s b (pos + 1) _ _ (by omega), unF_unL s b (pos + 1) _ _ (by omega)]
      · have hd := (decode_high s pos hp (by omega)).1
        simp only [unF, hp, if_true, unL]
        rw [digZ_high (by omega), digZ_high (by omega)]
        simp
    · have : (bl s).drop pos = [] := List.drop_eq_nil_of_le (by rw [bl_len]; omega)
      rw [this, unF_end s _ pos out half hp]; rfl
theorem unhexR_eq (s : ByteArray) : unhexR s = unL (bl s) [] (-1) := unF_unL s s.size 0 [] (-1) (by omega)
theorem unL_len : ∀ (l : List UInt8) (out : List Int) (half : Int), (unL l out half).2 = 0 → (unL l out half).1.length * 2 = out.length * 2 + (if half < 0 then 0 else 1) + l.length
  | [], out, half, h => by
    unfold unL at h ⊢
    split
    · simp
    · rename_i hh
      rw [if_neg hh] at h
      cases h
  | c :: l, out, half, h => by
    unfold unL at h ⊢
    split
    · rename_i hh; rw [if_pos hh] at h; cases h
    · rename_i hh
      rw [if_neg hh] at h
      split
      · rename_i h2
        rw [if_pos h2] at h
        rw [unL_len l _ _ h]
        simp [hh]; omega
      · rename_i h2
        rw [if_neg h2] at h
        rw [unL_len l _ _ h]
        simp; omega
theorem hexD_dig : ∀ n, n < 16 → digZ ((hexD n).toNat : Nat) = n := by decide
theorem dig_hexD : ∀ n : Nat, n < 256 → 0 ≤ digZ (n : Nat) → hexD (digZ (n : Nat)).toNat = UInt8.ofNat n := by decide +kernel
theorem dig_hexC (c : UInt8) (h : 0 ≤ digZ (c.toNat : Nat)) : hexD (digZ (c.toNat : Nat)).toNat = c := by
  rw [dig_hexD c.toNat c.toNat_lt h, UInt8.ofNat_toNat]
theorem unL_two (c d : UInt8) : unL [c, d] [] (-1) = if digZ (c.toNat : Nat) < 0 ∨ digZ (d.toNat : Nat) < 0 then ([], 7) else ([16 * digZ (c.toNat : Nat) + digZ (d.toNat : Nat)], 0) := by
  have h1 := digZ_lt (c.toNat : Nat)
  have h2 := digZ_lt (d.toNat : Nat)
  simp only [unL]
  by_cases hc : digZ (c.toNat : Nat) < 0
  · simp [hc]
  · by_cases hd : digZ (d.toNat : Nat) < 0
    · simp [hc, hd]
    · simp [hc, hd]
      rw [wrap8 (by omega) (by omega)]
def hok (p : ByteArray) : Bool := (unhexR p).2 == 0 && (unhexR p).1.length == 1
def hval (p : ByteArray) : Int := (unhexR p).1.headD 0
theorem hok_hex {x : Int} (h0 : 0 ≤ x) (h1 : x < 256) : unhexR (hexZ [x]) = ([x], 0) := by
  rw [unhexR_eq]
  show unL (hexL x) [] (-1) = _
  unfold hexL
  rw [unL_two, hexD_dig _ (by omega), hexD_dig _ (by omega), if_neg (by omega)]
  congr 2
  omega
theorem hok_inv {p : ByteArray} (h : hok p = true) : ∃ x, 0 ≤ x ∧ x < 256 ∧ p = hexZ [x] ∧ unhexR p = ([x], 0) := by
  unfold hok at h
  simp only [Bool.and_eq_true, beq_iff_eq] at h
  obtain ⟨h1, h2⟩ := h
  rw [unhexR_eq] at h1 h2 ⊢
  have h3 := unL_len _ _ _ h1
  rw [h2] at h3
  have h4 : (bl p).length = 2 := by simpa using h3.symm
  obtain ⟨c, d, e⟩ : ∃ c d, bl p = [c, d] := by
    match bl p, h4 with
    | [c, d], _ => exact ⟨c, d, rfl⟩
  rw [e] at h1 ⊢
  rw [unL_two] at h1 ⊢
  have k1 := digZ_lt (c.toNat : Nat)
  have k2 := digZ_lt (d.toNat : Nat)
  by_cases hc : digZ (c.toNat : Nat) < 0 ∨ digZ (d.toNat : Nat) < 0
  · rw [if_pos hc] at h1; cases h1
  · rw [if_neg hc]
    refine ⟨16 * digZ (c.toNat : Nat) + digZ (d.toNat : Nat), by omega, by omega, ?_, rfl⟩
    rw [← ofL_bl p, e]
    show ofL [c, d] = ofL [hexD ((16 * digZ (c.toNat : Nat) + digZ (d.toNat : Nat)).toNat / 16), hexD ((16 * digZ (c.toNat : Nat) + digZ (d.toNat : Nat)).toNat % 16)]
    have e1 : (16 * digZ (c.toNat : Nat) + digZ (d.toNat : Nat)).toNat / 16 = (digZ (c.toNat : Nat)).toNat := by omega
    have e2 : (16 * digZ (c.toNat : Nat) + digZ (d.toNat : Nat)).toNat % 16 = (digZ (d.toNat : Nat)).toNat := by omega
    rw [e1, e2, dig_hexC c (by omega), dig_hexC d (by omega)]
/-! ### Reading a card's address -/
def mac0 : Mac := ⟨0, 0, 0, 0, 0, 0⟩
def macPart (p q r t u v : ByteArray) : Nat → Mac
  | 0 => ⟨0, 0, 0, 0, 0, 0⟩
  | 1 => ⟨hval p, 0, 0, 0, 0, 0⟩
  | 2 => ⟨hval p, hval q, 0, 0, 0, 0⟩
  | 3 => ⟨hval p, hval q, hval r, 0, 0, 0⟩
  | 4 => ⟨hval p, hval q, hval r, hval t, 0, 0⟩
  | 5 => ⟨hval p, hval q, hval r, hval t, hval u, 0⟩
  | _ => ⟨hval p, hval q, hval r, hval t, hval u, hval v⟩
def mrest (p q r t u v : ByteArray) : Nat → Bool
  | 0 => hok p && hok q && hok r && hok t && hok u && hok v
  | 1 => hok q && hok r && hok t && hok u && hok v
  | 2 => hok r && hok t && hok u && hok v
  | 3 => hok t && hok u && hok v
  | 4 => hok u && hok v
  | 5 => hok v
  | _ => true
def readM (p q r t u v : ByteArray) (i : Nat) : Mac × Int := if mrest p q r t u v i = true then (macPart p q r t u v 6, 0) else (mac0, 7)
def readMAC (s : ByteArray) : Mac × Int :=
  match splitZ s ⟨#[58]⟩ with
  | [p, q, r, t, u, v] => readM p q r t u v 0
  | _ => (mac0, 7)
theorem six {α : Type} (l : List α) : (∃ p q r t u v, l = [p, q, r, t, u, v]) ∨ l.length ≠ 6 := by
  rcases l with _ | ⟨p, _ | ⟨q, _ | ⟨r, _ | ⟨t, _ | ⟨u, _ | ⟨v, _ | ⟨w, l⟩⟩⟩⟩⟩⟩⟩ <;> simp
theorem readMAC_short {s : ByteArray} (h : (splitZ s ⟨#[58]⟩).length ≠ 6) : readMAC s = (mac0, 7) := by
  unfold readMAC
  split
  · rename_i e; rw [e] at h; exact absurd rfl h
  · rfl
theorem readMAC_six {s p q r t u v : ByteArray} (h : splitZ s ⟨#[58]⟩ = [p, q, r, t, u, v]) : readMAC s = readM p q r t u v 0 := by
  unfold readMAC
  rw [h]
theorem hexD_ge : ∀ n, n < 16 → (hexD n).toNat < 58 ∨ 58 < (hexD n).toNat := by decide
theorem hex_no {x : Int} (h0 : 0 ≤ x) (h1 : x < 256) : (58 : UInt8) ∉ hexL x := by
  unfold hexL
  have k1 := hexD_ge (x.toNat / 16) (by omega)
  have k2 := hexD_ge (x.toNat % 16) (by omega)
  intro h
  simp only [List.mem_cons, List.not_mem_nil, or_false] at h
  have e : (58 : UInt8).toNat = 58 := rfl
  rcases h with h | h
  · rw [← h] at k1; omega
  · rw [← h] at k2; omega
theorem b1_lo {x : Int} (h : isB1 [x]) : 0 ≤ x ∧ x < 256 := by
  obtain ⟨y, e, h0, h1⟩ := h
  cases e
  exact ⟨h0, h1⟩
theorem b1_no {x : Int} (h : isB1 [x]) : (58 : UInt8) ∉ hexL x := hex_no (b1_lo h).1 (b1_lo h).2
theorem join6 (p q r t u v : List UInt8) (c : UInt8) : join [p, q, r, t, u, v] [c] = p ++ c :: (q ++ c :: (r ++ c :: (t ++ c :: (u ++ c :: v)))) := by
  simp [join_cons2, join_one]
theorem split6 {p q r t u v : List UInt8} {c : UInt8} (h1 : c ∉ p) (h2 : c ∉ q) (h3 : c ∉ r) (h4 : c ∉ t) (h5 : c ∉ u) (h6 : c ∉ v) : splitL (join [p, q, r, t, u, v] [c]) c = [p, q, r, t, u, v] := by
  rw [join6, split_app _ h1, split_app _ h2, split_app _ h3, split_app _ h4, split_app _ h5, split_free h6]
theorem hv_hex {x : Int} (h : isB1 [x]) : hok (ofL (hexL x)) = true ∧ hval (ofL (hexL x)) = x := by
  have := hok_hex (b1_lo h).1 (b1_lo h).2
  have e : (hexZ [x]) = ofL (hexL x) := rfl
  rw [e] at this
  unfold hok hval
  rw [this]
  exact ⟨rfl, rfl⟩
theorem readMAC_write {a : Mac} (h : MacOk a) : readMAC (writeMAC a) = (a, 0) := by
  have hs : splitZ (writeMAC a) ⟨#[58]⟩ = [ofL (hexL a.a), ofL (hexL a.b), ofL (hexL a.c), ofL (hexL a.d), ofL (hexL a.e), ofL (hexL a.f)] := by
    show (splitL (bl (ofL _)) 58).map ofL = _
    rw [bl_ofL, split6 (b1_no h.a1) (b1_no h.b1) (b1_no h.c1) (b1_no h.d1) (b1_no h.e1) (b1_no h.f1)]; rfl
  obtain ⟨p1, v1⟩ := hv_hex h.a1
  obtain ⟨p2, v2⟩ := hv_hex h.b1
  obtain ⟨p3, v3⟩ := hv_hex h.c1
  obtain ⟨p4, v4⟩ := hv_hex h.d1
  obtain ⟨p5, v5⟩ := hv_hex h.e1
  obtain ⟨p6, v6⟩ := hv_hex h.f1
  rw [readMAC_six hs]
  simp [readM, mrest, macPart, p1, p2, p3, p4, p5, p6, v1, v2, v3, v4, v5, v6]
theorem readMAC_cases (s : ByteArray) : (∃ a, MacOk a ∧ s = writeMAC a ∧ readMAC s = (a, 0)) ∨ readMAC s = (mac0, 7) := by
  rcases six (splitZ s ⟨#[58]⟩) with ⟨p, q, r, t, u, v, h⟩ | h
  · rw [readMAC_six h]
    by_cases hk : mrest p q r t u v 0 = true
    · left
      simp only [mrest, Bool.and_eq_true] at hk
      obtain ⟨⟨⟨⟨⟨k1, k2⟩, k3⟩, k4⟩, k5⟩, k6⟩ := hk
      obtain ⟨n1, l1, u1, s1, e1⟩ := hok_inv k1
      obtain ⟨n2, l2, u2, s2, e2⟩ := hok_inv k2
      obtain ⟨n3, l3, u3, s3, e3⟩ := hok_inv k3
      obtain ⟨n4, l4, u4, s4, e4⟩ := hok_inv k4
      obtain ⟨n5, l5, u5, s5, e5⟩ := hok_inv k5
      obtain ⟨n6, l6, u6, s6, e6⟩ := hok_inv k6
      refine ⟨⟨n1, n2, n3, n4, n5, n6⟩, ⟨isB1_of l1 u1, isB1_of l2 u2, isB1_of l3 u3, isB1_of l4 u4, isB1_of l5 u5, isB1_of l6 u6⟩, ?_, ?_⟩
      · have hj := split_join (c := 58) (bl s)
        have hz : splitL (bl s) 58 = [hexL n1, hexL n2, hexL n3, hexL n4, hexL n5, hexL n6] := by
          have h2 : (splitL (bl s) 58).map ofL = [p, q, r, t, u, v] := h
          rw [s1, s2, s3, s4, s5, s6] at h2
          have h3 := congrArg (List.map bl) h2
          rw [List.map_map] at h3
          have : (bl ∘ ofL) = id := rfl
          rw [this, List.map_id] at h3
          exact h3
        rw [hz] at hj
        rw [← ofL_bl s, ← hj]; rfl
      · simp [readM, mrest, macPart, k1, k2, k3, k4, k5, k6, hval, e1, e2, e3, e4, e5, e6]
    · right
      unfold readM
      rw [if_neg hk]
  · exact .inr (readMAC_short h)
/-! ### As the document reads it -/
theorem writeMAC_17 (a : Mac) : writeMAC a = ⟨#[hexD (a.a.toNat / 16), hexD (a.a.toNat % 16), 58, hexD (a.b.toNat / 16), hexD (a.b.toNat % 16), 58, hexD (a.c.toNat / 16), hexD (a.c.toNat % 16), 58, hexD (a.d.toNat / 16), hexD (a.d.toNat % 16), 58, hexD (a.e.toNat / 16), hexD (a.e.toNat % 16), 58, hexD (a.f.toNat / 16), hexD (a.f.toNat % 16)]⟩ := by
  unfold writeMAC
  rw [join6]
  rfl
theorem writeMAC_size (a : Mac) : (writeMAC a).size = 17 := by rw [writeMAC_17]; rfl
def byteD (t : ByteArray) : Int := if hok t = true then hval t else 0
theorem byteD_ok (t : ByteArray) : isB1 [byteD t] := by
  unfold byteD
  split
  · rename_i h
    obtain ⟨x, h0, h1, -, e⟩ := hok_inv h
    unfold hval
    rw [e]
    exact isB1_of h0 h1
  · exact isB1_of (by decide) (by decide)
def macP (s : ByteArray) : Nat → Mac
  | 0 => ⟨0, 0, 0, 0, 0, 0⟩
  | 1 => ⟨byteD (s.extract 0 2), 0, 0, 0, 0, 0⟩
  | 2 => ⟨byteD (s.extract 0 2), byteD (s.extract 3 5), 0, 0, 0, 0⟩
  | 3 => ⟨byteD (s.extract 0 2), byteD (s.extract 3 5), byteD (s.extract 6 8), 0, 0, 0⟩
  | 4 => ⟨byteD (s.extract 0 2), byteD (s.extract 3 5), byteD (s.extract 6 8), byteD (s.extract 9 11), 0, 0⟩
  | 5 => ⟨byteD (s.extract 0 2), byteD (s.extract 3 5), byteD (s.extract 6 8), byteD (s.extract 9 11), byteD (s.extract 12 14), 0⟩
  | _ => ⟨byteD (s.extract 0 2), byteD (s.extract 3 5), byteD (s.extract 6 8), byteD (s.extract 9 11), byteD (s.extract 12 14), byteD (s.extract 15 17)⟩
def macD (s : ByteArray) : Mac := if s.size = 17 then macP s 6 else mac0
theorem macD_ok (s : ByteArray) : MacOk (macD s) := by
  have z : isB1 [(0 : Int)] := isB1_of (by decide) (by decide)
  unfold macD
  split
  · simp only [macP]
    constructor <;> exact byteD_ok _
  · exact ⟨z, z, z, z, z, z⟩
theorem byteD_hex {x : Int} (h : isB1 [x]) : byteD ⟨#[hexD (x.toNat / 16), hexD (x.toNat % 16)]⟩ = x := by
  have e : (⟨#[hexD (x.toNat / 16), hexD (x.toNat % 16)]⟩ : ByteArray) = ofL (hexL x) := rfl
  obtain ⟨h1, h2⟩ := hv_hex h
  unfold byteD
  rw [e, h1, if_pos rfl, h2]
theorem macD_write {a : Mac} (h : MacOk a) : macD (writeMAC a) = a := by
  unfold macD
  rw [if_pos (writeMAC_size a), writeMAC_17]
  have ex : ∀ (l : List UInt8) (i j : Nat), (⟨l.toArray⟩ : ByteArray).extract i j = ⟨((l.take j).drop i).toArray⟩ := fun l i j => ofL_extract l i j
  simp only [macP]
  rw [ex, ex, ex, ex, ex, ex]
  simp only [List.take_succ_cons, List.take_zero, List.drop_succ_cons, List.drop_zero]
  rw [byteD_hex h.a1, byteD_hex h.b1, byteD_hex h.c1, byteD_hex h.d1, byteD_hex h.e1, byteD_hex h.f1]
theorem readMAC_doc (s : ByteArray) : readMAC s = if writeMAC (macD s) = s then (macD s, 0) else (mac0, 7) := by
  split
  · rename_i h
    have := readMAC_write (macD_ok s)
    rw [h] at this
    exact this
  · rename_i h
    rcases readMAC_cases s with ⟨a, h1, h2, h3⟩ | h3
    · exfalso
      apply h
      rw [h2, macD_write h1]
    · exact h3
theorem writeMAC_inj {a b : Mac} (ha : MacOk a) (hb : MacOk b) : writeMAC a = writeMAC b ↔ a = b := by
  constructor
  · intro h
    have h1 := readMAC_write ha
    rw [h, readMAC_write hb] at h1
    exact (congrArg Prod.fst h1).symm
  · rintro rfl; rfl
theorem colons_mac {a : Mac} (h : MacOk a) : (bl (writeMAC a)).count 58 = 5 := by
  have e : bl (writeMAC a) = join [hexL a.a, hexL a.b, hexL a.c, hexL a.d, hexL a.e, hexL a.f] [58] := rfl
  rw [e, join6]
  simp [List.count_append, count_no (b1_no h.a1), count_no (b1_no h.b1), count_no (b1_no h.c1), count_no (b1_no h.d1), count_no (b1_no h.e1), count_no (b1_no h.f1)]
end Caw

/-! A drawn region that holds a row of bytes that is laid out and taken for a slice of bytes. -/
set_option linter.unusedVariables false
namespace Caw
open Go Go.RowKit
section
variable {P : Program} {Γ : Ctx1} {C : Cfg} {B : Base} {w w' : World} {E : Env} {st : St} {a : Act} {ops op2 : Array Oper}
theorem upon_put {o : Oper} {K : Act → World → Prop} {Q : Exit → Act → World → Prop} (h : o.wp P a w K Q) : o.wp P a w (fun a' w' => K a' w' ∧ ∃ v, a'.tmps = (a.put o.dst v).tmps) Q := by
  unfold Oper.wp at *
  generalize (execOp a.eval o).run P w = r at *
  cases r with
  | ok n w' =>
    cases n <;> simp only [Oper.upon] at h ⊢ <;>
      first
        | exact ⟨h, _, rfl⟩
        | exact ⟨h, undef, by cases o.dst <;> rfl⟩
        | exact Calls.mono h (fun e w'' he => by cases e <;> first | exact ⟨he, _, rfl⟩ | exact he)
        | exact Rows.mono h (fun _ _ he => ⟨he, _, rfl⟩)
  | halt x w' => cases x <;> simp only [Oper.upon] at h ⊢ <;> exact h
theorem wpStep_put {o : Oper} {K : Act → World → Prop} {Q : Exit → Act → World → Prop} (h : wpStep P ops o K Q a w) : wpStep P ops o (fun a' w' => K a' w' ∧ ∃ v, a'.tmps = (a.put o.dst v).tmps) Q a w := by
  unfold wpStep at *
  split
  · rename_i hw
    rw [if_pos hw] at h
    exact upon_put h
  · rename_i hw
    rw [if_neg hw] at h
    exact ⟨h, _, rfl⟩
theorem ready_congr (hsz : ops.size = op2.size) (h : ∀ i : Nat, (ops[i]?).map (fun o : Oper => o.after) = (op2[i]?).map (fun o : Oper => o.after)) (listed : Array Bool) : Region.ready .any ops listed = Region.ready .any op2 listed := by
  unfold Region.ready
  rw [hsz]
  refine List.filter_congr (fun i _ => ?_)
  have := h i
  cases h1 : ops[i]? <;> cases h2 : op2[i]? <;> rw [h1, h2] at this <;> simp_all
theorem any_inv {N : Nat} (hΓ : GOk1 P Γ) (hsz : ops.size = op2.size) (hrd : ∀ listed, Region.ready .any ops listed = Region.ready .any op2 listed) (hreg : regOk C op2 = true) {sf : St} {Q : Exit → Act → World → Prop} {Inv : Array Bool → St → Act → World → Prop}
    (hG : ∀ l st a w, Inv l st a w → Good P N st)
    (hS : ∀ l st a w i o o' s1, Inv l st a w → ops[i]? = some o → op2[i]? = some o' → l.getD i true = false → (∀ e ∈ o'.after, Region.binds .any e = true → l.getD e.on false = true) → l.size = op2.size →
      estep P Γ C N op2 st o' = some s1 → wpStep P ops o (fun a' w' => Inv (l.setIfInBounds i true) s1 a' w') Q a w)
    (hQ : ∀ l a w, Inv l sf a w → (∀ i, i < op2.size → l.getD i true = true) → Q .normal a w) :
    ∀ (fuel : Nat) (listed : Array Bool) (st : St) (a : Act) (w : World), listed.size = op2.size → Down op2 listed →
    ((List.range op2.size).filter (fun i => !listed.getD i true)).length = fuel → Inv listed st a w →
    erun P Γ C N op2 ((List.range op2.size).filter (fun i => !listed.getD i true)) st = some sf → wpAny P .any ops Q fuel listed a w := by
  have hback : ∀ i o, op2[i]? = some o → ∀ e ∈ o.after, Region.binds .any e = true → e.on < i := by
    intro i o hi e he hb
    have hlt : i < op2.size := (Array.getElem?_eq_some_iff.1 hi).1
    have h1 := List.all_eq_true.1 hreg i (List.mem_range.2 hlt)
    rw [hi] at h1
    simp only [Bool.and_eq_true] at h1
    have := List.all_eq_true.1 h1.1 e (by simpa using he)
    rw [hb] at this
    simpa using this
  have hpair : ∀ i o, op2[i]? = some o → ∀ j, j < i → ∀ oj, op2[j]? = some oj → (waitOf op2 (masks op2 i) i).testBit j = true ∨ indep C op2 oj o = true := by
    intro i o hi j hj oj hoj
    have hlt : i < op2.size := (Array.getElem?_eq_some_iff.1 hi).1
    have h1 := List.all_eq_true.1 hreg i (List.mem_range.2 hlt)
    rw [hi] at h1
    simp only [Bool.and_eq_true] at h1
    have := List.all_eq_true.1 h1.2 j (List.mem_range.2 hj)
    rw [hoj] at this
    simp only [Bool.or_eq_true] at this
    rw [masks_get _ _ hlt] at this
    exact this
  intro fuel
  induction fuel with
  | zero =>
    intro listed st a w hs _ hf hr he
    have hnil := List.length_eq_zero_iff.1 hf
    refine ⟨?_, ?_⟩
    · rw [hrd]
      unfold Region.ready
      rw [List.filter_eq_nil_iff] at hnil ⊢
      intro i hi hh
      simp only [Bool.and_eq_true] at hh
      exact hnil i hi hh.1
    · rw [hnil] at he
      simp only [erun, Option.some.injEq] at he
      subst he
      exact hQ listed a w hr (fun i hi => by
        cases hc : listed.getD i true with
        | true => rfl
        | false =>
          have hm : i ∈ (List.range op2.size).filter (fun i => !listed.getD i true) := List.mem_filter.2 ⟨List.mem_range.2 hi, by rw [hc]; rfl⟩
          rw [hnil] at hm
          cases hm)
  | succ fuel ih =>
    intro listed st a w hs hdown hf hr he
    refine ⟨fun hnone => ?_, fun i hi => ?_⟩
    · rw [hrd] at hnone
      exfalso
      -- the first that is left waits for none
      cases hrem : (List.range op2.size).filter (fun i => !listed.getD i true) with
      | nil => rw [hrem] at hf; simp at hf
      | cons i r =>
        have hmem : i ∈ (List.range op2.size).filter (fun i => !listed.getD i true) := by rw [hrem]; exact List.mem_cons_self ..
        have hi0 := List.mem_filter.1 hmem
        have hlt : i < op2.size := List.mem_range.1 hi0.1
        have hui : listed.getD i true = false := by simpa using hi0.2
        have hfirst : ∀ j, j < i → listed.getD j true = true := by
          intro j hj
          cases hc : listed.getD j true with
          | true => rfl
          | false =>
            exfalso
            have hsplit := (filter_set hlt hs hui).1
            rw [hrem] at hsplit
            have hjm : j ∈ (List.range i).filter (fun j => !listed.getD j true) := List.mem_filter.2 ⟨List.mem_range.2 hj, by rw [hc]; rfl⟩
            cases hq : (List.range i).filter (fun j => !listed.getD j true) with
            | nil => rw [hq] at hjm; cases hjm
            | cons x y =>
              rw [hq] at hsplit
              simp only [List.cons_append, List.cons.injEq] at hsplit
              have hx : x ∈ (List.range i).filter (fun j => !listed.getD j true) := by rw [hq]; exact List.mem_cons_self ..
              have := List.mem_range.1 (List.mem_filter.1 hx).1
              omega
        have hready : i ∈ Region.ready .any op2 listed := by
          unfold Region.ready
          refine List.mem_filter.2 ⟨hi0.1, ?_⟩
          have hoi : op2[i]? = some op2[i] := Array.getElem?_eq_getElem hlt
          rw [hui, hoi]
          simp only [Bool.not_false, Option.map_some, Option.getD_some, Bool.true_and]
          rw [Array.all_eq_true_iff_forall_mem]
          intro e hem
          by_cases hb : Region.binds .any e = true
          · have := hback i _ hoi e hem hb
            have h2 := hfirst e.on this
            rw [hb]
            simp only [Bool.not_true, Bool.false_or]
            rw [Array.getD_eq_getD_getElem?, Array.getElem?_eq_getElem (by omega)] at h2 ⊢
            exact h2
          · simp [hb]
        rw [hnone] at hready
        cases hready
    · rw [hrd] at hi
      unfold Region.ready at hi
      obtain ⟨hir, hic⟩ := List.mem_filter.1 hi
      have hlt : i < op2.size := List.mem_range.1 hir
      simp only [Bool.and_eq_true] at hic
      obtain ⟨hun, hdeps⟩ := hic
      have hui : listed.getD i true = false := by simpa using hun
      have hoi : op2[i]? = some op2[i] := Array.getElem?_eq_getElem hlt
      rw [hoi] at hdeps
      simp only [Option.map_some, Option.getD_some] at hdeps
      rw [Array.all_eq_true_iff_forall_mem] at hdeps
      obtain ⟨f1, f2⟩ := filter_set hlt hs hui
      rw [f1] at he hf
      have hgood : Good P N st := hG _ _ _ _ hr
      obtain ⟨s1, e1, e2⟩ := pull hΓ hoi _ st hgood (fun j hj oj hoj => by
        obtain ⟨hjr, hju⟩ := List.mem_filter.1 hj
        rcases hpair i _ hoi j (List.mem_range.1 hjr) oj hoj with hbit | hh
        · exfalso
          have := wait_listed hdown hback i _ hoi (fun e hem hb => by
            have := hdeps e hem
            rw [hb] at this
            simpa using this) hbit
          have hjlt : j < op2.size := by have := List.mem_range.1 hjr; omega
          rw [Array.getD_eq_getD_getElem?, Array.getElem?_eq_getElem (by omega)] at this hju
          simp only [Option.getD_some] at this hju
          rw [this] at hju
          cases hju
        · exact hh) he
      have hdown' : Down op2 (listed.setIfInBounds i true) := by
        have hmono : ∀ k, listed.getD k false = true → (listed.setIfInBounds i true).getD k false = true := by
          intro k hk
          rw [Array.getD_eq_getD_getElem?] at hk ⊢
          by_cases hki : i = k
          · subst hki
            rw [Array.getElem?_setIfInBounds_self_of_lt (by omega)]
            rfl
          · rw [Array.getElem?_setIfInBounds_ne hki]; exact hk
        intro k o hk hl e he hb
        by_cases hki : k = i
        · subst hki
          rw [hoi] at hk
          cases hk
          refine hmono _ ?_
          have := hdeps e he
          rw [hb] at this
          simpa using this
        · refine hmono _ (hdown k o hk ?_ e he hb)
          rw [Array.getD_eq_getD_getElem?] at hl ⊢
          rw [Array.getElem?_setIfInBounds_ne (fun e => hki e.symm)] at hl
          exact hl
      have hlt0 : i < ops.size := by rw [hsz]; exact hlt
      have hoi0 : ops[i]? = some ops[i] := Array.getElem?_eq_getElem hlt0
      have hstep := hS listed st a w i ops[i] op2[i] s1 hr hoi0 hoi hui (fun e hem hb => by
        have := hdeps e hem
        rw [hb] at this
        simpa using this) hs e1
      have hnext : ∀ a' w', Inv (listed.setIfInBounds i true) s1 a' w' → wpAny P .any ops Q fuel (listed.setIfInBounds i true) a' w' := by
        intro a' w' hr'
        refine ih _ s1 a' w' (by simpa using hs) hdown' ?_ hr' (by rw [f2]; exact e2)
        rw [f2]
        simp only [List.length_append, List.length_cons] at hf ⊢
        omega
      unfold wpOp
      rw [hoi0]
      simp only
      unfold wpStep at hstep
      split
      · rename_i hw
        rw [if_pos hw] at hstep
        exact .inl (Oper.wp_mono hnext hstep)
      · rename_i hw
        rw [if_neg hw] at hstep
        exact hnext _ _ hstep

end
end Caw
namespace Caw
open Go Go.RowKit
/-! ### A row's mark -/
theorem PV.mark {w w' : World} {pr : Pr} (hc : ∀ ad, w'.cell? ad = w.cell? ad) {x : AV} {y : Value} (h : PV w pr x y) : PV w' pr x y := by
  induction h with
  | v x => exact .v x
  | agg hl _ ih => exact .agg hl ih
  | tup hl _ ih => exact .tup hl ih
  | nil a cap => exact .nil a cap
  | sl cells hle hs hpr _ hc' ih => exact .sl cells hle hs hpr ih (fun i hi j hj => (hc _).trans (hc' i hi j hj))
theorem V.mark {E : Env} {st : St} {w w' : World} {b : Nat} (hc : ∀ ad, w'.cell? ad = w.cell? ad) (hh : ∀ c, c ≠ b → w'.heap[c]? = w.heap[c]?) (ht : ∀ n q, E.τ n ≠ some (b, q)) {x : AV} {y : Value} (h : V E st w x y) : V E st w' x y := by
  induction h with
  | dead y => exact .dead y
  | v x => exact .v x
  | agg hl _ ih => exact .agg hl ih
  | tup hl _ ih => exact .tup hl ih
  | @sl sz es tg y h hg =>
    refine .sl (h.mark hc) (fun n g hn => ⟨(hg n g hn).1, fun he => ?_⟩)
    have := (hg n g hn).2 he
    cases y with
    | slice a len cap =>
      rcases this with h1 | ⟨c, off, vs, e, h1, h2, h3, h4, h5⟩
      · exact .inl h1
      · exact .inr ⟨c, off, vs, e, h1, h2, h3, (hh c (fun hcb => ht n _ (by rw [h3, hcb]))).trans h4, h5⟩
    | _ => exact this
  | fn hl _ ih => exact .fn hl ih
  | ptr h => exact .ptr h
  | osl h => exact .osl h
  | rptr cells hp h hc' => exact .rptr cells hp (fun j hj => (h j hj).mark hc) (fun j hj => (hc _).trans (hc' j hj))
/-- A frame that began elsewhere: in a world where a row was laid out. -/
def Base.from (B : Base) (pr : Pr) (b : Nat) (w : World) : Base := ⟨pr, fun x => B.mine x ∧ x ≠ b, w, B.N, B.rb⟩
theorem Rel0.rebase {B : Base} {E : Env} {st : St} {a : Act} {w : World} (h : Rel0 B E st a w) {b : Nat} (hb : ∀ n, st.ob n ≠ none → E.ρ n ≠ b) (ht : ∀ n q, E.τ n ≠ some (b, q)) : Rel0 (B.from E.pr b w) E st a w where
  sl := h.sl
  ob := h.ob
  inj := h.inj
  obp := h.obp
  own := fun n hn => .inl ⟨h.own n hn, hb n hn⟩
  tau := fun n c e hc => by
    obtain ⟨t1, t2, t3, t4⟩ := h.tau n c e hc
    exact ⟨t1, .inl ⟨t2, fun he => ht n e (by rw [hc, he])⟩, t3, t4⟩
  tdis := h.tdis
  frame := Fr.refl _ _
  keep := fun _ _ => rfl
  prot := fun _ _ h => h
  prnew := fun _ _ h => .inl h
  prlt := h.prlt
  pin := h.pin
  defers := h.defers
  size := h.size
/-- The world where the row was laid out. -/
structure MidW (B : Base) (vs : Array Value) (e : TypeId) (b : Nat) (pr : Pr) (w0 : World) : Prop where
  f : Fr B.pr B.w w0
  k : ∀ x, ¬ B.mine x → w0.heap[x]? = B.w.heap[x]?
  p : ∀ x k, B.pr x k → pr x k
  pn : ∀ x k, pr x k → B.pr x k ∨ B.mine x
  lo : B.w.heap.size ≤ b
  lt : b < w0.heap.size
  row : w0.heap[b]? = some (.cells vs e (0, 0))
section
variable {B : Base} {vs : Array Value} {e : TypeId} {b : Nat} {pr : Pr} {w0 w w' : World} {E : Env} {st : St} {a : Act}
theorem MidW.not (hm : MidW B vs e b pr w0) : ¬ (B.from pr b w0).mine b := by
  rintro (⟨-, h⟩ | h)
  · exact h rfl
  · have := hm.lt
    have h2 : w0.heap.size ≤ b := h
    omega
theorem MidW.mine (hm : MidW B vs e b pr w0) {x : Nat} (h : (B.from pr b w0).mine x) : B.mine x := by
  rcases h with ⟨h, -⟩ | h
  · exact h
  · have h2 : w0.heap.size ≤ x := h
    exact .inr (Nat.le_trans hm.f.size h2)
theorem MidW.rowAt (hm : MidW B vs e b pr w0) (h : Rel0 (B.from pr b w0) E st a w) : w.heap[b]? = some (.cells vs e (0, 0)) := (h.keep b hm.not).trans hm.row
theorem Rel0.unmark (hm : MidW B vs e b pr w0) (h : Rel0 (B.from pr b w0) E st a w) {m : Nat × Nat} (hos : w'.os = w.os ∧ w'.tape = w.tape ∧ w'.output = w.output) (hsz : w'.heap.size = w.heap.size) (hh : ∀ c, c ≠ b → w'.heap[c]? = w.heap[c]?) (hb : w'.heap[b]? = some (.cells vs e m)) :
    Rel0 B E st a w' ∧ ∀ x y, V E st w x y → V E st w' x y := by
  have hrow := hm.rowAt h
  have hc : ∀ ad, w'.cell? ad = w.cell? ad := by
    intro ad
    unfold World.cell?
    by_cases h1 : ad.block = b
    · rw [h1, hb, hrow]
    · rw [hh _ h1]
  have ht : ∀ n q, E.τ n ≠ some (b, q) := fun n q hq => hm.not (h.tau n b q hq).2.1
  have hV : ∀ x y, V E st w x y → V E st w' x y := fun x y hv => hv.mark hc hh ht
  have hrn : ∀ n, st.ob n ≠ none → E.ρ n ≠ b := fun n hn he => hm.not (by have := h.own n hn; rw [he] at this; exact this)
  have hf : Fr B.pr B.w w := Fr.trans hm.f h.frame hm.p
  have hlo := hm.lo
  refine ⟨⟨fun i => hV _ _ (h.sl i), fun n cs hn => ?_, h.inj, h.obp, fun n hn => hm.mine (h.own n hn), fun n c q hq => ?_, h.tdis, ?_, fun x hx => ?_, fun x k hk => h.prot x k (hm.p x k hk), fun x k hk => ?_, fun x k hk => by rw [hsz]; exact h.prlt x k hk, h.pin, h.defers, h.size⟩, hV⟩
  · obtain ⟨us, e', r1, r2, r3⟩ := h.ob n cs hn
    exact ⟨us, e', (hh _ (hrn n (by rw [hn]; simp))).trans r1, r2, fun i hi => hV _ _ (r3 i hi)⟩
  · obtain ⟨t1, t2, t3, t4⟩ := h.tau n c q hq
    exact ⟨by rw [hsz]; exact t1, hm.mine t2, t3, t4⟩
  · refine ⟨hos.1.trans hf.os, hos.2.1.trans hf.tape, hos.2.2.trans hf.output, by rw [hsz]; exact hf.size, fun x k v hp hv => (hc _).trans (hf.cell x k v hp hv), fun x hx hp => ?_, fun x us e' m' hv => ?_⟩
    · exact (hh x (by omega)).trans (hf.whole x hx hp)
    · have hx : x < B.w.heap.size := (Array.getElem?_eq_some_iff.1 hv).1
      rw [hh x (by omega)]
      exact hf.rows x us e' m' hv
  · have hx1 : x ≠ b := fun he => hx (by rw [he]; exact .inr hlo)
    rw [hh x hx1, h.keep x (fun hq => hx (hm.mine hq))]
    exact hm.k x hx
  · rcases h.prnew x k hk with hq | hq
    · exact hm.pn x k hq
    · exact .inr (hm.mine hq)
end
end Caw
namespace Caw
open Go Go.RowKit
section
variable {P : Program} {Γ : Ctx1} {C : Cfg} {B : Base} {w w' : World} {E : Env} {st : St} {a : Act} {ops op2 : Array Oper}
theorem Rel0.row_any (h : Rel0 B E st a w) (vs : List Int) (e : TypeId) (m : Nat × Nat) :
    ∃ E' : Env, E'.τ = E.τ ∧ E'.ρ = E.ρ ∧ Rel0 B E' st a (w.alloc (.cells (vs.map (Value.int .u8)).toArray e m)) ∧
      PV (w.alloc (.cells (vs.map (Value.int .u8)).toArray e m)) E'.pr (.sl 1 (vs.map fun n => .v (.int .u8 n)) none) (.slice (some ⟨w.heap.size, 0, none⟩) vs.length vs.length) := by
  have hf := fr_alloc E.pr w (.cells (vs.map (Value.int .u8)).toArray e m)
  have h1 := h.fresh (w' := w.alloc (.cells (vs.map (Value.int .u8)).toArray e m)) hf (fun b hb => Below.heap_alloc _ _ _ hb)
    (pr' := fun b k => E.pr b k ∨ (b = w.heap.size ∧ k < vs.length)) (fun _ _ h => .inl h) (fun b k hp hq => by
      rcases hp with hp | ⟨rfl, _⟩
      · exact absurd hp hq
      · simp)
  refine ⟨{ E with pr := fun b k => E.pr b k ∨ b = w.heap.size ∧ k < vs.length }, rfl, rfl, h1, ?_⟩
  have hlen : (vs.map fun n => AV.v (.int .u8 n)).length = vs.length := by simp
  have hs : SlR (w.alloc (.cells (vs.map (Value.int .u8)).toArray e m)) (fun b k => E.pr b k ∨ (b = w.heap.size ∧ k < vs.length)) 1 (vs.map fun n => AV.v (.int .u8 n)) w.heap.size 0 (vs.map (Value.int .u8)) := by
    refine ⟨by simp, fun i hi => by simp [flat], fun k hk => .inr ⟨rfl, by simpa using hk⟩, fun i hi j hj => ?_, fun k v hk => ?_⟩
    · have hj0 : j = 0 := by simp [flat] at hj; omega
      subst hj0
      have hi' : i < vs.length := by simpa using hi
      have e1 : (flat (vs.map fun n => AV.v (.int .u8 n))[i])[0] = .v (.int .u8 vs[i]) := by simp [flat]
      rw [e1]
      have e2 : (vs.map (Value.int .u8)).getD (i * 1 + 0) undef = .int .u8 vs[i] := by simp [List.getD, hi']
      rw [e2]
      exact .v _
    · obtain ⟨hk1, hk2⟩ := List.getElem?_eq_some_iff.1 hk
      have : (w.alloc (.cells (vs.map (Value.int .u8)).toArray e m)).heap[w.heap.size]? = some (.cells (vs.map (Value.int .u8)).toArray e m) := by
        show (w.heap.push _)[w.heap.size]? = _
        simp
      simp only [World.cell?, Nat.zero_add, this]
      have hk1' : k < vs.length := by simpa using hk1
      simp at hk2
      simp [hk1', hk2]
  have hv := hs.pv none _ (Nat.le_refl _)
  rw [hlen] at hv
  exact hv

theorem run_conv {t e : TypeId} {vs : Array Value} {b n : Nat} (hr : w.heap[b]? = some (.cells vs e (0, 0))) (hu : P.underlying t = some (.slice e)) (he : P.underlying e = some (.int .u8)) :
    ∃ w', (convert t t (.slice (some ⟨b, 0, none⟩) n n)).run P w = .ok (.slice (some ⟨b, 0, none⟩) n n) w' ∧ (w'.os = w.os ∧ w'.tape = w.tape ∧ w'.output = w.output) ∧ w'.heap.size = w.heap.size ∧ (∀ c, c ≠ b → w'.heap[c]? = w.heap[c]?) ∧ ∃ m, w'.heap[b]? = some (.cells vs e m) := by
  have hsh : w.shape? b = some (e, vs.size) := by unfold World.shape?; rw [hr]
  refine ⟨w.freeze ⟨b, vs.size, none⟩ 1, ?_, ?_, ?_, ?_, ?_⟩
  · simp [convert, run_underlying hu, run_underlying he, markStringish, hsh]
  all_goals
    unfold World.freeze
    rw [if_neg (by decide)]
  · exact ⟨rfl, rfl, rfl⟩
  · exact Array.size_modify ..
  · intro c hc
    show (w.heap.modify b _)[c]? = _
    rw [Array.getElem?_modify, if_neg (Ne.symm hc)]
  · refine ⟨(vs.size, vs.size + 1), ?_⟩
    show (w.heap.modify b _)[b]? = _
    rw [Array.getElem?_modify, if_pos rfl, hr]
    rfl
theorem getB_set (l : Array Bool) (i j : Nat) (hi : i < l.size) (d : Bool) : (l.setIfInBounds i true).getD j d = if j = i then true else l.getD j d := by
  simp only [Array.getD_eq_getD_getElem?]
  by_cases h : j = i
  · subst h
    rw [if_pos rfl, Array.getElem?_setIfInBounds_self_of_lt hi]
    rfl
  · rw [if_neg h, Array.getElem?_setIfInBounds_ne (Ne.symm h)]
/-- What is known while the region runs. -/
def InvM (B : Base) (vs : Array Value) (e : TypeId) (n k d1 : Nat) (l : Array Bool) (st : St) (a : Act) (w : World) : Prop :=
  (l.getD k true = l.getD (k + 1) true ∧ Rel B st a w) ∨
  (l.getD k true = true ∧ l.getD (k + 1) true = false ∧ ∃ b pr w0, MidW B vs e b pr w0 ∧ Rel (B.from pr b w0) st a w ∧ a.tmps.getD d1 undef = .slice (some ⟨b, 0, none⟩) n n)
theorem tri_mark {N : Nat} {sf sz : St} {id : Nat} {Q : Exit → St → Prop} {o1 o2 : Oper} (L : List Nat) (M : List Nm) (hΓ : GOk1 P Γ) (hmx : P.follows .mixedOrders = true) (k d1 d2 : Nat) (t e : TypeId) (vs : List Int)
    (hk1 : ops[k]? = some o1) (hk2 : ops[k + 1]? = some o2) (g1 : o1.guard = none) (g2 : o2.guard = none) (hd1 : o1.dst = some d1) (hd2 : o2.dst = some d2) (ho2 : o2.op = .convert t t (.tmp d1))
    (haf : o2.after.toList.any (fun q => Region.binds .any q && q.on == k) = true) (hdst0 : (List.range ops.size).all (fun i => i == k || (ops[i]?).bind (fun o : Oper => o.dst) != some d1) = true)
    (hb1 : d1 < N) (hb2 : d2 < N) (hu : P.underlying t = some (.slice e)) (hu8 : P.underlying e = some (.int .u8))
    (hrun : ∀ (g : Operand → Value) (w : World), (∀ x, g (.const x) = x) → (execOp g o1).run P w = .ok (.value (.slice (some ⟨w.heap.size, 0, none⟩) vs.length vs.length)) (w.alloc (.cells (vs.map (Value.int .u8)).toArray e)))
    (heop : ∀ st, eop P Γ C st o1 = some (.sl 1 (vs.map fun n => .v (.int .u8 n)) (some (nmOf d1 0, st.G (nmOf d1 0) + 1)), bump st (nmOf d1 0)))
    (h2 : op2 = ops.setIfInBounds (k + 1) { o2 with op := .move (.tmp d1) }) (hreg : regOk C op2 = true)
    (he : Is (erunL P Γ C N op2 op2.toList st) sz) (he3 : Is (keep L M sz) sf) (hq : Q .normal sf) : Tri P N st (.region id ops true) Q := by
  have hdst : ∀ i o, ops[i]? = some o → i ≠ k → o.dst ≠ some d1 := by
    intro i o ho hi
    have hlt : i < ops.size := (Array.getElem?_eq_some_iff.1 ho).1
    have := List.all_eq_true.1 hdst0 i (List.mem_range.2 hlt)
    rw [ho] at this
    simp only [Option.bind_some, Bool.or_eq_true, beq_iff_eq, bne_iff_ne, ne_eq] at this
    rcases this with h | h
    · exact absurd h hi
    · exact h
  rintro B a w ⟨rfl, hTb⟩ hr
  have hk1l : k < ops.size := (Array.getElem?_eq_some_iff.1 hk1).1
  have hk2l : k + 1 < ops.size := (Array.getElem?_eq_some_iff.1 hk2).1
  have hsz : ops.size = op2.size := by rw [h2, Array.size_setIfInBounds]
  have hne : ∀ i, i ≠ k + 1 → op2[i]? = ops[i]? := fun i hi => by rw [h2, Array.getElem?_setIfInBounds_ne (Ne.symm hi)]
  have hat : op2[k + 1]? = some { o2 with op := .move (.tmp d1) } := by rw [h2, Array.getElem?_setIfInBounds_self_of_lt hk2l]
  have haft : ∀ i : Nat, (ops[i]?).map (fun o : Oper => o.after) = (op2[i]?).map (fun o : Oper => o.after) := by
    intro i
    by_cases hi : i = k + 1
    · rw [hi, hat, hk2]; rfl
    · rw [hne i hi]
  have hdst2 : ∀ i : Nat, (op2[i]?).bind (fun o : Oper => o.dst) = (ops[i]?).bind (fun o : Oper => o.dst) := by
    intro i
    by_cases hi : i = k + 1
    · rw [hi, hat, hk2]; rfl
    · rw [hne i hi]
  have hyl : ∀ tm, yielded op2 tm = yielded ops tm := by
    intro tm
    funext j
    have hj := hdst2 j
    unfold yielded
    rw [hj]
  have hbk : ∃ q ∈ o2.after, Region.binds .any q = true ∧ q.on = k := by
    rw [List.any_eq_true] at haf
    obtain ⟨q, q1, q2⟩ := haf
    simp only [Bool.and_eq_true, beq_iff_eq] at q2
    exact ⟨q, by simpa using q1, q2⟩
  have hw : ∀ (o : Oper) ys, o.guard = none → Region.wanted o ys = true := by intro o ys g; unfold Region.wanted; rw [g]
  have hgd : ∀ (o : Oper) sl, o.guard = none → gd op2 sl o = some true := by intro o sl g; unfold gd; rw [g]
  have hGood : ∀ l st a w, InvM B (vs.map (Value.int .u8)).toArray e vs.length k d1 l st a w → Good P B.N st := by
    rintro l st a w (⟨-, h⟩ | ⟨-, -, b, pr, w0, hmid, h, -⟩)
    · exact ⟨B, a, w, rfl, hTb, h⟩
    · exact ⟨B.from pr b w0, a, w, rfl, hTb.of hmid.f hmid.p _ _ _, h⟩
  refine wp_region_any hmx (any_inv (N := B.N) (C := C) hΓ hsz (ready_congr hsz haft) hreg (Inv := InvM B (vs.map (Value.int .u8)).toArray e vs.length k d1) (sf := sz) hGood ?_ ?_ ops.size _ st a _ (by simp [hsz]) (fun k o _ hl => by simp [Array.getD] at hl) ?_ (.inl ⟨by simp [Array.getD, hk1l, hk2l], hr.drew⟩) ?_)
  · intro l st a w i o o' s1 hinv ho ho' hli hdep hls hst
    have hil : i < l.size := by rw [hls, ← hsz]; exact (Array.getElem?_eq_some_iff.1 ho).1
    have hkl : k < l.size := by rw [hls, ← hsz]; exact hk1l
    have hkl2 : k + 1 < l.size := by rw [hls, ← hsz]; exact hk2l
    by_cases hik : i = k
    · -- the row is laid out
      subst hik
      rw [hk1] at ho; cases ho
      rw [hne i (by omega), hk1] at ho'; cases ho'
      rcases hinv with ⟨hl2, E, h⟩ | ⟨hl1, -⟩
      case inr => rw [hl1] at hli; cases hli
      rw [hli] at hl2
      unfold estep eff at hst
      rw [hgd _ _ g1] at hst
      simp only [heop] at hst
      split at hst
      case isFalse => cases hst
      cases hst
      unfold wpStep
      rw [if_pos (hw _ _ g1)]
      refine wp_value (hrun a.eval w (fun x => rfl)) ?_
      obtain ⟨E', eτ, eρ, h1, hv⟩ := h.row_any vs e (0, 0)
      have h3 := h1.tag (nmOf d1 0) none (fun b q hq => by cases hq)
      have hlast : ∀ n q, setF E'.τ (nmOf d1 0) none n ≠ some (w.heap.size, q) := by
        intro n q hn
        unfold setF at hn
        split at hn
        · cases hn
        · rw [eτ] at hn
          have := (h.tau n _ q hn).1
          omega
      have hput := h3.putSt (dst := o1.dst) (fun d hd => by rw [hd1] at hd; cases hd; exact hb1) (x := .sl 1 (vs.map fun n => .v (.int .u8 n)) (some (nmOf d1 0, st.G (nmOf d1 0) + 1))) (y := .slice (some ⟨w.heap.size, 0, none⟩) vs.length vs.length) (.sl (PV_tag _ hv) (fun n g hn => by
        cases hn
        exact ⟨by simp [setF], fun _ => .inl rfl⟩))
      have hasz : (w.alloc (.cells (vs.map (Value.int .u8)).toArray e (0, 0))).heap.size = w.heap.size + 1 := Array.size_push ..
      refine .inr ⟨by rw [getB_set _ _ _ hil, if_pos rfl], by rw [getB_set _ _ _ hil, if_neg (by omega)]; exact hl2.symm, w.heap.size, _, _, ⟨hput.frame, hput.keep, hput.prot, hput.prnew, h.frame.size, by rw [hasz]; omega, ?_⟩, ⟨_, hput.rebase (fun n hn => ?_) hlast⟩, ?_⟩
      · show (w.heap.push _)[w.heap.size]? = _
        simp
      · have h4 : E'.ρ n < w.heap.size := by
          rw [eρ]
          exact h.lt (by intro h0; exact hn (by rw [← h0]; cases o1.dst <;> rfl))
        show E'.ρ n ≠ _
        omega
      · have := h.size
        rw [hd1]
        simp [Act.put, Array.getD, this, hb1]
    · by_cases hik2 : i = k + 1
      · -- the row is marked
        subst hik2
        rw [hk2] at ho; cases ho
        rw [hat] at ho'; cases ho'
        obtain ⟨q, q1, q2, q3⟩ := hbk
        have hlk : l.getD k false = true := by have := hdep q q1 q2; rw [q3] at this; exact this
        have hlk2 : l.getD k true = true := by
          rw [Array.getD_eq_getD_getElem?, Array.getElem?_eq_getElem hkl] at hlk ⊢
          exact hlk
        rcases hinv with ⟨hl2, -⟩ | ⟨-, -, b, pr, w0, hm, ⟨E, h⟩, htm⟩
        · rw [hlk2, hli] at hl2; cases hl2
        unfold estep eff at hst
        rw [hgd _ _ (by exact g2)] at hst
        simp only [eop, ev] at hst
        split at hst
        case isFalse => cases hst
        cases hst
        unfold wpStep
        rw [if_pos (hw _ _ g2)]
        obtain ⟨w', r1, r2, r3, r4, m, r5⟩ := run_conv (P := P) (t := t) (n := vs.length) (hm.rowAt h) hu hu8
        have hev : a.eval (.tmp d1) = .slice (some ⟨b, 0, none⟩) vs.length vs.length := htm
        obtain ⟨h5, h6⟩ := h.unmark hm r2 r3 r4 r5
        refine wp_value (v := .slice (some ⟨b, 0, none⟩) vs.length vs.length) (w' := w') ?_ ?_
        · unfold execOp
          simp only [ho2, Sem.run_bind, hev, r1, Result.andThen_ok, Sem.run_pure]
        · have hv := h6 _ _ (h.sl d1)
          rw [htm] at hv
          have hput := h5.putSt (dst := o2.dst) (fun d hd => by rw [hd2] at hd; cases hd; exact hb2) hv
          exact .inl ⟨by rw [getB_set _ _ _ hil, getB_set _ _ _ hil, if_neg (by omega), if_pos rfl]; exact hlk2, _, hput⟩
      · -- any other operation
        rw [hne i hik2, ho] at ho'; cases ho'
        have e1 : (l.setIfInBounds i true).getD k true = l.getD k true := by rw [getB_set _ _ _ hil, if_neg (Ne.symm hik)]
        have e2 : (l.setIfInBounds i true).getD (k + 1) true = l.getD (k + 1) true := by rw [getB_set _ _ _ hil, if_neg (Ne.symm hik2)]
        rcases hinv with ⟨hl2, h⟩ | ⟨hl1, hl2, b, pr, w0, hm, h, htm⟩
        · have := estep_sound (B := B) ⟨hΓ, hTb⟩ h hst (fun e a w => ∃ s, Q e s ∧ Rel B s a w)
          unfold wpStep at this ⊢
          rw [hyl] at this
          split at this
          · rename_i hww
            rw [if_pos hww]
            exact Oper.wp_mono (fun a' w' hr' => .inl ⟨by rw [e1, e2]; exact hl2, hr'⟩) this
          · rename_i hww
            rw [if_neg hww]
            exact .inl ⟨by rw [e1, e2]; exact hl2, this⟩
        · have := wpStep_put (estep_sound (B := B.from pr b w0) ⟨hΓ, hTb.of hm.f hm.p _ _ _⟩ h hst (fun e a w => ∃ s, Q e s ∧ Rel B s a w))
          unfold wpStep at this ⊢
          rw [hyl] at this
          have hkeep : ∀ (a' : Act), (∃ v, a'.tmps = (a.put o.dst v).tmps) → a'.tmps.getD d1 undef = .slice (some ⟨b, 0, none⟩) vs.length vs.length := by
            rintro a' ⟨v, hv⟩
            rw [hv]
            have hod := hdst i o ho hik
            cases hdo : o.dst with
            | none => exact htm
            | some d =>
              have hdd : d ≠ d1 := fun q => hod (by rw [hdo, q])
              rw [← htm]
              simp only [Act.put, Array.getD_eq_getD_getElem?]
              rw [Array.getElem?_setIfInBounds_ne hdd]
          split at this
          · rename_i hww
            rw [if_pos hww]
            exact Oper.wp_mono (fun a' w' hr' => .inr ⟨by rw [e1]; exact hl1, by rw [e2]; exact hl2, b, pr, w0, hm, hr'.1, hkeep a' hr'.2⟩) this
          · rename_i hww
            rw [if_neg hww]
            exact .inr ⟨by rw [e1]; exact hl1, by rw [e2]; exact hl2, b, pr, w0, hm, this.1, hkeep _ this.2⟩
  · intro l a w hinv hall
    rcases hinv with ⟨-, h⟩ | ⟨-, h2, -⟩
    · exact ⟨sf, hq, keep_le he3 B a w rfl h⟩
    · rw [hall (k + 1) (by rw [← hsz]; exact hk2l)] at h2; cases h2
  · rw [hsz, filter_all]; simp
  · rw [hsz, filter_all]
    have := eregion_eq (P := P) (Γ := Γ) (C := C) (N := B.N) (ops := op2) st
    unfold eregion at this
    rw [this]; exact he
end
end Caw

/-! Ranging over a string. -/
set_option linter.all false
namespace Caw
open Go Go.RowKit
/-- The world where an iterator stands in block b. -/
structure ItW (B : Base) (b : Nat) (pr : Pr) (w0 : World) (s : ByteArray) (pos : Nat) : Prop where
  f : Fr B.pr B.w w0
  k : ∀ x, ¬ B.mine x → w0.heap[x]? = B.w.heap[x]?
  p : ∀ x k, B.pr x k → pr x k
  pn : ∀ x k, pr x k → B.pr x k ∨ B.mine x
  lo : B.w.heap.size ≤ b
  lt : b < w0.heap.size
  it : w0.heap[b]? = some (.stringIter s pos)
section
variable {P : Program} {Γ : Ctx1} {C : Cfg} {B : Base} {b : Nat} {pr : Pr} {w0 w w' : World} {E : Env} {st s1 : St} {a : Act} {s : ByteArray} {pos : Nat} {ops : Array Oper}
theorem ItW.not (hm : ItW B b pr w0 s pos) : ¬ (B.from pr b w0).mine b := by
  rintro (⟨-, h⟩ | h)
  · exact h rfl
  · have := hm.lt
    have h2 : w0.heap.size ≤ b := h
    omega
theorem ItW.mine (hm : ItW B b pr w0 s pos) {x : Nat} (h : (B.from pr b w0).mine x) : B.mine x := by
  rcases h with ⟨h, -⟩ | h
  · exact h
  · have h2 : w0.heap.size ≤ x := h
    exact .inr (Nat.le_trans hm.f.size h2)
theorem ItW.at (hm : ItW B b pr w0 s pos) (h : Rel0 (B.from pr b w0) E st a w) : w.heap[b]? = some (.stringIter s pos) := (h.keep b hm.not).trans hm.it
theorem Rel0.offIt (hm : ItW B b pr w0 s pos) (h : Rel0 (B.from pr b w0) E st a w) : Rel0 B E st a w where
  sl := h.sl
  ob := h.ob
  inj := h.inj
  obp := h.obp
  own := fun n hn => hm.mine (h.own n hn)
  tau := fun n c e hc => by
    obtain ⟨t1, t2, t3, t4⟩ := h.tau n c e hc
    exact ⟨t1, hm.mine t2, t3, t4⟩
  tdis := h.tdis
  frame := Fr.trans hm.f h.frame hm.p
  keep := fun x hx => (h.keep x (fun he => hx (hm.mine he))).trans (hm.k x hx)
  prot := fun x k hk => h.prot x k (hm.p x k hk)
  prnew := fun x k hk => by
    rcases h.prnew x k hk with h1 | h1
    · exact hm.pn x k h1
    · exact .inr (hm.mine h1)
  prlt := h.prlt
  pin := h.pin
  defers := h.defers
  size := h.size
/-- The iterator steps on. -/
theorem Rel0.onIt (hm : ItW B b pr w0 s pos) (h : Rel0 (B.from pr b w0) E st a w) (pos' : Nat) :
    ItW B b E.pr { w with heap := w.heap.setIfInBounds b (.stringIter s pos') } s pos' ∧ Rel0 (B.from E.pr b { w with heap := w.heap.setIfInBounds b (.stringIter s pos') }) E st a { w with heap := w.heap.setIfInBounds b (.stringIter s pos') } := by
  have hat := hm.at h
  have hblt : b < w.heap.size := (Array.getElem?_eq_some_iff.1 hat).1
  have hlo := hm.lo
  generalize hw' : ({ w with heap := w.heap.setIfInBounds b (.stringIter s pos') } : World) = w'
  have hos : w'.os = w.os ∧ w'.tape = w.tape ∧ w'.output = w.output := by subst hw'; exact ⟨rfl, rfl, rfl⟩
  have hsz : w'.heap.size = w.heap.size := by subst hw'; simp
  have hh : ∀ c, c ≠ b → w'.heap[c]? = w.heap[c]? := by
    subst hw'
    intro c hc
    show (w.heap.setIfInBounds b _)[c]? = _
    rw [Array.getElem?_setIfInBounds_ne (Ne.symm hc)]
  have hb : w'.heap[b]? = some (.stringIter s pos') := by
    subst hw'
    show (w.heap.setIfInBounds b _)[b]? = _
    rw [Array.getElem?_setIfInBounds_self_of_lt hblt]
  have hc : ∀ ad, w'.cell? ad = w.cell? ad := by
    intro ad
    unfold World.cell?
    by_cases h1 : ad.block = b
    · rw [h1, hb, hat]
    · rw [hh _ h1]
  have ht : ∀ n q, E.τ n ≠ some (b, q) := fun n q hq => hm.not (h.tau n b q hq).2.1
  have hV : ∀ x y, V E st w x y → V E st w' x y := fun x y hv => hv.mark hc hh ht
  have hrn : ∀ n, st.ob n ≠ none → E.ρ n ≠ b := fun n hn he => hm.not (by have := h.own n hn; rw [he] at this; exact this)
  have h0 := h.offIt hm
  have hf : Fr B.pr B.w w' := by
    have hf := h0.frame
    refine ⟨hos.1.trans hf.os, hos.2.1.trans hf.tape, hos.2.2.trans hf.output, by rw [hsz]; exact hf.size, fun x k v hp hv => (hc _).trans (hf.cell x k v hp hv), fun x hx hp => ?_, fun x us e' m' hv => ?_⟩
    · exact (hh x (by omega)).trans (hf.whole x hx hp)
    · have hx : x < B.w.heap.size := (Array.getElem?_eq_some_iff.1 hv).1
      rw [hh x (by omega)]
      exact hf.rows x us e' m' hv
  refine ⟨⟨hf, fun x hx => ?_, h0.prot, h0.prnew, hlo, by rw [hsz]; exact hblt, hb⟩, ?_⟩
  · rw [hh x (fun he => hx (by rw [he]; exact .inr hlo))]
    exact h0.keep x hx
  · refine ⟨fun i => hV _ _ (h.sl i), fun n cs hn => ?_, h.inj, h.obp, fun n hn => .inl ⟨h0.own n hn, hrn n hn⟩, fun n c q hq => ?_, h.tdis, Fr.refl _ _, fun _ _ => rfl, fun _ _ h => h, fun _ _ h => .inl h, fun x k hk => by rw [hsz]; exact h.prlt x k hk, h.pin, h.defers, h.size⟩
    · obtain ⟨us, e', r1, r2, r3⟩ := h.ob n cs hn
      exact ⟨us, e', (hh _ (hrn n (by rw [hn]; simp))).trans r1, r2, fun i hi => hV _ _ (r3 i hi)⟩
    · obtain ⟨t1, t2, t3, t4⟩ := h0.tau n c q hq
      exact ⟨by rw [hsz]; exact t1, .inl ⟨t2, fun he => ht n q (by rw [hq, he])⟩, t3, t4⟩
/-- An iterator is laid. -/
theorem Rel0.newIt (h : Rel0 B E st a w) (s : ByteArray) :
    ItW B w.heap.size E.pr (w.alloc (.stringIter s 0)) s 0 ∧ Rel0 (B.from E.pr w.heap.size (w.alloc (.stringIter s 0))) E st a (w.alloc (.stringIter s 0)) := by
  have hsz : (w.alloc (.stringIter s 0)).heap.size = w.heap.size + 1 := Array.size_push ..
  have h1 := h.fresh (w' := w.alloc (.stringIter s 0)) (fr_alloc E.pr w _) (fun c hc => Below.heap_alloc _ _ _ hc) (pr' := E.pr) (fun _ _ h => h) (fun _ _ h k => absurd h k)
  have h2 : Rel0 B E st a (w.alloc (.stringIter s 0)) := h1
  refine ⟨⟨h2.frame, h2.keep, h2.prot, h2.prnew, h.frame.size, by rw [hsz]; omega, ?_⟩, h2.rebase (fun n hn => ?_) (fun n q hq => ?_)⟩
  · show (w.heap.push _)[w.heap.size]? = _
    simp
  · have := h.lt hn
    omega
  · have := (h.tau n _ q hq).1
    omega
theorem region2 {id : Nat} {o0 o1 : Oper} {K : Exit → Act → World → Prop} (h : wpStep P #[o0, o1] o0 (fun a w => wpStep P #[o0, o1] o1 (fun a' w' => K .normal a' w') K a w) K a w) : (Code.region id #[o0, o1] false).wp P K a w := by
  refine wp_region ?_
  have hr : List.range (#[o0, o1] : Array Oper).size = [0, 1] := rfl
  rw [hr]
  have h1 : ∀ (a : Act) (w : World), wpStep P #[o0, o1] o1 (fun a' w' => K .normal a' w') K a w → wpOps P #[o0, o1] K [1] a w := by
    intro a w hh
    unfold wpStep at hh
    show (if Region.wanted o1 (yielded #[o0, o1] a.tmps) = true then o1.wp P a w (wpOps P #[o0, o1] K []) K ∨ (o1.asks P a w ∧ LetsOut K) else wpOps P #[o0, o1] K [] (a.put o1.dst undef) w)
    split
    · rename_i hw
      rw [if_pos hw] at hh
      exact .inl hh
    · rename_i hw
      rw [if_neg hw] at hh
      exact hh
  unfold wpStep at h
  show (if Region.wanted o0 (yielded #[o0, o1] a.tmps) = true then o0.wp P a w (wpOps P #[o0, o1] K [1]) K ∨ (o0.asks P a w ∧ LetsOut K) else wpOps P #[o0, o1] K [1] (a.put o0.dst undef) w)
  split
  · rename_i hw
    rw [if_pos hw] at h
    exact .inl (Oper.wp_mono (fun a' w' hh => h1 a' w' hh) h)
  · rename_i hw
    rw [if_neg hw] at h
    exact h1 _ _ h
theorem wpStep_mono {o : Oper} {K K' : Act → World → Prop} {Q : Exit → Act → World → Prop} (hk : ∀ a w, K a w → K' a w) (h : wpStep P ops o K Q a w) : wpStep P ops o K' Q a w := by
  unfold wpStep at *
  split
  · rename_i hw
    rw [if_pos hw] at h
    exact Oper.wp_mono hk h
  · rename_i hw
    rw [if_neg hw] at h
    exact hk _ _ h
theorem wanted_none {o : Oper} (g : o.guard = none) (ys : Nat → Option Bool) : Region.wanted o ys = true := by unfold Region.wanted; rw [g]
/-- The region in which a string is begun to be ranged over, and what follows. -/
theorem tri_range {N : Nat} {id : Nat} {o0 o1 : Oper} {t : TypeId} {x : Operand} {d : Nat} {rest : Code} {Q : Exit → St → Prop} (hΓ : GOk1 P Γ) (g1 : o1.guard = none) (ho1 : o1.op = .range t x) (hd1 : o1.dst = some d) (hN : d < N) (hu : P.underlying t = some .string)
    (he : estep P Γ C N #[o0, o1] st o0 = some s1) (hx : ev s1 x = .v (.string s))
    (hK : ∀ B a w b pr w0, (B.N = N ∧ TabB P B) → ItW B b pr w0 s 0 → Rel (B.from pr b w0) (putSt s1 (some d) (.v (.pointer (some ⟨b, 0, none⟩)))) a w → rest.wp P (fun e a' w' => ∃ st', Q e st' ∧ Rel B st' a' w') a w) :
    Tri P N st (.seq (.region id #[o0, o1] false) rest) Q := by
  rintro B a w ⟨rfl, hTb⟩ hr
  refine wp_seq (region2 ?_)
  refine wpStep_mono (fun a w hr1 => ?_) (estep_sound (B := B) ⟨hΓ, hTb⟩ hr he _)
  obtain ⟨E, h1⟩ := hr1
  have hev : a.eval x = .string s := by have := ev_rel h1 x; rw [hx] at this; exact V_v this
  obtain ⟨hit, h2⟩ := h1.newIt s
  unfold wpStep
  rw [if_pos (wanted_none g1 _)]
  refine wp_value (v := .pointer (some ⟨w.heap.size, 0, none⟩)) (w' := w.iter s 0) ?_ ?_
  · unfold execOp
    simp only [ho1, Sem.run_bind, hev, run_range_string w t s hu, Result.andThen_ok, Sem.run_pure]
  · refine hK B _ _ w.heap.size E.pr (w.alloc (.stringIter s 0)) ⟨rfl, hTb⟩ hit ⟨E, ?_⟩
    rw [hd1]
    exact h2.putSt (dst := some d) (fun d' hd' => by cases hd'; exact hN) (.v _)
theorem run_nextAt {r : Nat} {ty : TypeId} (hh : w.heap[r]? = some (.stringIter s pos)) (hp : pos < s.size) :
    (Instr.next (.pointer (some ⟨r, 0, none⟩)) true ty).run P w = .ok (.tuple #[.bool true, .int .i64 pos, .int .i32 ((Utf8.decode s pos).1 : Nat)]) { w with heap := w.heap.setIfInBounds r (.stringIter s (pos + (Utf8.decode s pos).2)) } := by
  simp only [Instr.next, getObj, setObj, Sem.run_bind, Sem.run, hh, Result.andThen, hp, if_true]
  have hlt : r < w.heap.size := (Array.getElem?_eq_some_iff.1 hh).1
  simp [goInt, Sem.run, hh, hlt]
theorem run_nextEnd {r : Nat} {ty : TypeId} (hh : w.heap[r]? = some (.stringIter s pos)) (hp : ¬ pos < s.size) :
    (Instr.next (.pointer (some ⟨r, 0, none⟩)) true ty).run P w = .ok (.tuple #[.bool false]) w := by
  simp [Instr.next, getObj, Sem.run, hh, hp]
theorem it_loop {N : Nat} {id : Nat} {n0 x0 : Oper} {d10 d11 : Nat} {body : Code} {Q : Exit → St → Prop} (hΓ : GOk1 P Γ) (g0 : n0.guard = none) (hn0 : n0.op = .next (.tmp d10) true) (hd : n0.dst = some d11) (h11 : d11 < N)
    (J : Nat → Nat → Nat → St → Prop) (hslot : ∀ b n pos st, J b n pos st → st.sl d10 = .v (.pointer (some ⟨b, 0, none⟩)))
    (round : ∀ b n pos st, J b n pos st → pos < s.size → ∃ s2, estep P Γ C N #[n0, x0] (putSt st (some d11) (.v (.tuple #[.bool true, .int .i64 pos, .int .i32 ((Utf8.decode s pos).1 : Nat)]))) x0 = some s2 ∧
      Tri P N s2 body (Then (fun s' => ∃ n' s'', n' < n ∧ Le N s' s'' ∧ J b n' (pos + (Utf8.decode s pos).2) s'') Q))
    (stop : ∀ b n pos st, J b n pos st → ¬ pos < s.size → ∃ s2, estep P Γ C N #[n0, x0] (putSt st (some d11) (.v (.tuple #[.bool false]))) x0 = some s2 ∧ Tri P N s2 body (Then (fun _ => False) Q))
    {n : Nat} (hN : B.N = N ∧ TabB P B) (hit : ItW B b pr w0 s pos) (hr : Rel (B.from pr b w0) st a w) (hJ : J b n pos st) :
    (Code.loop (.seq (.region id #[n0, x0] false) body)).wp P (fun e a' w' => ∃ st', Q e st' ∧ Rel B st' a' w') a w := by
  refine wp_loop_ghost (fun n a w => ∃ pos st pr w0, ItW B b pr w0 s pos ∧ Rel (B.from pr b w0) st a w ∧ J b n pos st) n ⟨pos, st, pr, w0, hit, hr, hJ⟩ ?_
  clear hit hr hJ
  rintro n a w ⟨pos, st, pr, w0, hit, ⟨E, h⟩, hJ⟩
  have hev : a.eval (.tmp d10) = .pointer (some ⟨b, 0, none⟩) := by
    have := h.sl d10
    rw [hslot _ _ _ _ hJ] at this
    exact V_v this
  have hat := hit.at h
  have hput : ∀ d', (some d11 : Option Nat) = some d' → d' < B.N := by
    intro d' hd'
    cases hd'
    rw [hN.1]; exact h11
  by_cases hp : pos < s.size
  · obtain ⟨s2, e2, hb⟩ := round _ _ _ _ hJ hp
    refine wp_seq (region2 ?_)
    unfold wpStep
    rw [if_pos (wanted_none g0 _)]
    obtain ⟨hit2, h2⟩ := h.onIt hit (pos + (Utf8.decode s pos).2)
    refine wp_value (v := .tuple #[.bool true, .int .i64 pos, .int .i32 ((Utf8.decode s pos).1 : Nat)]) (w' := { w with heap := w.heap.setIfInBounds b (.stringIter s (pos + (Utf8.decode s pos).2)) }) ?_ ?_
    · unfold execOp
      simp only [hn0, Sem.run_bind, hev, run_nextAt hat hp, Result.andThen_ok, Sem.run_pure]
    · rw [hd]
      have h3 := h2.putSt (dst := some d11) hput (x := .v (.tuple #[.bool true, .int .i64 pos, .int .i32 ((Utf8.decode s pos).1 : Nat)])) (.v _)
      obtain ⟨rfl, hTb⟩ := hN
      have := estep_sound (B := B.from E.pr b { w with heap := w.heap.setIfInBounds b (.stringIter s (pos + (Utf8.decode s pos).2)) }) ⟨hΓ, hTb.of hit2.f hit2.p _ _ _⟩ ⟨E, h3⟩ e2
      refine wpStep_mono (fun a' w' hr' => ?_) (this _)
      refine wp_mono (hb (B.from E.pr b _) a' w' ⟨rfl, hTb.of hit2.f hit2.p _ _ _⟩ hr') ?_
      rintro e a2 w2 ⟨s', hq, hr2⟩
      cases e with
      | normal =>
        obtain ⟨n', s'', hlt, hle, hj'⟩ := hq
        exact ⟨n', hlt, _, s'', _, _, hit2, hle _ _ _ rfl hr2, hj'⟩
      | _ =>
        obtain ⟨E2, h4⟩ := hr2
        exact ⟨s', hq, E2, h4.offIt hit2⟩
  · obtain ⟨s2, e2, hb⟩ := stop _ _ _ _ hJ hp
    refine wp_seq (region2 ?_)
    unfold wpStep
    rw [if_pos (wanted_none g0 _)]
    refine wp_value (v := .tuple #[.bool false]) (w' := w) ?_ ?_
    · unfold execOp
      simp only [hn0, Sem.run_bind, hev, run_nextEnd hat hp, Result.andThen_ok, Sem.run_pure]
    · rw [hd]
      have h3 := h.putSt (dst := some d11) hput (x := .v (.tuple #[.bool false])) (.v _)
      obtain ⟨rfl, hTb⟩ := hN
      have := estep_sound (B := B.from pr b w0) ⟨hΓ, hTb.of hit.f hit.p _ _ _⟩ ⟨E, h3⟩ e2
      refine wpStep_mono (fun a' w' hr' => ?_) (this _)
      refine wp_mono (hb (B.from pr b w0) a' w' ⟨rfl, hTb.of hit.f hit.p _ _ _⟩ hr') ?_
      rintro e a2 w2 ⟨s', hq, hr2⟩
      cases e with
      | normal => exact hq.elim
      | _ =>
        obtain ⟨E2, h4⟩ := hr2
        exact ⟨s', hq, E2, h4.offIt hit⟩
/-- A loop over a string, whole. -/
theorem tri_over {N : Nat} {id id2 k : Nat} {o0 o1 n0 x0 : Oper} {t : TypeId} {x : Operand} {d d11 : Nat} {body : Code} {Q : Exit → St → Prop} (hΓ : GOk1 P Γ) (g1 : o1.guard = none) (ho1 : o1.op = .range t x) (hd1 : o1.dst = some d) (hN : d < N) (hu : P.underlying t = some .string)
    (g0 : n0.guard = none) (hn0 : n0.op = .next (.tmp d) true) (hd : n0.dst = some d11) (h11 : d11 < N)
    (he : estep P Γ C N #[o0, o1] st o0 = some s1) (hx : ev s1 x = .v (.string s)) (J : Nat → Nat → Nat → St → Prop) (m : Nat)
    (hstart : ∀ b, ∃ s2, Le N (putSt s1 (some d) (.v (.pointer (some ⟨b, 0, none⟩)))) s2 ∧ J b m 0 s2)
    (hslot : ∀ b n pos st, J b n pos st → st.sl d = .v (.pointer (some ⟨b, 0, none⟩)))
    (round : ∀ b n pos st, J b n pos st → pos < s.size → ∃ s2, estep P Γ C N #[n0, x0] (putSt st (some d11) (.v (.tuple #[.bool true, .int .i64 pos, .int .i32 ((Utf8.decode s pos).1 : Nat)]))) x0 = some s2 ∧
      Tri P N s2 body (Then (fun s' => ∃ n' s'', n' < n ∧ Le N s' s'' ∧ J b n' (pos + (Utf8.decode s pos).2) s'') (InBlock k Q)))
    (stop : ∀ b n pos st, J b n pos st → ¬ pos < s.size → ∃ s2, estep P Γ C N #[n0, x0] (putSt st (some d11) (.v (.tuple #[.bool false]))) x0 = some s2 ∧ Tri P N s2 body (Then (fun _ => False) (InBlock k Q))) :
    Tri P N st (.seq (.region id #[o0, o1] false) (.block k (.loop (.seq (.region id2 #[n0, x0] false) body)))) Q := by
  refine tri_range hΓ g1 ho1 hd1 hN hu he hx (fun B a w b pr w0 hB hit hr => ?_)
  obtain ⟨s2, hle, hj⟩ := hstart b
  refine wp_block (wp_mono (it_loop hΓ g0 hn0 hd h11 J hslot round stop hB hit (hle (B.from pr b w0) a w hB.1 hr) hj) ?_)
  rintro e a' w' ⟨s', hq, hr'⟩
  cases e with
  | exit id' =>
    simp only [InBlock] at hq
    simp only [Exit.inBlock]
    split at hq
    · rename_i he; rw [if_pos he]; exact ⟨s', hq, hr'⟩
    · rename_i he; rw [if_neg he]; exact ⟨s', hq, hr'⟩
  | _ => exact ⟨s', hq, hr'⟩
end
end Caw

/-! Ranging over a string: the rules as a walk uses them. -/
set_option linter.all false
namespace Caw
open Go Go.RowKit
/-! ### Less is told: slots and objects are let go -/
def coS (φ ψ : Nm → Option Nm) (s s2 : St) (f : Nat → AV) : List (Nat × AV) → Prop
  | [] => True
  | q :: t => Co φ ψ s s2 (f q.1) q.2 ∧ coS φ ψ s s2 f t
def coSO (φ ψ : Nm → Option Nm) (s s2 : St) (f : Obs) : List (Nm × List AV) → Prop
  | [] => True
  | q :: t => (match f q.1 with | some cs => All2P (CoL φ ψ s s2) cs q.2 | none => False) ∧ coSO φ ψ s s2 f t
theorem co_dead (φ ψ : Nm → Option Nm) (s s2 : St) (x : AV) : Co φ ψ s s2 x .dead := by
  unfold Co
  split
  · rename_i h; cases h
  · rename_i h; cases h
  · unfold CoA
    split <;> first
      | (rename_i h; cases h; done)
      | (rename_i h _; cases h; done)
      | (rename_i h _ _; cases h; done)
      | (unfold CoL; trivial)
theorem coS_lk {φ ψ : Nm → Option Nm} {s s2 : St} {f : Nat → AV} : ∀ {t : List (Nat × AV)}, coS φ ψ s s2 f t → ∀ i, Co φ ψ s s2 (f i) (lk t i)
  | [], _, i => by simp only [lk]; exact co_dead _ _ _ _ _
  | q :: t, h, i => by
    simp only [lk]
    split
    · rename_i e; rw [e]; exact h.1
    · exact coS_lk h.2 i
theorem coSO_lo {φ ψ : Nm → Option Nm} {s s2 : St} {f : Obs} : ∀ {t : List (Nm × List AV)}, coSO φ ψ s s2 f t → ∀ n cs2, lo t n = some cs2 → ∃ cs, f n = some cs ∧ All2P (CoL φ ψ s s2) cs cs2
  | [], _, n, cs2, hn => by cases hn
  | q :: t, h, n, cs2, hn => by
    simp only [lo] at hn
    split at hn
    · rename_i e
      cases hn
      have h1 := h.1
      split at h1
      · rename_i cs hcs; exact ⟨cs, by rw [e]; exact hcs, h1⟩
      · exact h1.elim
    · exact coSO_lo h.2 n cs2 hn
theorem le_S {N : Nat} {ss tt : List (Nat × AV)} {oo uu : List (Nm × List AV)} (h1 : coS some some (mkSt ss oo) (mkSt tt uu) (lk ss) tt) (h2 : coSO some some (mkSt ss oo) (mkSt tt uu) (lo oo) uu) : Le N (mkSt ss oo) (mkSt tt uu) :=
  le_of_co (coS_lk h1) (coSO_lo h2)
theorem le_Sn {N : Nat} {ss tt : List (Nat × AV)} {oo uu : List (Nm × List AV)} (l : List (Nm × Nm)) (hl : sepN l) (h1 : coS (lkN l) some (mkSt ss oo) (mkSt tt uu) (lk ss) tt) (h2 : coSO (lkN l) some (mkSt ss oo) (mkSt tt uu) (lo oo) uu) : Le N (mkSt ss oo) (mkSt tt uu) := by
  rintro B a w rfl ⟨E, h⟩
  refine ⟨viewE E (lkN l) some, ?_⟩
  have := h.view (st2 := mkSt tt uu) (φ := lkN l) (ψ := some) (lkN_inj hl) (fun n m k h1 h2 => by cases h1; cases h2; rfl) (fun _ => rfl) (a2 := a) (N2 := B.N) h.defers h.size
    (fun i => ⟨_, h.sl i, coS_lk h1 i⟩) (fun n cs2 hn => by
      obtain ⟨cs, h3, h4⟩ := coSO_lo h2 n cs2 hn
      exact ⟨n, cs, rfl, h3, h4⟩)
  exact this
attribute [simp] coS coSO
section
variable {P : Program} {Γ : Ctx1} {C : Cfg} {B : Base} {b : Nat} {pr : Pr} {w0 w w' : World} {E : Env} {st s1 : St} {a : Act} {s : ByteArray} {pos : Nat} {ops : Array Oper}
noncomputable def ekeep (P : Program) (Γ : Ctx1) (C : Cfg) (N : Nat) (ops : Array Oper) (o : Oper) (L : List Nat) (M : List Nm) (st : St) : Option St :=
  match estep P Γ C N ops st o with
  | some s => keep L M s
  | none => none
theorem ekeep_inv {N : Nat} {o : Oper} {L : List Nat} {M : List Nm} {sf : St} (h : Is (ekeep P Γ C N ops o L M st) sf) : ∃ s2, estep P Γ C N ops st o = some s2 ∧ Le N s2 sf := by
  unfold Is ekeep at h
  split at h
  · rename_i s2 e
    exact ⟨s2, e, keep_le h⟩
  · cases h
attribute [simp] ekeep
/-- What the iterator tells. -/
abbrev nextV (s : ByteArray) (pos : Nat) : AV := .v (.tuple #[.bool true, .int .i64 pos, .int .i32 ((Utf8.decode s pos).1 : Nat)])
abbrev itV (b : Nat) : AV := .v (.pointer (some ⟨b, 0, none⟩))
theorem tri_overK {N : Nat} {id id2 k : Nat} {o0 o1 n0 x0 : Oper} {t : TypeId} {x : Operand} {d d11 : Nat} {body : Code} {Q : Exit → St → Prop} (L0 L1 : List Nat) (M : List Nm) (hΓ : GOk1 P Γ) (g1 : o1.guard = none) (ho1 : o1.op = .range t x) (hd1 : o1.dst = some d) (hN : d < N) (hu : P.underlying t = some .string)
    (g0 : n0.guard = none) (hn0 : n0.op = .next (.tmp d) true) (hd : n0.dst = some d11) (h11 : d11 < N)
    (J : Nat → Nat → Nat → St → Prop) (m : Nat)
    (hstart : ∃ s1, Is (estep P Γ C N #[o0, o1] st o0) s1 ∧ ev s1 x = .v (.string s) ∧ ∀ b, ∃ sk s2, Is (keep L0 M (putSt s1 (some d) (itV b))) sk ∧ Le N sk s2 ∧ J b m 0 s2)
    (hslot : ∀ b n pos st, J b n pos st → st.sl d = itV b)
    (round : ∀ b n pos st, J b n pos st → pos < s.size → ∃ sf, Is (ekeep P Γ C N #[n0, x0] x0 L1 M (putSt st (some d11) (nextV s pos))) sf ∧
      Tri P N sf body (Then (fun s' => ∃ n' s'', n' < n ∧ Le N s' s'' ∧ J b n' (pos + (Utf8.decode s pos).2) s'') (InBlock k Q)))
    (stop : ∀ b n pos st, J b n pos st → ¬ pos < s.size → ∃ sf, Is (ekeep P Γ C N #[n0, x0] x0 L1 M (putSt st (some d11) (.v (.tuple #[.bool false])))) sf ∧ Tri P N sf body (Then (fun _ => False) (InBlock k Q))) :
    Tri P N st (.seq (.region id #[o0, o1] false) (.block k (.loop (.seq (.region id2 #[n0, x0] false) body)))) Q := by
  obtain ⟨s1, he, hx, hs⟩ := hstart
  refine tri_over hΓ g1 ho1 hd1 hN hu g0 hn0 hd h11 he hx J m (fun b => ?_) hslot (fun b n pos st hj hp => ?_) (fun b n pos st hj hp => ?_)
  · obtain ⟨sk, s2, h1, h2, h3⟩ := hs b
    exact ⟨s2, (keep_le h1).trans h2, h3⟩
  · obtain ⟨sf, h1, h2⟩ := round b n pos st hj hp
    obtain ⟨s2, h3, h4⟩ := ekeep_inv h1
    exact ⟨s2, h3, tri_weak h4 h2⟩
  · obtain ⟨sf, h1, h2⟩ := stop b n pos st hj hp
    obtain ⟨s2, h3, h4⟩ := ekeep_inv h1
    exact ⟨s2, h3, tri_weak h4 h2⟩
theorem region1 {id : Nat} {o0 : Oper} {K : Exit → Act → World → Prop} (h : wpStep P #[o0] o0 (fun a w => K .normal a w) K a w) : (Code.region id #[o0] false).wp P K a w := by
  refine wp_region ?_
  have hr : List.range (#[o0] : Array Oper).size = [0] := rfl
  rw [hr]
  unfold wpStep at h
  show (if Region.wanted o0 (yielded #[o0] a.tmps) = true then o0.wp P a w (wpOps P #[o0] K []) K ∨ (o0.asks P a w ∧ LetsOut K) else wpOps P #[o0] K [] (a.put o0.dst undef) w)
  split
  · rename_i hw
    rw [if_pos hw] at h
    exact .inl h
  · rename_i hw
    rw [if_neg hw] at h
    exact h
/-- A constant text is ranged over. -/
theorem tri_overK1 {N : Nat} {id id2 k : Nat} {o1 n0 x0 : Oper} {t : TypeId} {d d11 : Nat} {body : Code} {Q : Exit → St → Prop} (L0 L1 : List Nat) (M : List Nm) (hΓ : GOk1 P Γ) (g1 : o1.guard = none) (ho1 : o1.op = .range t (.const (.string s))) (hd1 : o1.dst = some d) (hN : d < N) (hu : P.underlying t = some .string)
    (g0 : n0.guard = none) (hn0 : n0.op = .next (.tmp d) true) (hd : n0.dst = some d11) (h11 : d11 < N)
    (J : Nat → Nat → Nat → St → Prop) (m : Nat)
    (hstart : ∀ b, ∃ sk s2, Is (keep L0 M (putSt st (some d) (itV b))) sk ∧ Le N sk s2 ∧ J b m 0 s2)
    (hslot : ∀ b n pos st, J b n pos st → st.sl d = itV b)
    (round : ∀ b n pos st, J b n pos st → pos < s.size → ∃ sf, Is (ekeep P Γ C N #[n0, x0] x0 L1 M (putSt st (some d11) (nextV s pos))) sf ∧
      Tri P N sf body (Then (fun s' => ∃ n' s'', n' < n ∧ Le N s' s'' ∧ J b n' (pos + (Utf8.decode s pos).2) s'') (InBlock k Q)))
    (stop : ∀ b n pos st, J b n pos st → ¬ pos < s.size → ∃ sf, Is (ekeep P Γ C N #[n0, x0] x0 L1 M (putSt st (some d11) (.v (.tuple #[.bool false])))) sf ∧ Tri P N sf body (Then (fun _ => False) (InBlock k Q))) :
    Tri P N st (.seq (.region id #[o1] false) (.block k (.loop (.seq (.region id2 #[n0, x0] false) body)))) Q := by
  rintro B a w ⟨rfl, hTb⟩ hr
  refine wp_seq (region1 ?_)
  obtain ⟨E, h1⟩ := hr
  obtain ⟨hit, h2⟩ := h1.newIt s
  unfold wpStep
  rw [if_pos (wanted_none g1 _)]
  refine wp_value (v := .pointer (some ⟨w.heap.size, 0, none⟩)) (w' := w.iter s 0) ?_ ?_
  · unfold execOp
    have hev : a.eval (.const (.string s)) = .string s := rfl
    simp only [ho1, Sem.run_bind, hev, run_range_string w t s hu, Result.andThen_ok, Sem.run_pure]
  · rw [hd1]
    have h3 := h2.putSt (dst := some d) (fun d' hd' => by cases hd'; exact hN) (.v (.pointer (some ⟨w.heap.size, 0, none⟩)))
    obtain ⟨sk, s2, k1, k2, k3⟩ := hstart w.heap.size
    refine wp_block (wp_mono (it_loop (B := B) (C := C) (Q := InBlock k Q) (b := w.heap.size) (pr := E.pr) (w0 := w.alloc (.stringIter s 0)) hΓ g0 hn0 hd h11 J hslot (fun b n pos st hj hp => ?_) (fun b n pos st hj hp => ?_) ⟨rfl, hTb⟩ hit (((keep_le k1).trans k2) _ _ _ rfl ⟨E, h3⟩) k3) ?_)
    · obtain ⟨sf, h1, h2⟩ := round b n pos st hj hp
      obtain ⟨s2, h3, h4⟩ := ekeep_inv h1
      exact ⟨s2, h3, tri_weak h4 h2⟩
    · obtain ⟨sf, h1, h2⟩ := stop b n pos st hj hp
      obtain ⟨s2, h3, h4⟩ := ekeep_inv h1
      exact ⟨s2, h3, tri_weak h4 h2⟩
    · rintro e a' w' ⟨s', hq, hr'⟩
      cases e with
      | exit id' =>
        simp only [InBlock] at hq
        simp only [Exit.inBlock]
        split at hq
        · rename_i he; rw [if_pos he]; exact ⟨s', hq, hr'⟩
        · rename_i he; rw [if_neg he]; exact ⟨s', hq, hr'⟩
      | _ => exact ⟨s', hq, hr'⟩
end
end Caw

/-! Facts for the walks over the digits of sixteen. -/
set_option linter.all false
namespace Caw
open Go Go.RowKit
def hexN (i : Nat) : Nat := (hexD i).toNat
theorem hexs_dec : ∀ i, i < 16 → (hexs[i]?.map UInt8.toNat) = some (hexN i) ∧ hexN i < 128 := by decide
theorem hexs_decode {i : Nat} (h : i < 16) : Utf8.decode ⟨#[48,49,50,51,52,53,54,55,56,57,97,98,99,100,101,102]⟩ i = (hexN i, 1) := by
  obtain ⟨h1, h2⟩ := hexs_dec i h
  have hs : i < hexs.size := h
  have h3 : hexs[i]? = some hexs[i] := getElem?_pos hexs i hs
  rw [h3] at h1
  simp only [Option.map_some, Option.some.injEq] at h1
  have := decode_ascii hexs i hs (by omega)
  rw [h1] at this
  exact this
theorem digZ_hexN : ∀ i, i < 16 → digZ ((hexN i : Nat) : Int) = i := by decide
theorem digZ_none {r : Int} (h : ∀ j, j < 16 → ((hexN j : Nat) : Int) ≠ r) : digZ r = -1 := by
  unfold digZ
  have e : ∀ j, j < 16 → ((hexN j : Nat) : Int) = if j < 10 then 48 + j else 87 + j := by decide
  split
  · rename_i hr
    exfalso
    have := h (r - 48).toNat (by omega)
    rw [e _ (by omega), if_pos (by omega)] at this
    omega
  · split
    · rename_i hr
      exfalso
      have := h (r - 87).toNat (by omega)
      rw [e _ (by omega), if_neg (by omega)] at this
      omega
    · rfl
end Caw
namespace Caw
open Go Go.RowKit
theorem split_mem_len : ∀ (l : List UInt8) (c : UInt8), ∀ x ∈ splitL l c, x.length ≤ l.length
  | [], c, x, h => by simp [splitL] at h; subst h; simp
  | b :: l, c, x, h => by
    obtain ⟨y, r, e⟩ := splitL_ne l c
    have ih := split_mem_len l c
    rw [e] at ih
    by_cases hb : b = c
    · subst hb
      simp [splitL, e] at h
      rcases h with rfl | rfl | h
      · simp
      · have := ih x (by simp); simp; omega
      · have := ih x (by simp [h]); simp; omega
    · simp [splitL, hb, e] at h
      rcases h with rfl | h
      · have := ih y (by simp); simp; omega
      · have := ih x (by simp [h]); simp; omega
theorem split_size (s t : ByteArray) (h : s.size ≤ 100000) : ∀ x ∈ splitZ s t, x.size ≤ 100000 := by
  intro x hx
  obtain ⟨y, hy, rfl⟩ := List.mem_map.1 hx
  have := split_mem_len _ _ y hy
  rw [bl_len] at this
  rw [ofL_size]
  omega
/-- A piece is a byte in sixteens; or it isn't. -/
theorem hok_cases (p : ByteArray) : (hok p = true ∧ (unhexR p).2 = 0 ∧ (unhexR p).1 = [hval p] ∧ (((unhexR p).2 != 0) = false)) ∨ (hok p = false ∧ (((unhexR p).2 != 0) = true ∨ ((((unhexR p).2 != 0) = false) ∧ ((((unhexR p).1.length : Nat) : Int) != 1) = true))) := by
  cases hk : hok p with
  | true =>
    left
    obtain ⟨x, h0, h1, h2, h3⟩ := hok_inv hk
    unfold hval
    rw [h3]
    exact ⟨rfl, rfl, rfl, rfl⟩
  | false =>
    right
    refine ⟨rfl, ?_⟩
    unfold hok at hk
    simp only [Bool.and_eq_false_iff, beq_eq_false_iff_ne, ne_eq] at hk
    by_cases h0 : (unhexR p).2 = 0
    · right
      rcases hk with hk | hk
      · exact absurd h0 hk
      · refine ⟨by simp [h0], ?_⟩
        simp only [bne_iff_ne, ne_eq]
        omega
    · left; simp [h0]
end Caw
namespace Caw
open Go Go.RowKit
/-! ### As the document has it -/
inductive DigC (c : Int) : Prop where
  | lo (h1 : c < 48) (h2 : ¬ 48 ≤ c) (h3 : ¬ 97 ≤ c) (h : digZ c = -1)
  | dec (h1 : 48 ≤ c) (h2 : c ≤ 57) (w1 : IntKind.wrap .u8 (c - 48) = c - 48) (w2 : IntKind.wrap .i64 (c - 48) = c - 48) (h : digZ c = c - 48)
  | mid (h1 : 48 ≤ c) (h2 : ¬ c ≤ 57) (h3 : ¬ 97 ≤ c) (h : digZ c = -1)
  | hex (h1 : 48 ≤ c) (h2 : ¬ c ≤ 57) (h3 : 97 ≤ c) (h4 : c ≤ 102) (w1 : IntKind.wrap .u8 (c - 97) = c - 97) (w2 : IntKind.wrap .i64 (c - 97) = c - 97) (w3 : IntKind.wrap .i64 (c - 97 + 10) = c - 87) (h : digZ c = c - 87)
  | hi (h1 : 48 ≤ c) (h2 : ¬ c ≤ 57) (h3 : 97 ≤ c) (h4 : ¬ c ≤ 102) (h : digZ c = -1)
theorem digC {c : Int} (h0 : 0 ≤ c) (h1 : c < 256) : DigC c := by
  by_cases a : c < 48
  · exact .lo a (by omega) (by omega) (by unfold digZ; rw [if_neg (by omega), if_neg (by omega)])
  by_cases b : c ≤ 57
  · exact .dec (by omega) b (wrap8 (by omega) (by omega)) (wrap_i64 (by omega)) (by unfold digZ; rw [if_pos (by omega)])
  by_cases d : c < 97
  · exact .mid (by omega) b (by omega) (by unfold digZ; rw [if_neg (by omega), if_neg (by omega)])
  by_cases e : c ≤ 102
  · exact .hex (by omega) b (by omega) e (wrap8 (by omega) (by omega)) (wrap_i64 (by omega)) (by rw [wrap_i64 (by omega)]; omega) (by unfold digZ; rw [if_neg (by omega), if_pos (by omega)])
  · exact .hi (by omega) b (by omega) e (by unfold digZ; rw [if_neg (by omega), if_neg (by omega)])
theorem hexs_cut : ∀ n, n < 16 → (hexs.extract n (n + 1)) = ofL [hexD n] := by decide
theorem hex1_facts (c : UInt8) : (∀ h, (⟨#[c]⟩ : ByteArray)[0]'h = c) ∧ (⟨#[c]⟩ : ByteArray).size = 1 ∧ IntKind.wrap .u8 (((c.toNat : Nat) : Int) / 16) = ((c.toNat / 16 : Nat) : Int) ∧ ((c.toNat : Nat) : Int).tmod 16 = ((c.toNat % 16 : Nat) : Int) ∧
    IntKind.wrap .u8 (((c.toNat / 16 : Nat) : Int) + 1) = ((c.toNat / 16 : Nat) : Int) + 1 ∧ IntKind.wrap .u8 (((c.toNat % 16 : Nat) : Int) + 1) = ((c.toNat % 16 : Nat) : Int) + 1 ∧
    ((c.toNat / 16 : Nat) : Int) + 1 ≤ 16 ∧ ((c.toNat % 16 : Nat) : Int) + 1 ≤ 16 ∧
    (⟨#[48,49,50,51,52,53,54,55,56,57,97,98,99,100,101,102]⟩ : ByteArray).extract (c.toNat / 16) (c.toNat / 16 + 1) = ofL [hexD (c.toNat / 16)] ∧ (⟨#[48,49,50,51,52,53,54,55,56,57,97,98,99,100,101,102]⟩ : ByteArray).extract (c.toNat % 16) (c.toNat % 16 + 1) = ofL [hexD (c.toNat % 16)] ∧
    hexZ [((c.toNat : Nat) : Int)] = ofL [hexD (c.toNat / 16)] ++ ofL [hexD (c.toNat % 16)] ∧ (⟨#[48,49,50,51,52,53,54,55,56,57,97,98,99,100,101,102]⟩ : ByteArray).size = 16 := by
  have hc := c.toNat_lt
  obtain ⟨h1, h2, h3, h4⟩ := hex_facts (x := ((c.toNat : Nat) : Int)) (by omega) (by omega)
  simp only [Int.toNat_natCast] at h1 h2 h3 h4
  rw [Int.tdiv_eq_ediv_of_nonneg (by omega)] at h1
  exact ⟨fun _ => rfl, rfl, h1, h2, wrap8 (by omega) (by omega), wrap8 (by omega) (by omega), by omega, by omega, hexs_cut _ h3, hexs_cut _ h4, rfl, rfl⟩
end Caw
namespace Caw
open Go Go.RowKit
@[simp] theorem wr0 : IntKind.wrap .i64 0 = 0 := rfl
@[simp] theorem wr1 : IntKind.wrap .i64 1 = 1 := rfl
@[simp] theorem wr2 : IntKind.wrap .i64 2 = 2 := rfl
@[simp] theorem wr3 : IntKind.wrap .i64 3 = 3 := rfl
@[simp] theorem wr4 : IntKind.wrap .i64 4 = 4 := rfl
@[simp] theorem wr5 : IntKind.wrap .i64 5 = 5 := rfl
@[simp] theorem wr6 : IntKind.wrap .i64 6 = 6 := rfl
@[simp] theorem wr7 : IntKind.wrap .i64 7 = 7 := rfl
@[simp] theorem wr8 : IntKind.wrap .i64 8 = 8 := rfl
@[simp] theorem wr9 : IntKind.wrap .i64 9 = 9 := rfl
@[simp] theorem wr10 : IntKind.wrap .i64 10 = 10 := rfl
@[simp] theorem wr11 : IntKind.wrap .i64 11 = 11 := rfl
@[simp] theorem wr12 : IntKind.wrap .i64 12 = 12 := rfl
@[simp] theorem wr13 : IntKind.wrap .i64 13 = 13 := rfl
@[simp] theorem wr14 : IntKind.wrap .i64 14 = 14 := rfl
@[simp] theorem wr15 : IntKind.wrap .i64 15 = 15 := rfl
@[simp] theorem wr16 : IntKind.wrap .i64 16 = 16 := rfl
@[simp] theorem wr17 : IntKind.wrap .i64 17 = 17 := rfl
@[simp] theorem wr18 : IntKind.wrap .i64 18 = 18 := rfl
theorem mt_app (x : ByteArray) : (⟨#[]⟩ : ByteArray) ++ x = x := by
  apply ByteArray.ext
  simp [ByteArray.data_append]
def unhexD (s : ByteArray) : ByteArray × Int := if hok s = true then (ofL [UInt8.ofNat (hval s).toNat], 0) else (⟨#[]⟩, 7)
theorem two_of {s : ByteArray} (h : s.size = 2) : ∃ c d, s = ⟨#[c, d]⟩ := by
  rw [← bl_len] at h
  obtain ⟨c, d, e⟩ : ∃ c d, bl s = [c, d] := by
    match bl s, h with
    | [c, d], _ => exact ⟨c, d, rfl⟩
  exact ⟨c, d, by rw [← ofL_bl s, e]; rfl⟩
theorem two_facts (c d : UInt8) : (∀ h, (⟨#[c, d]⟩ : ByteArray)[0]'h = c) ∧ (∀ h, (⟨#[c, d]⟩ : ByteArray)[1]'h = d) ∧ (⟨#[c, d]⟩ : ByteArray).size = 2 ∧ ((c.toNat : Nat) : Int) < 256 ∧ ((d.toNat : Nat) : Int) < 256 := by
  have := c.toNat_lt
  have := d.toNat_lt
  exact ⟨fun _ => rfl, fun _ => rfl, rfl, by omega, by omega⟩
theorem unhexD_two (c d : UInt8) : (digZ ((c.toNat : Nat) : Int) < 0 ∧ unhexD ⟨#[c, d]⟩ = (⟨#[]⟩, 7)) ∨ (¬ digZ ((c.toNat : Nat) : Int) < 0 ∧ digZ ((d.toNat : Nat) : Int) < 0 ∧ unhexD ⟨#[c, d]⟩ = (⟨#[]⟩, 7)) ∨
    ∃ x, ¬ digZ ((c.toNat : Nat) : Int) < 0 ∧ ¬ digZ ((d.toNat : Nat) : Int) < 0 ∧ unhexD ⟨#[c, d]⟩ = (ofL [UInt8.ofNat x.toNat], 0) ∧ IntKind.wrap .i64 (16 * digZ ((c.toNat : Nat) : Int)) = 16 * digZ ((c.toNat : Nat) : Int) ∧ IntKind.wrap .i64 (16 * digZ ((c.toNat : Nat) : Int) + digZ ((d.toNat : Nat) : Int)) = x ∧ IntKind.wrap .u8 x = x := by
  have h1 := digZ_lt ((c.toNat : Nat) : Int)
  have h2 := digZ_lt ((d.toNat : Nat) : Int)
  have hu : unhexR ⟨#[c, d]⟩ = _ := (unhexR_eq ⟨#[c, d]⟩).trans (unL_two c d)
  by_cases hc : digZ ((c.toNat : Nat) : Int) < 0
  · left
    rw [if_pos (.inl hc)] at hu
    have : hok ⟨#[c, d]⟩ = false := by unfold hok; rw [hu]; rfl
    exact ⟨hc, by unfold unhexD; rw [this]; rfl⟩
  · by_cases hd : digZ ((d.toNat : Nat) : Int) < 0
    · right; left
      rw [if_pos (.inr hd)] at hu
      have : hok ⟨#[c, d]⟩ = false := by unfold hok; rw [hu]; rfl
      exact ⟨hc, hd, by unfold unhexD; rw [this]; rfl⟩
    · right; right
      rw [if_neg (by omega)] at hu
      have e1 : hok ⟨#[c, d]⟩ = true := by unfold hok; rw [hu]; rfl
      have e2 : hval ⟨#[c, d]⟩ = 16 * digZ ((c.toNat : Nat) : Int) + digZ ((d.toNat : Nat) : Int) := by unfold hval; rw [hu]; rfl
      refine ⟨16 * digZ ((c.toNat : Nat) : Int) + digZ ((d.toNat : Nat) : Int), hc, hd, ?_, wrap_i64 (by omega), wrap_i64 (by omega), wrap8 (by omega) (by omega)⟩
      unfold unhexD
      rw [if_pos e1, e2]
/-! ### As the document writes it -/
def macTxt (a : Mac) : Nat → ByteArray
  | 0 => ⟨#[]⟩
  | 1 => hexZ [a.a]
  | 2 => hexZ [a.a] ++ ⟨#[58]⟩ ++ hexZ [a.b]
  | 3 => hexZ [a.a] ++ ⟨#[58]⟩ ++ hexZ [a.b] ++ ⟨#[58]⟩ ++ hexZ [a.c]
  | 4 => hexZ [a.a] ++ ⟨#[58]⟩ ++ hexZ [a.b] ++ ⟨#[58]⟩ ++ hexZ [a.c] ++ ⟨#[58]⟩ ++ hexZ [a.d]
  | 5 => hexZ [a.a] ++ ⟨#[58]⟩ ++ hexZ [a.b] ++ ⟨#[58]⟩ ++ hexZ [a.c] ++ ⟨#[58]⟩ ++ hexZ [a.d] ++ ⟨#[58]⟩ ++ hexZ [a.e]
  | _ => hexZ [a.a] ++ ⟨#[58]⟩ ++ hexZ [a.b] ++ ⟨#[58]⟩ ++ hexZ [a.c] ++ ⟨#[58]⟩ ++ hexZ [a.d] ++ ⟨#[58]⟩ ++ hexZ [a.e] ++ ⟨#[58]⟩ ++ hexZ [a.f]
theorem macTxt_6 (a : Mac) : macTxt a 6 = writeMAC a := by rw [writeMAC_17]; rfl
end Caw
namespace Caw
open Go Go.RowKit
theorem unhexD_cases (t : ByteArray) : (∃ b : UInt8, unhexD t = (⟨#[b]⟩, 0) ∧ ((b.toNat : Nat) : Int) = byteD t) ∨ (unhexD t = (⟨#[]⟩, 7) ∧ byteD t = 0) := by
  unfold unhexD byteD
  by_cases h : hok t = true
  · left
    obtain ⟨x, h0, h1, h2, h3⟩ := hok_inv h
    have e : hval t = x := by unfold hval; rw [h3]; rfl
    rw [if_pos h, if_pos h, e]
    refine ⟨UInt8.ofNat x.toNat, rfl, ?_⟩
    rw [UInt8.toNat_ofNat']
    omega
  · right
    rw [if_neg h, if_neg h]
    exact ⟨rfl, rfl⟩
theorem byte_back {x : Int} (h : isB1 [x]) : ((UInt8.ofNat x.toNat).toNat : Int) = x ∧ ((x.toNat % 256 : Nat) : Int) = x ∧ (x.toNat : Int) % 256 = x := by
  obtain ⟨h0, h1⟩ := b1_lo h
  refine ⟨?_, by omega, by omega⟩
  rw [UInt8.toNat_ofNat']
  omega
theorem cut_two (s : ByteArray) (h : s.size = 17) : (s.extract 0 2).size = 2 ∧ (s.extract 3 5).size = 2 ∧ (s.extract 6 8).size = 2 ∧ (s.extract 9 11).size = 2 ∧ (s.extract 12 14).size = 2 ∧ (s.extract 15 17).size = 2 := by
  simp [h]
theorem macD_17 {s : ByteArray} (h : s.size = 17) : macD s = macP s 6 := by unfold macD; rw [if_pos h]
theorem macD_no {s : ByteArray} (h : s.size ≠ 17) : macD s = mac0 := by unfold macD; rw [if_neg h]
theorem str_eq (a b : ByteArray) : (a.toList == b.toList) = decide (a = b) := by
  rw [ByteArray.toList_eq, ByteArray.toList_eq]
  by_cases h : a = b
  · subst h; simp
  · have : ¬ a.data.toList = b.data.toList := fun e => h (by cases a; cases b; simp_all)
    rw [decide_eq_false h, beq_eq_false_iff_ne]
    exact this
theorem readMAC_docB (s : ByteArray) : (((writeMAC (macD s)).toList == s.toList) = false ∧ readMAC s = (mac0, 7)) ∨ (((writeMAC (macD s)).toList == s.toList) = true ∧ writeMAC (macD s) = s ∧ readMAC s = (macD s, 0)) := by
  have h := readMAC_doc s
  rw [str_eq]
  by_cases hw : writeMAC (macD s) = s
  · rw [if_pos hw] at h
    exact .inr ⟨by simp [hw], hw, h⟩
  · rw [if_neg hw] at h
    exact .inl ⟨by simp [hw], h⟩
end Caw

/-! Printed by gencells5.py: the structures of the laws of layer addr. -/
namespace Caw
open Go Go.RowKit
set_option linter.unusedSimpArgs false
set_option maxRecDepth 100000

@[ext] structure Nets where
  a : Ip
  b : Ip
  c : Ip
deriving Inhabited
def netsCells (x : Nets) : List AV := [.v (.int .u8 x.a.a), .v (.int .u8 x.a.b), .v (.int .u8 x.a.c), .v (.int .u8 x.a.d), .v (.int .u8 x.b.a), .v (.int .u8 x.b.b), .v (.int .u8 x.b.c), .v (.int .u8 x.b.d), .v (.int .u8 x.c.a), .v (.int .u8 x.c.b), .v (.int .u8 x.c.c), .v (.int .u8 x.c.d)]
noncomputable def pNets : List AV → Option (Nets × List AV) := fun cs => (pIp cs).bind fun (a0, cs) => (pIp cs).bind fun (a1, cs) => (pIp cs).bind fun (a2, cs) => some (⟨a0, a1, a2⟩, cs)
theorem pNets_snd : Snd CoP pNets (fun x => netsCells x) := by
  intro cs x r h0
  unfold pNets at h0
  obtain ⟨a0, r0, q0, h1, e0, c0⟩ := Snd.step pIp_snd h0
  obtain ⟨a1, r1, q1, h2, e1, c1⟩ := Snd.step pIp_snd h1
  obtain ⟨a2, r2, q2, h3, e2, c2⟩ := Snd.step pIp_snd h2
  cases h3
  subst e2 e1 e0
  exact ⟨(q0 ++ (q1 ++ q2)), by simp only [List.append_assoc], (c0.app (c1.app c2))⟩
@[simp] theorem pNets_app (x : Nets) (r : List AV) : pNets (netsCells x ++ r) = some (x, r) := by simp [pNets, netsCells, pIp]
@[simp] theorem pNets_all (x : Nets) : pNets (netsCells x) = some (x, []) := by have := pNets_app x []; rwa [List.append_nil] at this
@[simp] theorem netsCells_len (x : Nets) : (netsCells x).length = 12 := rfl
def encNets (x : Nets) : AV := .v (.agg #[.int .u8 x.a.a, .int .u8 x.a.b, .int .u8 x.a.c, .int .u8 x.a.d, .int .u8 x.b.a, .int .u8 x.b.b, .int .u8 x.b.c, .int .u8 x.b.d, .int .u8 x.c.a, .int .u8 x.c.b, .int .u8 x.c.c, .int .u8 x.c.d])
@[simp high] theorem mkAgg_nets (x : Nets) : mkAgg (netsCells x) = encNets x := rfl
@[simp] theorem flat_encNets (x : Nets) : flat (encNets x) = netsCells x := by simp [encNets, flat, netsCells]
@[simp] theorem whole_encNets (x : Nets) : whole pNets (encNets x) = some x := by simp [pIp, encNets, pNets]
@[simp high] theorem encNets_kT (x : Nets) (s : St) (M : List Nm) : kT s M (encNets x) = encNets x := rfl
@[simp high] theorem encNets_kA (x : Nets) (s : St) (M : List Nm) : kA s M (encNets x) = encNets x := rfl
@[simp high] theorem encNets_kL (x : Nets) (s : St) (M : List Nm) : kL s M (encNets x) = encNets x := rfl
@[simp high] theorem encNets_leafP (x : Nets)  : leafP (encNets x) = true := rfl
@[simp high] theorem encNets_isPure (x : Nets)  : isPure (encNets x) = true := rfl
@[simp high] theorem encNets_leafH (x : Nets)  : leafH (encNets x) = true := rfl
@[simp high] theorem encNets_isHand (x : Nets)  : isHand (encNets x) = true := rfl
@[simp high] theorem encNets_live (x : Nets)  : live (encNets x) = true := rfl
@[simp high] theorem encNets_isRes (x : Nets)  : isRes (encNets x) = true := rfl
@[simp high] theorem encNets_isRef (x : Nets)  : isRef (encNets x) = false := rfl
@[simp high] theorem encNets_strip (x : Nets)  : strip (encNets x) = encNets x := rfl
@[simp high] theorem encNets_stripL (x : Nets)  : stripL (encNets x) = encNets x := rfl
@[simp high] theorem encNets_stripA (x : Nets)  : stripA (encNets x) = encNets x := rfl
@[simp high] theorem encNets_flagL (x : Nets) (s : St) : flagL s (encNets x) = encNets x := rfl
@[simp high] theorem encNets_nameL (x : Nets) (g : Nm → Nat) (m : Nm) : nameL g m (encNets x) = encNets x := rfl
@[simp high] theorem encNets_nameX (x : Nets) (g : Nm → Nat) (d k : Nat) : nameX g d k (encNets x) = encNets x := rfl
@[simp high] theorem encNets_nameR (x : Nets) (g : Nm → Nat) (d : Nat) : nameR g d (encNets x) = encNets x := rfl
@[simp high] theorem encNets_toV (x : Nets)  : toV (encNets x) = some (.agg #[.int .u8 x.a.a, .int .u8 x.a.b, .int .u8 x.a.c, .int .u8 x.a.d, .int .u8 x.b.a, .int .u8 x.b.b, .int .u8 x.b.c, .int .u8 x.b.d, .int .u8 x.c.a, .int .u8 x.c.b, .int .u8 x.c.c, .int .u8 x.c.d]) := rfl
@[simp high] theorem encNets_coA (x : Nets) (φ ψ : Nm → Option Nm) (s s2 : St) (ys : List AV) : CoA φ ψ s s2 (encNets x) (.agg ys) = All2P (CoL φ ψ s s2) (netsCells x) ys := rfl
@[simp high] theorem encNets_co (x : Nets) (φ ψ : Nm → Option Nm) (s s2 : St) (ys : List AV) : Co φ ψ s s2 (encNets x) (.agg ys) = All2P (CoL φ ψ s s2) (netsCells x) ys := rfl
@[simp] theorem encNets_ne_ptr (x : Nets) (n : Nm) (k : Nat) : (encNets x = .ptr n k) = False := eq_false (fun h => by cases h)
@[simp] theorem encNets_ne_tup (x : Nets) (c : List AV) : (encNets x = .tup c) = False := eq_false (fun h => by cases h)
@[simp] theorem encNets_ne_agg (x : Nets) (c : List AV) : (encNets x = .agg c) = False := eq_false (fun h => by cases h)
@[simp] theorem encNets_ne_ref (x : Nets) (c : List AV) : (encNets x = .ref c) = False := eq_false (fun h => by cases h)
@[simp] theorem encNets_ne_rptr (x : Nets) (y : AV) (k : Nat) : (encNets x = .rptr y k) = False := eq_false (fun h => by cases h)
@[simp] theorem ite_encNets (c : Prop) [Decidable c] (x y : Nets) : (if c then encNets x else encNets y) = encNets (if c then x else y) := by split <;> rfl
@[simp] theorem nets_cut_a (x : Nets) : cut (netsCells x) 0 4 = ipCells x.a := rfl
@[simp] theorem nets_put_a (x : Nets) (y : Ip) : splice (netsCells x) 0 (ipCells y) 4 = netsCells { x with a := y } := rfl
@[simp] theorem nets_get_a_a (x : Nets) : (netsCells x)[0]? = some (.v (.int .u8 x.a.a)) := rfl
@[simp] theorem nets_put_a_a (x : Nets) (y : Int) : splice (netsCells x) 0 [.v (.int .u8 y)] 1 = netsCells { x with a := { x.a with a := y } } := rfl
@[simp] theorem nets_get_a_b (x : Nets) : (netsCells x)[1]? = some (.v (.int .u8 x.a.b)) := rfl
@[simp] theorem nets_put_a_b (x : Nets) (y : Int) : splice (netsCells x) 1 [.v (.int .u8 y)] 1 = netsCells { x with a := { x.a with b := y } } := rfl
@[simp] theorem nets_get_a_c (x : Nets) : (netsCells x)[2]? = some (.v (.int .u8 x.a.c)) := rfl
@[simp] theorem nets_put_a_c (x : Nets) (y : Int) : splice (netsCells x) 2 [.v (.int .u8 y)] 1 = netsCells { x with a := { x.a with c := y } } := rfl
@[simp] theorem nets_get_a_d (x : Nets) : (netsCells x)[3]? = some (.v (.int .u8 x.a.d)) := rfl
@[simp] theorem nets_put_a_d (x : Nets) (y : Int) : splice (netsCells x) 3 [.v (.int .u8 y)] 1 = netsCells { x with a := { x.a with d := y } } := rfl
@[simp] theorem nets_cut_b (x : Nets) : cut (netsCells x) 4 4 = ipCells x.b := rfl
@[simp] theorem nets_put_b (x : Nets) (y : Ip) : splice (netsCells x) 4 (ipCells y) 4 = netsCells { x with b := y } := rfl
@[simp] theorem nets_get_b_a (x : Nets) : (netsCells x)[4]? = some (.v (.int .u8 x.b.a)) := rfl
@[simp] theorem nets_put_b_a (x : Nets) (y : Int) : splice (netsCells x) 4 [.v (.int .u8 y)] 1 = netsCells { x with b := { x.b with a := y } } := rfl
@[simp] theorem nets_get_b_b (x : Nets) : (netsCells x)[5]? = some (.v (.int .u8 x.b.b)) := rfl
@[simp] theorem nets_put_b_b (x : Nets) (y : Int) : splice (netsCells x) 5 [.v (.int .u8 y)] 1 = netsCells { x with b := { x.b with b := y } } := rfl
@[simp] theorem nets_get_b_c (x : Nets) : (netsCells x)[6]? = some (.v (.int .u8 x.b.c)) := rfl
@[simp] theorem nets_put_b_c (x : Nets) (y : Int) : splice (netsCells x) 6 [.v (.int .u8 y)] 1 = netsCells { x with b := { x.b with c := y } } := rfl
@[simp] theorem nets_get_b_d (x : Nets) : (netsCells x)[7]? = some (.v (.int .u8 x.b.d)) := rfl
@[simp] theorem nets_put_b_d (x : Nets) (y : Int) : splice (netsCells x) 7 [.v (.int .u8 y)] 1 = netsCells { x with b := { x.b with d := y } } := rfl
@[simp] theorem nets_cut_c (x : Nets) : cut (netsCells x) 8 4 = ipCells x.c := rfl
@[simp] theorem nets_put_c (x : Nets) (y : Ip) : splice (netsCells x) 8 (ipCells y) 4 = netsCells { x with c := y } := rfl
@[simp] theorem nets_get_c_a (x : Nets) : (netsCells x)[8]? = some (.v (.int .u8 x.c.a)) := rfl
@[simp] theorem nets_put_c_a (x : Nets) (y : Int) : splice (netsCells x) 8 [.v (.int .u8 y)] 1 = netsCells { x with c := { x.c with a := y } } := rfl
@[simp] theorem nets_get_c_b (x : Nets) : (netsCells x)[9]? = some (.v (.int .u8 x.c.b)) := rfl
@[simp] theorem nets_put_c_b (x : Nets) (y : Int) : splice (netsCells x) 9 [.v (.int .u8 y)] 1 = netsCells { x with c := { x.c with b := y } } := rfl
@[simp] theorem nets_get_c_c (x : Nets) : (netsCells x)[10]? = some (.v (.int .u8 x.c.c)) := rfl
@[simp] theorem nets_put_c_c (x : Nets) (y : Int) : splice (netsCells x) 10 [.v (.int .u8 y)] 1 = netsCells { x with c := { x.c with c := y } } := rfl
@[simp] theorem nets_get_c_d (x : Nets) : (netsCells x)[11]? = some (.v (.int .u8 x.c.d)) := rfl
@[simp] theorem nets_put_c_d (x : Nets) (y : Int) : splice (netsCells x) 11 [.v (.int .u8 y)] 1 = netsCells { x with c := { x.c with d := y } } := rfl
@[simp] theorem nets_whole (x : Nets) (ys : List AV) : splice (netsCells x) 0 ys 12 = ys := by simp [splice, netsCells]
@[simp] theorem nets_cutall (x : Nets) : cut (netsCells x) 0 12 = netsCells x := rfl
@[simp] theorem netsCells_leafH (x : Nets) : (netsCells x).all leafH = true := rfl
@[simp] theorem netsCells_leafP (x : Nets) : (netsCells x).all leafP = true := rfl
@[simp] theorem netsCells_leafOk (x : Nets) : (netsCells x).all leafOk = true := rfl
@[simp] theorem netsCells_kL (s : St) (M : List Nm) (x : Nets) : (netsCells x).map (kL s M) = netsCells x := rfl
@[simp] theorem netsCells_strip (x : Nets) : (netsCells x).map strip = netsCells x := rfl
@[simp] theorem netsCells_stripL (x : Nets) : (netsCells x).map stripL = netsCells x := rfl
@[simp] theorem netsCells_name (g : Nm → Nat) (d i k : Nat) (x : Nets) : nameC g d i k (netsCells x) = netsCells x := rfl
@[simp] theorem netsCells_flag (s : St) (x : Nets) : (netsCells x).map (flagL s) = netsCells x := rfl
@[simp] theorem netsCells_tags (s : St) (x : Nets) : tagsOf s (netsCells x) = [] := by simp [netsCells, tagsOf]
@[simp] theorem netsCells_co (φ ψ : Nm → Option Nm) (s s2 : St) (x : Nets) : All2P (CoL φ ψ s s2) (netsCells x) (netsCells x) := by simp [netsCells]

@[simp] theorem netsCells_kLr (s : St) (l : List (Nm × Nm)) (M : List Nm) (x : Nets) : (netsCells x).map (kLr s l M) = netsCells x := rfl
@[simp] theorem netsCells_tagsAt (s : St) (n : Nm) (k : Nat) (x : Nets) : tagsAt s n k (netsCells x) = [] := by simp [netsCells, tagsAt]
@[simp] theorem mergeC_nets (b : Bool) (x y : Nets) : mergeC b (netsCells x) (netsCells y) = netsCells (if b = true then x else y) := by cases b <;> rfl
@[simp] theorem ite_netsCells (c : Prop) [Decidable c] (x y : Nets) : (if c then netsCells x else netsCells y) = netsCells (if c then x else y) := by split <;> rfl
theorem netsCells_coE {φ ψ : Nm → Option Nm} {s s2 : St} {x y : Nets} (e : x = y) : All2P (CoL φ ψ s s2) (netsCells x) (netsCells y) := by subst e; exact netsCells_co ..
end Caw

/-! Which addresses begin alike. -/
set_option linter.all false
namespace Caw
open Go Go.RowKit
def u8 (a : Int) : Prop := 0 ≤ a ∧ a < 256
structure Ip8 (x : Ip) : Prop where
  a : u8 x.a
  b : u8 x.b
  c : u8 x.c
  d : u8 x.d
theorem bXor_u8 {a b : Int} (ha : u8 a) (hb : u8 b) : bXor .u8 a b = ((a.toNat ^^^ b.toNat : Nat) : Int) := by
  obtain ⟨m, rfl⟩ : ∃ m : Nat, a = m := ⟨a.toNat, by have := ha.1; omega⟩
  obtain ⟨n, rfl⟩ : ∃ n : Nat, b = n := ⟨b.toNat, by have := hb.1; omega⟩
  have hm : m < 256 := by have := ha.2; omega
  have hn : n < 256 := by have := hb.2; omega
  have hx : m ^^^ n < 2 ^ 8 := Nat.xor_lt_two_pow hm hn
  unfold bXor
  have e1 : (BitVec.ofInt (IntKind.bits .u8) (m : Int) ^^^ BitVec.ofInt (IntKind.bits .u8) (n : Int)).toNat = m ^^^ n := by
    rw [BitVec.toNat_xor]
    simp only [BitVec.ofInt_natCast, BitVec.toNat_ofNat]
    have : IntKind.bits .u8 = 8 := rfl
    rw [this, Nat.mod_eq_of_lt hm, Nat.mod_eq_of_lt hn]
  rw [e1]
  simp only [Int.toNat_natCast]
  generalize m ^^^ n = x at hx
  simp [IntKind.wrap, IntKind.bits, IntKind.signed]
  omega
def same (a b n : Int) : Prop := a.toNat >>> (8 - n).toNat = b.toNat >>> (8 - n).toNat
theorem bad_iff {a b n : Int} (ha : u8 a) (hb : u8 b) (hn : 0 ≤ n) : bad a b n = false ↔ same a b n := by
  unfold bad same
  rw [bXor_u8 ha hb]
  have e1 : min (8 - n).toNat (IntKind.bits .u8) = (8 - n).toNat := by
    have : IntKind.bits .u8 = 8 := rfl
    rw [this]; omega
  rw [e1]
  generalize (8 - n).toNat = m
  have e2 : ((a.toNat ^^^ b.toNat : Nat) : Int).fdiv (2 ^ m) = ((a.toNat ^^^ b.toNat) >>> m : Nat) := by
    rw [Nat.shiftRight_eq_div_pow, Int.fdiv_eq_ediv_of_nonneg _ (by exact Int.le_of_lt (Int.pow_pos (by decide)))]
    simp
  rw [e2, Nat.shiftRight_xor_distrib]
  simp only [bne_eq_false_iff_eq]
  constructor
  · intro h
    have : a.toNat >>> m ^^^ b.toNat >>> m = 0 := by omega
    have h2 := congrArg (· ^^^ (b.toNat >>> m)) this
    simpa [Nat.xor_assoc, Nat.xor_self] using h2
  · intro h
    rw [h, Nat.xor_self]; rfl
theorem same.mono {a b n k : Int} (h : same a b n) (hk : k ≤ n) (hn : n ≤ 8) : same a b k := by
  unfold same at *
  obtain ⟨d, hd⟩ : ∃ d, (8 - k).toNat = (8 - n).toNat + d := ⟨(8 - k).toNat - (8 - n).toNat, by omega⟩
  rw [hd, Nat.shiftRight_add, Nat.shiftRight_add, h]
theorem wN_mono {k n i : Int} (h : k ≤ n) : wN k i ≤ wN n i := by unfold wN maxI minI; (repeat' split) <;> omega
structure Alike (x y : Ip) (n : Int) : Prop where
  a : same x.a y.a (wN n 0)
  b : same x.b y.b (wN n 1)
  c : same x.c y.c (wN n 2)
  d : same x.d y.d (wN n 3)
theorem within_iff {a b : Ip} {n : Int} (ha : Ip8 a) (hb : Ip8 b) (h0 : 0 ≤ n) (h1 : n ≤ 32) : within a b n = true ↔ Alike a b n := by
  unfold within
  have e0 : (decide (n < 0) || decide (32 < n)) = false := by simp; omega
  rw [e0]
  simp only [Bool.not_false, Bool.true_and, Bool.and_eq_true, Bool.not_eq_true', bad_iff ha.a hb.a (wN_le _ _).1, bad_iff ha.b hb.b (wN_le _ _).1, bad_iff ha.c hb.c (wN_le _ _).1, bad_iff ha.d hb.d (wN_le _ _).1]
  constructor
  · rintro ⟨⟨⟨h1, h2⟩, h3⟩, h4⟩; exact ⟨h1, h2, h3, h4⟩
  · rintro ⟨h1, h2, h3, h4⟩; exact ⟨⟨⟨h1, h2⟩, h3⟩, h4⟩
theorem Alike.trans {a b c : Ip} {n : Int} (h : Alike a b n) (k : Alike b c n) : Alike a c n :=
  ⟨Eq.trans h.a k.a, Eq.trans h.b k.b, Eq.trans h.c k.c, Eq.trans h.d k.d⟩
theorem Alike.refl (a : Ip) (n : Int) : Alike a a n := ⟨rfl, rfl, rfl, rfl⟩
theorem Alike.symm {a b : Ip} {n : Int} (h : Alike a b n) : Alike b a n := ⟨Eq.symm h.a, Eq.symm h.b, Eq.symm h.c, Eq.symm h.d⟩
theorem Alike.mono {a b : Ip} {n k : Int} (h : Alike a b n) (hk : k ≤ n) : Alike a b k :=
  ⟨h.a.mono (wN_mono hk) (wN_le _ _).2, h.b.mono (wN_mono hk) (wN_le _ _).2, h.c.mono (wN_mono hk) (wN_le _ _).2, h.d.mono (wN_mono hk) (wN_le _ _).2⟩

/-! ### AddrNets -/
structure Nets8 (l : Nets) : Prop where
  a : Ip8 l.a
  b : Ip8 l.b
  c : Ip8 l.c
theorem wrap_u64 (x : Int) : 0 ≤ IntKind.wrap .u64 x := by
  simp [IntKind.wrap, IntKind.bits, IntKind.signed]
  omega
theorem wrap_u64_small {x : Int} (h : 0 ≤ x ∧ x < 18446744073709551616) : IntKind.wrap .u64 x = x := by
  simp [IntKind.wrap, IntKind.bits, IntKind.signed]
  omega
theorem and7 (x : Int) : 0 ≤ bAnd .i64 x 7 ∧ bAnd .i64 x 7 ≤ 7 := by
  unfold bAnd
  have h : (BitVec.ofInt (IntKind.bits .i64) x &&& BitVec.ofInt (IntKind.bits .i64) 7).toNat ≤ 7 := by
    rw [BitVec.toNat_and]
    exact Nat.le_trans Nat.and_le_right (by decide)
  generalize (BitVec.ofInt (IntKind.bits .i64) x &&& BitVec.ofInt (IntKind.bits .i64) 7).toNat = q at h
  rw [wrap_i64 (by omega)]
  omega
theorem nets_facts (bits more : Int) : ∃ k n : Int, 0 ≤ k ∧ k ≤ 32 ∧ k ≤ n ∧ n ≤ 32 ∧ IntKind.wrap .i64 ((IntKind.wrap .u64 bits).tmod 33) = k ∧ IntKind.wrap .i64 (33 - k) = 33 - k ∧ IntKind.wrap .u64 (33 - k) = 33 - k ∧ ¬ 33 - k = 0 ∧
    IntKind.wrap .i64 (k + IntKind.wrap .i64 ((IntKind.wrap .u64 more).tmod (33 - k))) = n ∧ IntKind.wrap .i64 (33 + bAnd .i64 more 7) = 33 + bAnd .i64 more 7 := by
  have h1 := wrap_u64 bits
  have h2 := wrap_u64 more
  have h3 := and7 more
  generalize IntKind.wrap .u64 bits = x at *
  generalize IntKind.wrap .u64 more = y at *
  have e1 : x.tmod 33 = x % 33 := Int.tmod_eq_emod_of_nonneg h1
  have e2 : ∀ z : Int, y.tmod z = y % z := fun z => Int.tmod_eq_emod_of_nonneg h2
  have b1 : 0 ≤ x % 33 ∧ x % 33 < 33 := ⟨Int.emod_nonneg _ (by decide), Int.emod_lt_of_pos _ (by decide)⟩
  rw [e1, wrap_i64 (by omega)]
  generalize x % 33 = k at b1
  have b2 : 0 ≤ y % (33 - k) ∧ y % (33 - k) < 33 - k := ⟨Int.emod_nonneg _ (by omega), Int.emod_lt_of_pos _ (by omega)⟩
  refine ⟨k, k + y % (33 - k), b1.1, by omega, by omega, by omega, rfl, wrap_i64 (by omega), wrap_u64_small (by omega), by omega, ?_, wrap_i64 (by omega)⟩
  rw [e2, wrap_i64 (x := y % (33 - k)) (by omega), wrap_i64 (by omega)]
theorem nets_self {l : Nets} (h : Nets8 l) {n : Int} (h0 : 0 ≤ n) (h1 : n ≤ 32) : within l.a l.a n = true := (within_iff h.a h.a h0 h1).2 (.refl _ _)
theorem nets_far (l : Nets) (more : Int) : within l.a l.a (33 + bAnd .i64 more 7) = false := within_high (by have := and7 more; omega)
theorem nets_trans {l : Nets} (h : Nets8 l) {k : Int} (h0 : 0 ≤ k) (h1 : k ≤ 32) (e1 : within l.a l.b k = true) (e2 : within l.b l.c k = true) : within l.a l.c k = true :=
  (within_iff h.a h.c h0 h1).2 (((within_iff h.a h.b h0 h1).1 e1).trans ((within_iff h.b h.c h0 h1).1 e2))
theorem nets_mono {l : Nets} (h : Nets8 l) {k n : Int} (h0 : 0 ≤ k) (h1 : k ≤ n) (h2 : n ≤ 32) (e : within l.a l.b n = true) : within l.a l.b k = true :=
  (within_iff h.a h.b h0 (by omega)).2 (((within_iff h.a h.b (by omega) h2).1 e).mono h1)
end Caw

/-! Addresses that come in. -/
set_option linter.all false
namespace Caw
open Go Go.RowKit
section
variable {H : Type} {enc : TypeId × Value → H} {P : Program} {W : World} {base : Nat} {spare : Nat → Bool} {held : Bool}
theorem bounds_u8 {n : Int} (h : (Lit.int .u8 n).wf = true) : u8 n := by
  have e1 : IntKind.min .u8 = 0 := rfl
  have e2 : IntKind.max .u8 = 255 := rfl
  simp [Lit.wf] at h
  unfold u8
  omega
theorem rd_ipL {t e : TypeId} (ht : P.underlying t = some (.array 4 e)) (he : P.underlying e = some (.int .u8)) (hce : P.cellsOf e = 1) (hct : P.cellsOf t = 4) {n : Nat} {l : List Value} {y : DataW H × List MemPlace}
    (h : DataW.trod enc P W base spare held n t l = some y) : ∃ x : Ip, Ip8 x ∧ l = [.int .u8 x.a, .int .u8 x.b, .int .u8 x.c, .int .u8 x.d] := by
  obtain ⟨xs, m, _, _, hl, hxs, hf⟩ := DataW.trod_array ht h
  rw [hct] at hl
  match l, hl with
  | [c0, c1, c2, c3], _ =>
    have g0 := hf 0 (by omega)
    have g1 := hf 1 (by omega)
    have g2 := hf 2 (by omega)
    have g3 := hf 3 (by omega)
    simp only [hce, Nat.zero_mul, Nat.one_mul, Nat.mul_one, List.drop, List.take] at g0 g1 g2 g3
    match xs, hxs with
    | [y0, y1, y2, y3], _ =>
      obtain ⟨z0, hz0, _, b0⟩ := DataW.trod_int he (by simpa using g0)
      obtain ⟨z1, hz1, _, b1⟩ := DataW.trod_int he (by simpa using g1)
      obtain ⟨z2, hz2, _, b2⟩ := DataW.trod_int he (by simpa using g2)
      obtain ⟨z3, hz3, _, b3⟩ := DataW.trod_int he (by simpa using g3)
      simp only [List.cons.injEq, and_true] at hz0 hz1 hz2 hz3
      subst hz0 hz1 hz2 hz3
      exact ⟨⟨z0, z1, z2, z3⟩, ⟨bounds_u8 b0, bounds_u8 b1, bounds_u8 b2, bounds_u8 b3⟩, rfl⟩
theorem rd_ip {t e : TypeId} (ht : P.underlying t = some (.array 4 e)) (he : P.underlying e = some (.int .u8)) (hce : P.cellsOf e = 1) (hct : P.cellsOf t = 4) {n : Nat} {cs : Array Value} {y : DataW H × List MemPlace}
    (h : DataW.trod enc P W base spare held n t cs.toList = some y) : ∃ x : Ip, Ip8 x ∧ PV W (pr0 W) (.agg (ipCells x)) (.agg cs) := by
  obtain ⟨x, h1, h2⟩ := rd_ipL ht he hce hct h
  obtain ⟨l⟩ := cs
  simp only at h2
  subst h2
  refine ⟨x, h1, .agg rfl fun i hi => ?_⟩
  have hi2 : i < 4 := hi
  match i, hi2 with
  | 0, _ => exact .v _
  | 1, _ => exact .v _
  | 2, _ => exact .v _
  | 3, _ => exact .v _
theorem rd_nets {t t1 e : TypeId} (ht0 : P.underlying t = some (.array 3 t1)) (ht : P.underlying t1 = some (.array 4 e)) (he : P.underlying e = some (.int .u8)) (hce : P.cellsOf e = 1) (hct : P.cellsOf t1 = 4) (hct0 : P.cellsOf t = 12) {n : Nat} {cs : Array Value} {y : DataW H × List MemPlace}
    (h : DataW.trod enc P W base spare held n t cs.toList = some y) : ∃ x : Nets, Nets8 x ∧ PV W (pr0 W) (.agg (netsCells x)) (.agg cs) := by
  obtain ⟨xs, m, _, _, hl, hxs, hf⟩ := DataW.trod_array ht0 h
  rw [hct0] at hl
  obtain ⟨l⟩ := cs
  simp only at hl hf
  have g0 := hf 0 (by omega)
  have g1 := hf 1 (by omega)
  have g2 := hf 2 (by omega)
  simp only [hct, Nat.zero_mul, Nat.one_mul, List.drop_zero] at g0 g1 g2
  match xs, hxs with
  | [y0, y1, y2], _ =>
    obtain ⟨x0, q0, e0⟩ := rd_ipL ht he hce hct (by simpa using g0)
    obtain ⟨x1, q1, e1⟩ := rd_ipL ht he hce hct (by simpa using g1)
    obtain ⟨x2, q2, e2⟩ := rd_ipL ht he hce hct (by simpa using g2)
    have hle : l = [.int .u8 x0.a, .int .u8 x0.b, .int .u8 x0.c, .int .u8 x0.d, .int .u8 x1.a, .int .u8 x1.b, .int .u8 x1.c, .int .u8 x1.d, .int .u8 x2.a, .int .u8 x2.b, .int .u8 x2.c, .int .u8 x2.d] := by
      match l, hl with
      | [a0, a1, a2, a3, a4, a5, a6, a7, a8, a9, a10, a11], _ =>
        simp at e0 e1 e2
        simp [e0, e1, e2]
    subst hle
    refine ⟨⟨x0, x1, x2⟩, ⟨q0, q1, q2⟩, .agg rfl fun i hi => ?_⟩
    have hi2 : i < 12 := hi
    match i, hi2 with
    | 0, _ => exact .v _
    | 1, _ => exact .v _
    | 2, _ => exact .v _
    | 3, _ => exact .v _
    | 4, _ => exact .v _
    | 5, _ => exact .v _
    | 6, _ => exact .v _
    | 7, _ => exact .v _
    | 8, _ => exact .v _
    | 9, _ => exact .v _
    | 10, _ => exact .v _
    | 11, _ => exact .v _
end
end Caw

