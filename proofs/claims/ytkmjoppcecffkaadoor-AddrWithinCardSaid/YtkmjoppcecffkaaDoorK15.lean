import Derived.Test.YtkmjoppcecffkaaDoorK13
import Derived.Test.YtkmjoppcecffkaaDoorK14
import Derived.KernelRfl
import Derived.Test.YtkmjoppcecffkaaDoorK8
set_option linter.all false
/-! An address with its port. -/
set_option linter.all false
namespace Caw
open Go Go.RowKit
def ipOf (a : Addr) : Ip := ⟨a.a, a.b, a.c, a.d⟩
def writeA (a : Addr) : ByteArray := writeIP (ipOf a) ++ ⟨#[58]⟩ ++ ofL (dd a.port)
structure LowA (a : Addr) : Prop where
  ip : LowIp (ipOf a)
  p0 : 0 ≤ a.port
  p1 : a.port < 100
theorem writeA_facts {a : Addr} (h : LowA a) : IntKind.wrap .i64 a.port = a.port ∧ (writeIP (ipOf a)).size + (⟨#[58]⟩ : ByteArray).size ≤ 4611686018427387904 ∧ (writeIP (ipOf a)).size + (⟨#[58]⟩ : ByteArray).size + (dd a.port).length ≤ 4611686018427387904 := by
  have h1 := writeIP_len h.ip
  have h2 := dd_len h.p1
  have h3 : (writeIP (ipOf a)).size ≤ 100000 := by simpa [writeIP] using h1
  have h4 := h.p0
  have h5 := h.p1
  have h6 : (⟨#[58]⟩ : ByteArray).size = 1 := rfl
  exact ⟨wrap_i64 (by omega), by omega, by omega⟩
end Caw

-- Printed by genwalk.py.
namespace Go.Proofs.YtkmjoppcecffkaaDoor
open Go Go.RowKit Caw
set_option linter.unusedSimpArgs false
set_option linter.unusedVariables false
set_option maxRecDepth 100000

-- caravel/addr.Write
theorem g14 : GOk1 Tryd.prog (ctxOf [(16, F16), (29, F29)]) := gok_cons spec16 en16 (gok_cons spec29 en29 (gok_nil))
set_option maxHeartbeats 2000000 in
theorem at14 (a : Caw.Addr) (hpre : LowA a) : SpecAt Tryd.prog 14 [.agg (addrCells a)] (.v (.string (writeA a))) none := by
  obtain ⟨w1, w2, w3⟩ := writeA_facts hpre
  obtain ⟨h0, p0, p1⟩ := hpre
  have hp : pIp [AV.v (.int .u8 a.a), .v (.int .u8 a.b), .v (.int .u8 a.c), .v (.int .u8 a.d)] = some (ipOf a, []) := pIp_all (ipOf a)
  refine specAt_of_tri Tryd.func14 rfl (Nat.le_of_ble_eq_true rfl) ?_
  all_goals (repeat' (first
      | (refine tri_condT (b_true (by simp; with_reducible exact IsB.mk)) ?_)
      | (refine tri_condF (b_true (by simp; with_reducible exact IsB.mk)) ?_)
      | (refine tri_skipT ?_)
      | (refine tri_skip ?_)
      | (refine then_to ?_)
      | (refine th_n ?_)
      | (refine in_n ?_)
      | (refine in_e ?_)
      | (refine in_x rfl ?_)
      | (refine th_e ?_)
      | (refine th_r ?_)
      | (refine in_r ?_)
      | (refine tri_ret ?_)
      | (refine tri_exit ?_)
      | (refine tri_block ?_)
      | (refine tri_step (id := 0) (C := ⟨[], [], [(3, (2, 0, 0)), (7, (2, 0, 0))]⟩) [1] [(2, 0, 0)] g14 nodraw ?_; refine ⟨_, by (simp [*, F16, F29, addrCells, dd_fold, flg]; exact Is.mk), ?_⟩)
      | (refine tri_last (id := 0) (C := ⟨[], [], [(3, (2, 0, 0)), (7, (2, 0, 0))]⟩) [1] [(2, 0, 0)] g14 nodraw ?_; refine ⟨_, by (simp [*, F16, F29, addrCells, dd_fold, flg]; exact Is.mk), ?_⟩)
      | (refine tri_step (id := 1) (C := ⟨[], [], [(3, (2, 0, 0)), (7, (2, 0, 0))]⟩) [2] [] g14 (fun _ => ⟨q_mixed, by kernel_rfl⟩) ?_; refine ⟨_, by (simp [*, F16, F29, addrCells, dd_fold, flg]; exact Is.mk), ?_⟩)
      | (refine tri_last (id := 1) (C := ⟨[], [], [(3, (2, 0, 0)), (7, (2, 0, 0))]⟩) [2] [] g14 (fun _ => ⟨q_mixed, by kernel_rfl⟩) ?_; refine ⟨_, by (simp [*, F16, F29, addrCells, dd_fold, flg]; exact Is.mk), ?_⟩)
      | (refine to_mk (by simp; exact IsK.mk))
      | (refine imp_ ?_)
      | ((simp; exact IsK.mk))
      | (refine tri_seq ?_)
      ))
  all_goals (refine post_plainV (P := Tryd.prog) (fn := Tryd.f14) (by simp; exact IsV.mk) rfl ?_)
  all_goals (first | (simp [F16, F29, addrCells, dd_fold, flg, writeA]; done) | (simp [*, F16, F29, addrCells, dd_fold, flg, writeA]; done) | (simp_all [F16, F29, addrCells, dd_fold, flg, writeA]; done) | (simp [F16, F29, addrCells, dd_fold, flg, writeA] <;> (repeat' split) <;> simp_all; done) | (simp [F16, F29, addrCells, dd_fold, flg, writeA] <;> (repeat' split) <;> simp_all [Bool.and_assoc] <;> grind [List.length_eq_zero_iff, sendCells_co, recvCells_co, pieceCells_co, connCells_co, segCells_co, clockCells_co]))
open Classical in
noncomputable def F14 : Fn1
  | [x0] => (whole pAddr x0).bind fun a => if LowA a then some ((.v (.string (writeA a))), none) else none
  | _ => none
theorem spec14 : Spec1 Tryd.prog 14 F14 := spec_of fun ys r o h => by
  unfold F14 at h
  split at h
  case h_2 => cases h
  obtain ⟨a, k0, h1⟩ := bind_some h
  obtain ⟨hpre, hz⟩ := ite_some h1
  cases hz
  exact ⟨_, at14 a hpre, rfl, le_plain ⟨whole_co pAddr_snd k0, trivial⟩ (by simp only [List.all_cons, List.all_nil, Bool.not_false, Bool.and_self, notRefB (whole_co pAddr_snd k0) rfl (by simp)]) rfl⟩
theorem en14 : Enters Tryd.prog 14 := enters_of Tryd.func14 (by kernel_rfl) rfl

end Go.Proofs.YtkmjoppcecffkaaDoor

/-! The text that shows that the functions live. -/
set_option linter.all false
namespace Caw
open Go Go.RowKit
def liveS : ByteArray := ⟨#[49,48,46,48,46,48,46,49,58,56,48]⟩
theorem num_live (s : ByteArray) (most n : Int) (h : numF s most s.size 0 0 = some n) (h2 : s.data.toList.isEmpty = false) : numberR s most = (n, true) := by
  rw [numberR_some h, ByteArray.toList_eq, h2]; rfl
theorem live_split : splitZ ⟨#[49,48,46,48,46,48,46,49]⟩ ⟨#[46]⟩ = [⟨#[49,48]⟩, ⟨#[48]⟩, ⟨#[48]⟩, ⟨#[49]⟩] := by kernel_rfl
theorem live_cut : cutZ ⟨#[49,48,46,48,46,48,46,49,58,56,48]⟩ ⟨#[58]⟩ = (⟨#[49,48,46,48,46,48,46,49]⟩, ⟨#[56,48]⟩, true) := by kernel_rfl
theorem live_n10 : numberR ⟨#[49,48]⟩ 255 = (10, true) := num_live _ _ _ (by kernel_rfl) rfl
theorem live_n0 : numberR ⟨#[48]⟩ 255 = (0, true) := num_live _ _ _ (by kernel_rfl) rfl
theorem live_n1 : numberR ⟨#[49]⟩ 255 = (1, true) := num_live _ _ _ (by kernel_rfl) rfl
theorem live_n80 : numberR ⟨#[56,48]⟩ 65535 = (80, true) := num_live _ _ _ (by kernel_rfl) rfl
theorem live_ip : readIP ⟨#[49,48,46,48,46,48,46,49]⟩ = (⟨10, 0, 0, 1⟩, 0) := by
  rw [readIP_four live_split]
  simp [readF, restOk, nok, ipPart, num8, live_n10, live_n0, live_n1]
  decide
theorem live_read : readA ⟨#[49,48,46,48,46,48,46,49,58,56,48]⟩ = (⟨10, 0, 0, 1, 80⟩, 0) := by
  simp [readA, readOk, live_cut, live_ip, live_n80]
  decide
theorem dd10 : dd 10 = [49, 48] := by
  unfold dd
  rw [Lib.decDigits, dif_neg (by decide), Lib.decDigits, dif_pos (by decide)]; rfl
theorem dd0 : dd 0 = [48] := by
  unfold dd
  rw [Lib.decDigits, dif_pos (by decide)]; rfl
theorem dd1 : dd 1 = [49] := by
  unfold dd
  rw [Lib.decDigits, dif_pos (by decide)]; rfl
theorem dd80 : dd 80 = [56, 48] := by
  unfold dd
  rw [Lib.decDigits, dif_neg (by decide), Lib.decDigits, dif_pos (by decide)]; rfl
theorem live_write : writeA ⟨10, 0, 0, 1, 80⟩ = ⟨#[49,48,46,48,46,48,46,49,58,56,48]⟩ := by
  simp only [writeA, writeIP, ipOf, dd10, dd0, dd1, dd80]
  kernel_rfl
theorem live_low : LowA ⟨10, 0, 0, 1, 80⟩ := ⟨⟨by decide, by decide, by decide, by decide, by decide, by decide, by decide, by decide⟩, by decide, by decide⟩
theorem live_mac : writeMAC macAll = ⟨#[102,102,58,102,102,58,102,102,58,102,102,58,102,102,58,102,102]⟩ := by kernel_rfl
theorem live_size : (⟨#[49,48,46,48,46,48,46,49,58,56,48]⟩ : ByteArray).size ≤ 100000 := by decide
end Caw

-- Printed by genwalk.py.
namespace Go.Proofs.YtkmjoppcecffkaaDoor
open Go Go.RowKit Caw
set_option linter.unusedSimpArgs false
set_option linter.unusedVariables false
set_option maxRecDepth 100000

-- caravel/caravellaw04.lives
theorem g9 : GOk1 Tryd.prog (ctxOf [(10, F10), (14, F14), (24, F24), (22, F22)]) := gok_cons spec10 en10 (gok_cons spec14 en14 (gok_cons spec24 en24 (gok_cons spec22 en22 (gok_nil))))
set_option maxHeartbeats 2000000 in
theorem at9 : SpecAt Tryd.prog 9 [] (.v (.bool true)) none := by
  have l1 := live_read
  have l2 := live_write
  have l3 := live_mac
  have l4 := live_low
  have l5 := live_size
  have l6 := macAll_ok
  refine specAt_of_tri Tryd.func9 rfl (Nat.le_of_ble_eq_true rfl) ?_
  all_goals (repeat' (first
      | (refine tri_condT (b_true (by simp; with_reducible exact IsB.mk)) ?_)
      | (refine tri_condF (b_true (by simp; with_reducible exact IsB.mk)) ?_)
      | (refine tri_skipT ?_)
      | (refine tri_skip ?_)
      | (refine then_to ?_)
      | (refine th_n ?_)
      | (refine in_n ?_)
      | (refine in_e ?_)
      | (refine in_x rfl ?_)
      | (refine th_e ?_)
      | (refine th_r ?_)
      | (refine in_r ?_)
      | (refine tri_ret ?_)
      | (refine tri_exit ?_)
      | (refine tri_block ?_)
      | (refine tri_step (id := 0) (C := ⟨[], [], []⟩) [] [] g9 nodraw ?_; refine ⟨_, by (simp [*, F10, F14, F24, F22, flg]; exact Is.mk), ?_⟩)
      | (refine tri_last (id := 0) (C := ⟨[], [], []⟩) [] [] g9 nodraw ?_; refine ⟨_, by (simp [*, F10, F14, F24, F22, flg]; exact Is.mk), ?_⟩)
      | (refine tri_step (id := 1) (C := ⟨[], [], []⟩) [1, 2] [(2, 0, 0)] g9 nodraw ?_; refine ⟨_, by (simp [*, F10, F14, F24, F22, flg]; exact Is.mk), ?_⟩)
      | (refine tri_last (id := 1) (C := ⟨[], [], []⟩) [1, 2] [(2, 0, 0)] g9 nodraw ?_; refine ⟨_, by (simp [*, F10, F14, F24, F22, flg]; exact Is.mk), ?_⟩)
      | (refine tri_stepG (id := 2) (C := ⟨[], [], []⟩) [0] [] g9 nodraw ?_; refine ⟨_, (run_split 0 3 9 (by simp [*, F10, F14, F24, F22, flg]; exact Is.mk) (by simp; exact IsB.mk) (run_split 3 5 14 (by simp [*, F10, F14, F24, F22, flg]; exact Is.mk) (by simp; exact IsB.mk) (run_split 8 5 19 (by simp [*, F10, F14, F24, F22, flg]; exact Is.mk) (by simp; exact IsB.mk) (by simp [*, F10, F14, F24, F22, flg]; exact IsK.mk) (by simp [*, F10, F14, F24, F22, flg]; exact IsK.mk) (by simp; exact IsK.mk)) (run_split 8 5 19 (by simp [*, F10, F14, F24, F22, flg]; exact Is.mk) (by simp; exact IsB.mk) (by simp [*, F10, F14, F24, F22, flg]; exact IsK.mk) (by simp [*, F10, F14, F24, F22, flg]; exact IsK.mk) (by simp; exact IsK.mk)) (by simp; exact IsK.mk)) (run_split 3 5 14 (by simp [*, F10, F14, F24, F22, flg]; exact Is.mk) (by simp; exact IsB.mk) (run_split 8 5 19 (by simp [*, F10, F14, F24, F22, flg]; exact Is.mk) (by simp; exact IsB.mk) (by simp [*, F10, F14, F24, F22, flg]; exact IsK.mk) (by simp [*, F10, F14, F24, F22, flg]; exact IsK.mk) (by simp; exact IsK.mk)) (run_split 8 5 19 (by simp [*, F10, F14, F24, F22, flg]; exact Is.mk) (by simp; exact IsB.mk) (by simp [*, F10, F14, F24, F22, flg]; exact IsK.mk) (by simp [*, F10, F14, F24, F22, flg]; exact IsK.mk) (by simp; exact IsK.mk)) (by simp; exact IsK.mk)) (by simp; exact IsK.mk)), ?_⟩)
      | (refine tri_lastG (id := 2) (C := ⟨[], [], []⟩) [0] [] g9 nodraw ?_; refine ⟨_, (run_split 0 3 9 (by simp [*, F10, F14, F24, F22, flg]; exact Is.mk) (by simp; exact IsB.mk) (run_split 3 5 14 (by simp [*, F10, F14, F24, F22, flg]; exact Is.mk) (by simp; exact IsB.mk) (run_split 8 5 19 (by simp [*, F10, F14, F24, F22, flg]; exact Is.mk) (by simp; exact IsB.mk) (by simp [*, F10, F14, F24, F22, flg]; exact IsK.mk) (by simp [*, F10, F14, F24, F22, flg]; exact IsK.mk) (by simp; exact IsK.mk)) (run_split 8 5 19 (by simp [*, F10, F14, F24, F22, flg]; exact Is.mk) (by simp; exact IsB.mk) (by simp [*, F10, F14, F24, F22, flg]; exact IsK.mk) (by simp [*, F10, F14, F24, F22, flg]; exact IsK.mk) (by simp; exact IsK.mk)) (by simp; exact IsK.mk)) (run_split 3 5 14 (by simp [*, F10, F14, F24, F22, flg]; exact Is.mk) (by simp; exact IsB.mk) (run_split 8 5 19 (by simp [*, F10, F14, F24, F22, flg]; exact Is.mk) (by simp; exact IsB.mk) (by simp [*, F10, F14, F24, F22, flg]; exact IsK.mk) (by simp [*, F10, F14, F24, F22, flg]; exact IsK.mk) (by simp; exact IsK.mk)) (run_split 8 5 19 (by simp [*, F10, F14, F24, F22, flg]; exact Is.mk) (by simp; exact IsB.mk) (by simp [*, F10, F14, F24, F22, flg]; exact IsK.mk) (by simp [*, F10, F14, F24, F22, flg]; exact IsK.mk) (by simp; exact IsK.mk)) (by simp; exact IsK.mk)) (by simp; exact IsK.mk)), ?_⟩)
      | (refine to_mk (by simp; exact IsK.mk))
      | (refine imp_ ?_)
      | ((simp; exact IsK.mk))
      | (refine tri_seq ?_)
      ))
  all_goals (refine post_plainV (P := Tryd.prog) (fn := Tryd.f9) (by simp; exact IsV.mk) rfl ?_)
  all_goals (first | (simp [F10, F14, F24, F22, flg]; done) | (simp [*, F10, F14, F24, F22, flg]; done) | (simp_all [F10, F14, F24, F22, flg]; done) | (simp [F10, F14, F24, F22, flg] <;> (repeat' split) <;> simp_all; done) | (simp [F10, F14, F24, F22, flg] <;> (repeat' split) <;> simp_all [Bool.and_assoc] <;> grind [List.length_eq_zero_iff, sendCells_co, recvCells_co, pieceCells_co, connCells_co, segCells_co, clockCells_co]))
noncomputable def F9 : Fn1
  | [] => some ((.v (.bool true)), none)
  | _ => none
theorem spec9 : Spec1 Tryd.prog 9 F9 := spec_of fun ys r o h => by
  unfold F9 at h
  split at h
  case h_2 => cases h
  cases h
  exact ⟨_, at9, rfl, le_plain trivial (by simp only [List.all_cons, List.all_nil, Bool.not_false, Bool.and_self]) rfl⟩
theorem en9 : Enters Tryd.prog 9 := enters_of Tryd.func9 (by kernel_rfl) rfl

end Go.Proofs.YtkmjoppcecffkaaDoor

/-! Printed by gencells5.py: the structures of the laws of layer addr. -/
namespace Caw
open Go Go.RowKit
set_option linter.unusedSimpArgs false
set_option maxRecDepth 100000

@[ext] structure Nets where
  a : Ip
  b : Ip
  c : Ip
deriving Inhabited
def netsCells (x : Nets) : List AV := [.v (.int .u8 x.a.a), .v (.int .u8 x.a.b), .v (.int .u8 x.a.c), .v (.int .u8 x.a.d), .v (.int .u8 x.b.a), .v (.int .u8 x.b.b), .v (.int .u8 x.b.c), .v (.int .u8 x.b.d), .v (.int .u8 x.c.a), .v (.int .u8 x.c.b), .v (.int .u8 x.c.c), .v (.int .u8 x.c.d)]
noncomputable def pNets : List AV → Option (Nets × List AV) := fun cs => (pIp cs).bind fun (a0, cs) => (pIp cs).bind fun (a1, cs) => (pIp cs).bind fun (a2, cs) => some (⟨a0, a1, a2⟩, cs)
theorem pNets_snd : Snd CoP pNets (fun x => netsCells x) := by
  intro cs x r h0
  unfold pNets at h0
  obtain ⟨a0, r0, q0, h1, e0, c0⟩ := Snd.step pIp_snd h0
  obtain ⟨a1, r1, q1, h2, e1, c1⟩ := Snd.step pIp_snd h1
  obtain ⟨a2, r2, q2, h3, e2, c2⟩ := Snd.step pIp_snd h2
  cases h3
  subst e2 e1 e0
  exact ⟨(q0 ++ (q1 ++ q2)), by simp only [List.append_assoc], (c0.app (c1.app c2))⟩
@[simp] theorem pNets_app (x : Nets) (r : List AV) : pNets (netsCells x ++ r) = some (x, r) := by simp [pNets, netsCells, pIp]
@[simp] theorem pNets_all (x : Nets) : pNets (netsCells x) = some (x, []) := by have := pNets_app x []; rwa [List.append_nil] at this
@[simp] theorem netsCells_len (x : Nets) : (netsCells x).length = 12 := rfl
def encNets (x : Nets) : AV := .v (.agg #[.int .u8 x.a.a, .int .u8 x.a.b, .int .u8 x.a.c, .int .u8 x.a.d, .int .u8 x.b.a, .int .u8 x.b.b, .int .u8 x.b.c, .int .u8 x.b.d, .int .u8 x.c.a, .int .u8 x.c.b, .int .u8 x.c.c, .int .u8 x.c.d])
@[simp high] theorem mkAgg_nets (x : Nets) : mkAgg (netsCells x) = encNets x := rfl
@[simp] theorem flat_encNets (x : Nets) : flat (encNets x) = netsCells x := by simp [encNets, flat, netsCells]
@[simp] theorem whole_encNets (x : Nets) : whole pNets (encNets x) = some x := by simp [pIp, encNets, pNets]
@[simp high] theorem encNets_kT (x : Nets) (s : St) (M : List Nm) : kT s M (encNets x) = encNets x := rfl
@[simp high] theorem encNets_kA (x : Nets) (s : St) (M : List Nm) : kA s M (encNets x) = encNets x := rfl
@[simp high] theorem encNets_kL (x : Nets) (s : St) (M : List Nm) : kL s M (encNets x) = encNets x := rfl
@[simp high] theorem encNets_leafP (x : Nets)  : leafP (encNets x) = true := rfl
@[simp high] theorem encNets_isPure (x : Nets)  : isPure (encNets x) = true := rfl
@[simp high] theorem encNets_leafH (x : Nets)  : leafH (encNets x) = true := rfl
@[simp high] theorem encNets_isHand (x : Nets)  : isHand (encNets x) = true := rfl
@[simp high] theorem encNets_live (x : Nets)  : live (encNets x) = true := rfl
@[simp high] theorem encNets_isRes (x : Nets)  : isRes (encNets x) = true := rfl
@[simp high] theorem encNets_isRef (x : Nets)  : isRef (encNets x) = false := rfl
@[simp high] theorem encNets_strip (x : Nets)  : strip (encNets x) = encNets x := rfl
@[simp high] theorem encNets_stripL (x : Nets)  : stripL (encNets x) = encNets x := rfl
@[simp high] theorem encNets_stripA (x : Nets)  : stripA (encNets x) = encNets x := rfl
@[simp high] theorem encNets_flagL (x : Nets) (s : St) : flagL s (encNets x) = encNets x := rfl
@[simp high] theorem encNets_nameL (x : Nets) (g : Nm → Nat) (m : Nm) : nameL g m (encNets x) = encNets x := rfl
@[simp high] theorem encNets_nameX (x : Nets) (g : Nm → Nat) (d k : Nat) : nameX g d k (encNets x) = encNets x := rfl
@[simp high] theorem encNets_nameR (x : Nets) (g : Nm → Nat) (d : Nat) : nameR g d (encNets x) = encNets x := rfl
@[simp high] theorem encNets_toV (x : Nets)  : toV (encNets x) = some (.agg #[.int .u8 x.a.a, .int .u8 x.a.b, .int .u8 x.a.c, .int .u8 x.a.d, .int .u8 x.b.a, .int .u8 x.b.b, .int .u8 x.b.c, .int .u8 x.b.d, .int .u8 x.c.a, .int .u8 x.c.b, .int .u8 x.c.c, .int .u8 x.c.d]) := rfl
@[simp high] theorem encNets_coA (x : Nets) (φ ψ : Nm → Option Nm) (s s2 : St) (ys : List AV) : CoA φ ψ s s2 (encNets x) (.agg ys) = All2P (CoL φ ψ s s2) (netsCells x) ys := rfl
@[simp high] theorem encNets_co (x : Nets) (φ ψ : Nm → Option Nm) (s s2 : St) (ys : List AV) : Co φ ψ s s2 (encNets x) (.agg ys) = All2P (CoL φ ψ s s2) (netsCells x) ys := rfl
@[simp] theorem encNets_ne_ptr (x : Nets) (n : Nm) (k : Nat) : (encNets x = .ptr n k) = False := eq_false (fun h => by cases h)
@[simp] theorem encNets_ne_tup (x : Nets) (c : List AV) : (encNets x = .tup c) = False := eq_false (fun h => by cases h)
@[simp] theorem encNets_ne_agg (x : Nets) (c : List AV) : (encNets x = .agg c) = False := eq_false (fun h => by cases h)
@[simp] theorem encNets_ne_ref (x : Nets) (c : List AV) : (encNets x = .ref c) = False := eq_false (fun h => by cases h)
@[simp] theorem encNets_ne_rptr (x : Nets) (y : AV) (k : Nat) : (encNets x = .rptr y k) = False := eq_false (fun h => by cases h)
@[simp] theorem ite_encNets (c : Prop) [Decidable c] (x y : Nets) : (if c then encNets x else encNets y) = encNets (if c then x else y) := by split <;> rfl
@[simp] theorem nets_cut_a (x : Nets) : cut (netsCells x) 0 4 = ipCells x.a := rfl
@[simp] theorem nets_put_a (x : Nets) (y : Ip) : splice (netsCells x) 0 (ipCells y) 4 = netsCells { x with a := y } := rfl
@[simp] theorem nets_get_a_a (x : Nets) : (netsCells x)[0]? = some (.v (.int .u8 x.a.a)) := rfl
@[simp] theorem nets_put_a_a (x : Nets) (y : Int) : splice (netsCells x) 0 [.v (.int .u8 y)] 1 = netsCells { x with a := { x.a with a := y } } := rfl
@[simp] theorem nets_get_a_b (x : Nets) : (netsCells x)[1]? = some (.v (.int .u8 x.a.b)) := rfl
@[simp] theorem nets_put_a_b (x : Nets) (y : Int) : splice (netsCells x) 1 [.v (.int .u8 y)] 1 = netsCells { x with a := { x.a with b := y } } := rfl
@[simp] theorem nets_get_a_c (x : Nets) : (netsCells x)[2]? = some (.v (.int .u8 x.a.c)) := rfl
@[simp] theorem nets_put_a_c (x : Nets) (y : Int) : splice (netsCells x) 2 [.v (.int .u8 y)] 1 = netsCells { x with a := { x.a with c := y } } := rfl
@[simp] theorem nets_get_a_d (x : Nets) : (netsCells x)[3]? = some (.v (.int .u8 x.a.d)) := rfl
@[simp] theorem nets_put_a_d (x : Nets) (y : Int) : splice (netsCells x) 3 [.v (.int .u8 y)] 1 = netsCells { x with a := { x.a with d := y } } := rfl
@[simp] theorem nets_cut_b (x : Nets) : cut (netsCells x) 4 4 = ipCells x.b := rfl
@[simp] theorem nets_put_b (x : Nets) (y : Ip) : splice (netsCells x) 4 (ipCells y) 4 = netsCells { x with b := y } := rfl
@[simp] theorem nets_get_b_a (x : Nets) : (netsCells x)[4]? = some (.v (.int .u8 x.b.a)) := rfl
@[simp] theorem nets_put_b_a (x : Nets) (y : Int) : splice (netsCells x) 4 [.v (.int .u8 y)] 1 = netsCells { x with b := { x.b with a := y } } := rfl
@[simp] theorem nets_get_b_b (x : Nets) : (netsCells x)[5]? = some (.v (.int .u8 x.b.b)) := rfl
@[simp] theorem nets_put_b_b (x : Nets) (y : Int) : splice (netsCells x) 5 [.v (.int .u8 y)] 1 = netsCells { x with b := { x.b with b := y } } := rfl
@[simp] theorem nets_get_b_c (x : Nets) : (netsCells x)[6]? = some (.v (.int .u8 x.b.c)) := rfl
@[simp] theorem nets_put_b_c (x : Nets) (y : Int) : splice (netsCells x) 6 [.v (.int .u8 y)] 1 = netsCells { x with b := { x.b with c := y } } := rfl
@[simp] theorem nets_get_b_d (x : Nets) : (netsCells x)[7]? = some (.v (.int .u8 x.b.d)) := rfl
@[simp] theorem nets_put_b_d (x : Nets) (y : Int) : splice (netsCells x) 7 [.v (.int .u8 y)] 1 = netsCells { x with b := { x.b with d := y } } := rfl
@[simp] theorem nets_cut_c (x : Nets) : cut (netsCells x) 8 4 = ipCells x.c := rfl
@[simp] theorem nets_put_c (x : Nets) (y : Ip) : splice (netsCells x) 8 (ipCells y) 4 = netsCells { x with c := y } := rfl
@[simp] theorem nets_get_c_a (x : Nets) : (netsCells x)[8]? = some (.v (.int .u8 x.c.a)) := rfl
@[simp] theorem nets_put_c_a (x : Nets) (y : Int) : splice (netsCells x) 8 [.v (.int .u8 y)] 1 = netsCells { x with c := { x.c with a := y } } := rfl
@[simp] theorem nets_get_c_b (x : Nets) : (netsCells x)[9]? = some (.v (.int .u8 x.c.b)) := rfl
@[simp] theorem nets_put_c_b (x : Nets) (y : Int) : splice (netsCells x) 9 [.v (.int .u8 y)] 1 = netsCells { x with c := { x.c with b := y } } := rfl
@[simp] theorem nets_get_c_c (x : Nets) : (netsCells x)[10]? = some (.v (.int .u8 x.c.c)) := rfl
@[simp] theorem nets_put_c_c (x : Nets) (y : Int) : splice (netsCells x) 10 [.v (.int .u8 y)] 1 = netsCells { x with c := { x.c with c := y } } := rfl
@[simp] theorem nets_get_c_d (x : Nets) : (netsCells x)[11]? = some (.v (.int .u8 x.c.d)) := rfl
@[simp] theorem nets_put_c_d (x : Nets) (y : Int) : splice (netsCells x) 11 [.v (.int .u8 y)] 1 = netsCells { x with c := { x.c with d := y } } := rfl
@[simp] theorem nets_whole (x : Nets) (ys : List AV) : splice (netsCells x) 0 ys 12 = ys := by simp [splice, netsCells]
@[simp] theorem nets_cutall (x : Nets) : cut (netsCells x) 0 12 = netsCells x := rfl
@[simp] theorem netsCells_leafH (x : Nets) : (netsCells x).all leafH = true := rfl
@[simp] theorem netsCells_leafP (x : Nets) : (netsCells x).all leafP = true := rfl
@[simp] theorem netsCells_leafOk (x : Nets) : (netsCells x).all leafOk = true := rfl
@[simp] theorem netsCells_kL (s : St) (M : List Nm) (x : Nets) : (netsCells x).map (kL s M) = netsCells x := rfl
@[simp] theorem netsCells_strip (x : Nets) : (netsCells x).map strip = netsCells x := rfl
@[simp] theorem netsCells_stripL (x : Nets) : (netsCells x).map stripL = netsCells x := rfl
@[simp] theorem netsCells_name (g : Nm → Nat) (d i k : Nat) (x : Nets) : nameC g d i k (netsCells x) = netsCells x := rfl
@[simp] theorem netsCells_flag (s : St) (x : Nets) : (netsCells x).map (flagL s) = netsCells x := rfl
@[simp] theorem netsCells_tags (s : St) (x : Nets) : tagsOf s (netsCells x) = [] := by simp [netsCells, tagsOf]
@[simp] theorem netsCells_co (φ ψ : Nm → Option Nm) (s s2 : St) (x : Nets) : All2P (CoL φ ψ s s2) (netsCells x) (netsCells x) := by simp [netsCells]

@[simp] theorem netsCells_kLr (s : St) (l : List (Nm × Nm)) (M : List Nm) (x : Nets) : (netsCells x).map (kLr s l M) = netsCells x := rfl
@[simp] theorem netsCells_tagsAt (s : St) (n : Nm) (k : Nat) (x : Nets) : tagsAt s n k (netsCells x) = [] := by simp [netsCells, tagsAt]
@[simp] theorem mergeC_nets (b : Bool) (x y : Nets) : mergeC b (netsCells x) (netsCells y) = netsCells (if b = true then x else y) := by cases b <;> rfl
@[simp] theorem ite_netsCells (c : Prop) [Decidable c] (x y : Nets) : (if c then netsCells x else netsCells y) = netsCells (if c then x else y) := by split <;> rfl
theorem netsCells_coE {φ ψ : Nm → Option Nm} {s s2 : St} {x y : Nets} (e : x = y) : All2P (CoL φ ψ s s2) (netsCells x) (netsCells y) := by subst e; exact netsCells_co ..
end Caw

/-! Which addresses begin alike. -/
set_option linter.all false
namespace Caw
open Go Go.RowKit
def u8 (a : Int) : Prop := 0 ≤ a ∧ a < 256
structure Ip8 (x : Ip) : Prop where
  a : u8 x.a
  b : u8 x.b
  c : u8 x.c
  d : u8 x.d
theorem bXor_u8 {a b : Int} (ha : u8 a) (hb : u8 b) : bXor .u8 a b = ((a.toNat ^^^ b.toNat : Nat) : Int) := by
  obtain ⟨m, rfl⟩ : ∃ m : Nat, a = m := ⟨a.toNat, by have := ha.1; omega⟩
  obtain ⟨n, rfl⟩ : ∃ n : Nat, b = n := ⟨b.toNat, by have := hb.1; omega⟩
  have hm : m < 256 := by have := ha.2; omega
  have hn : n < 256 := by have := hb.2; omega
  have hx : m ^^^ n < 2 ^ 8 := Nat.xor_lt_two_pow hm hn
  unfold bXor
  have e1 : (BitVec.ofInt (IntKind.bits .u8) (m : Int) ^^^ BitVec.ofInt (IntKind.bits .u8) (n : Int)).toNat = m ^^^ n := by
    rw [BitVec.toNat_xor]
    simp only [BitVec.ofInt_natCast, BitVec.toNat_ofNat]
    have : IntKind.bits .u8 = 8 := rfl
    rw [this, Nat.mod_eq_of_lt hm, Nat.mod_eq_of_lt hn]
  rw [e1]
  simp only [Int.toNat_natCast]
  generalize m ^^^ n = x at hx
  simp [IntKind.wrap, IntKind.bits, IntKind.signed]
  omega
def same (a b n : Int) : Prop := a.toNat >>> (8 - n).toNat = b.toNat >>> (8 - n).toNat
theorem bad_iff {a b n : Int} (ha : u8 a) (hb : u8 b) (hn : 0 ≤ n) : bad a b n = false ↔ same a b n := by
  unfold bad same
  rw [bXor_u8 ha hb]
  have e1 : min (8 - n).toNat (IntKind.bits .u8) = (8 - n).toNat := by
    have : IntKind.bits .u8 = 8 := rfl
    rw [this]; omega
  rw [e1]
  generalize (8 - n).toNat = m
  have e2 : ((a.toNat ^^^ b.toNat : Nat) : Int).fdiv (2 ^ m) = ((a.toNat ^^^ b.toNat) >>> m : Nat) := by
    rw [Nat.shiftRight_eq_div_pow, Int.fdiv_eq_ediv_of_nonneg _ (by exact Int.le_of_lt (Int.pow_pos (by decide)))]
    simp
  rw [e2, Nat.shiftRight_xor_distrib]
  simp only [bne_eq_false_iff_eq]
  constructor
  · intro h
    have : a.toNat >>> m ^^^ b.toNat >>> m = 0 := by omega
    have h2 := congrArg (· ^^^ (b.toNat >>> m)) this
    simpa [Nat.xor_assoc, Nat.xor_self] using h2
  · intro h
    rw [h, Nat.xor_self]; rfl
theorem same.mono {a b n k : Int} (h : same a b n) (hk : k ≤ n) (hn : n ≤ 8) : same a b k := by
  unfold same at *
  obtain ⟨d, hd⟩ : ∃ d, (8 - k).toNat = (8 - n).toNat + d := ⟨(8 - k).toNat - (8 - n).toNat, by omega⟩
  rw [hd, Nat.shiftRight_add, Nat.shiftRight_add, h]
theorem wN_mono {k n i : Int} (h : k ≤ n) : wN k i ≤ wN n i := by unfold wN maxI minI; (repeat' split) <;> omega
structure Alike (x y : Ip) (n : Int) : Prop where
  a : same x.a y.a (wN n 0)
  b : same x.b y.b (wN n 1)
  c : same x.c y.c (wN n 2)
  d : same x.d y.d (wN n 3)
theorem within_iff {a b : Ip} {n : Int} (ha : Ip8 a) (hb : Ip8 b) (h0 : 0 ≤ n) (h1 : n ≤ 32) : within a b n = true ↔ Alike a b n := by
  unfold within
  have e0 : (decide (n < 0) || decide (32 < n)) = false := by simp; omega
  rw [e0]
  simp only [Bool.not_false, Bool.true_and, Bool.and_eq_true, Bool.not_eq_true', bad_iff ha.a hb.a (wN_le _ _).1, bad_iff ha.b hb.b (wN_le _ _).1, bad_iff ha.c hb.c (wN_le _ _).1, bad_iff ha.d hb.d (wN_le _ _).1]
  constructor
  · rintro ⟨⟨⟨h1, h2⟩, h3⟩, h4⟩; exact ⟨h1, h2, h3, h4⟩
  · rintro ⟨h1, h2, h3, h4⟩; exact ⟨⟨⟨h1, h2⟩, h3⟩, h4⟩
theorem Alike.trans {a b c : Ip} {n : Int} (h : Alike a b n) (k : Alike b c n) : Alike a c n :=
  ⟨Eq.trans h.a k.a, Eq.trans h.b k.b, Eq.trans h.c k.c, Eq.trans h.d k.d⟩
theorem Alike.refl (a : Ip) (n : Int) : Alike a a n := ⟨rfl, rfl, rfl, rfl⟩
theorem Alike.symm {a b : Ip} {n : Int} (h : Alike a b n) : Alike b a n := ⟨Eq.symm h.a, Eq.symm h.b, Eq.symm h.c, Eq.symm h.d⟩
theorem Alike.mono {a b : Ip} {n k : Int} (h : Alike a b n) (hk : k ≤ n) : Alike a b k :=
  ⟨h.a.mono (wN_mono hk) (wN_le _ _).2, h.b.mono (wN_mono hk) (wN_le _ _).2, h.c.mono (wN_mono hk) (wN_le _ _).2, h.d.mono (wN_mono hk) (wN_le _ _).2⟩

/-! ### AddrNets -/
structure Nets8 (l : Nets) : Prop where
  a : Ip8 l.a
  b : Ip8 l.b
  c : Ip8 l.c
theorem wrap_u64 (x : Int) : 0 ≤ IntKind.wrap .u64 x := by
  simp [IntKind.wrap, IntKind.bits, IntKind.signed]
  omega
theorem wrap_u64_small {x : Int} (h : 0 ≤ x ∧ x < 18446744073709551616) : IntKind.wrap .u64 x = x := by
  simp [IntKind.wrap, IntKind.bits, IntKind.signed]
  omega
theorem and7 (x : Int) : 0 ≤ bAnd .i64 x 7 ∧ bAnd .i64 x 7 ≤ 7 := by
  unfold bAnd
  have h : (BitVec.ofInt (IntKind.bits .i64) x &&& BitVec.ofInt (IntKind.bits .i64) 7).toNat ≤ 7 := by
    rw [BitVec.toNat_and]
    exact Nat.le_trans Nat.and_le_right (by decide)
  generalize (BitVec.ofInt (IntKind.bits .i64) x &&& BitVec.ofInt (IntKind.bits .i64) 7).toNat = q at h
  rw [wrap_i64 (by omega)]
  omega
theorem nets_facts (bits more : Int) : ∃ k n : Int, 0 ≤ k ∧ k ≤ 32 ∧ k ≤ n ∧ n ≤ 32 ∧ IntKind.wrap .i64 ((IntKind.wrap .u64 bits).tmod 33) = k ∧ IntKind.wrap .i64 (33 - k) = 33 - k ∧ IntKind.wrap .u64 (33 - k) = 33 - k ∧ ¬ 33 - k = 0 ∧
    IntKind.wrap .i64 (k + IntKind.wrap .i64 ((IntKind.wrap .u64 more).tmod (33 - k))) = n ∧ IntKind.wrap .i64 (33 + bAnd .i64 more 7) = 33 + bAnd .i64 more 7 := by
  have h1 := wrap_u64 bits
  have h2 := wrap_u64 more
  have h3 := and7 more
  generalize IntKind.wrap .u64 bits = x at *
  generalize IntKind.wrap .u64 more = y at *
  have e1 : x.tmod 33 = x % 33 := Int.tmod_eq_emod_of_nonneg h1
  have e2 : ∀ z : Int, y.tmod z = y % z := fun z => Int.tmod_eq_emod_of_nonneg h2
  have b1 : 0 ≤ x % 33 ∧ x % 33 < 33 := ⟨Int.emod_nonneg _ (by decide), Int.emod_lt_of_pos _ (by decide)⟩
  rw [e1, wrap_i64 (by omega)]
  generalize x % 33 = k at b1
  have b2 : 0 ≤ y % (33 - k) ∧ y % (33 - k) < 33 - k := ⟨Int.emod_nonneg _ (by omega), Int.emod_lt_of_pos _ (by omega)⟩
  refine ⟨k, k + y % (33 - k), b1.1, by omega, by omega, by omega, rfl, wrap_i64 (by omega), wrap_u64_small (by omega), by omega, ?_, wrap_i64 (by omega)⟩
  rw [e2, wrap_i64 (x := y % (33 - k)) (by omega), wrap_i64 (by omega)]
theorem nets_self {l : Nets} (h : Nets8 l) {n : Int} (h0 : 0 ≤ n) (h1 : n ≤ 32) : within l.a l.a n = true := (within_iff h.a h.a h0 h1).2 (.refl _ _)
theorem nets_far (l : Nets) (more : Int) : within l.a l.a (33 + bAnd .i64 more 7) = false := within_high (by have := and7 more; omega)
theorem nets_trans {l : Nets} (h : Nets8 l) {k : Int} (h0 : 0 ≤ k) (h1 : k ≤ 32) (e1 : within l.a l.b k = true) (e2 : within l.b l.c k = true) : within l.a l.c k = true :=
  (within_iff h.a h.c h0 h1).2 (((within_iff h.a h.b h0 h1).1 e1).trans ((within_iff h.b h.c h0 h1).1 e2))
theorem nets_mono {l : Nets} (h : Nets8 l) {k n : Int} (h0 : 0 ≤ k) (h1 : k ≤ n) (h2 : n ≤ 32) (e : within l.a l.b n = true) : within l.a l.b k = true :=
  (within_iff h.a h.b h0 (by omega)).2 (((within_iff h.a h.b (by omega) h2).1 e).mono h1)
end Caw

/-! Addresses that come in. -/
set_option linter.all false
namespace Caw
open Go Go.RowKit
section
variable {H : Type} {enc : TypeId × Value → H} {P : Program} {W : World} {base : Nat} {spare : Nat → Bool} {held : Bool}
theorem bounds_u8 {n : Int} (h : (Lit.int .u8 n).wf = true) : u8 n := by
  have e1 : IntKind.min .u8 = 0 := rfl
  have e2 : IntKind.max .u8 = 255 := rfl
  simp [Lit.wf] at h
  unfold u8
  omega
theorem rd_ipL {t e : TypeId} (ht : P.underlying t = some (.array 4 e)) (he : P.underlying e = some (.int .u8)) (hce : P.cellsOf e = 1) (hct : P.cellsOf t = 4) {n : Nat} {l : List Value} {y : DataW H × List MemPlace}
    (h : DataW.trod enc P W base spare held n t l = some y) : ∃ x : Ip, Ip8 x ∧ l = [.int .u8 x.a, .int .u8 x.b, .int .u8 x.c, .int .u8 x.d] := by
  obtain ⟨xs, m, _, _, hl, hxs, hf⟩ := DataW.trod_array ht h
  rw [hct] at hl
  match l, hl with
  | [c0, c1, c2, c3], _ =>
    have g0 := hf 0 (by omega)
    have g1 := hf 1 (by omega)
    have g2 := hf 2 (by omega)
    have g3 := hf 3 (by omega)
    simp only [hce, Nat.zero_mul, Nat.one_mul, Nat.mul_one, List.drop, List.take] at g0 g1 g2 g3
    match xs, hxs with
    | [y0, y1, y2, y3], _ =>
      obtain ⟨z0, hz0, _, b0⟩ := DataW.trod_int he (by simpa using g0)
      obtain ⟨z1, hz1, _, b1⟩ := DataW.trod_int he (by simpa using g1)
      obtain ⟨z2, hz2, _, b2⟩ := DataW.trod_int he (by simpa using g2)
      obtain ⟨z3, hz3, _, b3⟩ := DataW.trod_int he (by simpa using g3)
      simp only [List.cons.injEq, and_true] at hz0 hz1 hz2 hz3
      subst hz0 hz1 hz2 hz3
      exact ⟨⟨z0, z1, z2, z3⟩, ⟨bounds_u8 b0, bounds_u8 b1, bounds_u8 b2, bounds_u8 b3⟩, rfl⟩
theorem rd_ip {t e : TypeId} (ht : P.underlying t = some (.array 4 e)) (he : P.underlying e = some (.int .u8)) (hce : P.cellsOf e = 1) (hct : P.cellsOf t = 4) {n : Nat} {cs : Array Value} {y : DataW H × List MemPlace}
    (h : DataW.trod enc P W base spare held n t cs.toList = some y) : ∃ x : Ip, Ip8 x ∧ PV W (pr0 W) (.agg (ipCells x)) (.agg cs) := by
  obtain ⟨x, h1, h2⟩ := rd_ipL ht he hce hct h
  obtain ⟨l⟩ := cs
  simp only at h2
  subst h2
  refine ⟨x, h1, .agg rfl fun i hi => ?_⟩
  have hi2 : i < 4 := hi
  match i, hi2 with
  | 0, _ => exact .v _
  | 1, _ => exact .v _
  | 2, _ => exact .v _
  | 3, _ => exact .v _
theorem rd_nets {t t1 e : TypeId} (ht0 : P.underlying t = some (.array 3 t1)) (ht : P.underlying t1 = some (.array 4 e)) (he : P.underlying e = some (.int .u8)) (hce : P.cellsOf e = 1) (hct : P.cellsOf t1 = 4) (hct0 : P.cellsOf t = 12) {n : Nat} {cs : Array Value} {y : DataW H × List MemPlace}
    (h : DataW.trod enc P W base spare held n t cs.toList = some y) : ∃ x : Nets, Nets8 x ∧ PV W (pr0 W) (.agg (netsCells x)) (.agg cs) := by
  obtain ⟨xs, m, _, _, hl, hxs, hf⟩ := DataW.trod_array ht0 h
  rw [hct0] at hl
  obtain ⟨l⟩ := cs
  simp only at hl hf
  have g0 := hf 0 (by omega)
  have g1 := hf 1 (by omega)
  have g2 := hf 2 (by omega)
  simp only [hct, Nat.zero_mul, Nat.one_mul, List.drop_zero] at g0 g1 g2
  match xs, hxs with
  | [y0, y1, y2], _ =>
    obtain ⟨x0, q0, e0⟩ := rd_ipL ht he hce hct (by simpa using g0)
    obtain ⟨x1, q1, e1⟩ := rd_ipL ht he hce hct (by simpa using g1)
    obtain ⟨x2, q2, e2⟩ := rd_ipL ht he hce hct (by simpa using g2)
    have hle : l = [.int .u8 x0.a, .int .u8 x0.b, .int .u8 x0.c, .int .u8 x0.d, .int .u8 x1.a, .int .u8 x1.b, .int .u8 x1.c, .int .u8 x1.d, .int .u8 x2.a, .int .u8 x2.b, .int .u8 x2.c, .int .u8 x2.d] := by
      match l, hl with
      | [a0, a1, a2, a3, a4, a5, a6, a7, a8, a9, a10, a11], _ =>
        simp at e0 e1 e2
        simp [e0, e1, e2]
    subst hle
    refine ⟨⟨x0, x1, x2⟩, ⟨q0, q1, q2⟩, .agg rfl fun i hi => ?_⟩
    have hi2 : i < 12 := hi
    match i, hi2 with
    | 0, _ => exact .v _
    | 1, _ => exact .v _
    | 2, _ => exact .v _
    | 3, _ => exact .v _
    | 4, _ => exact .v _
    | 5, _ => exact .v _
    | 6, _ => exact .v _
    | 7, _ => exact .v _
    | 8, _ => exact .v _
    | 9, _ => exact .v _
    | 10, _ => exact .v _
    | 11, _ => exact .v _
end
end Caw

