import Derived.Test.YtkmjoppcecffkaaDoorK15
import Derived.Test.YtkmjoppcecffkaaDoorK7
import Derived.Test.YtkmjoppcecffkaaDoorK8
set_option linter.all false
/-! Beginning alike, by the four bytes and by the whole number. -/
set_option linter.all false
namespace Caw
open Go Go.RowKit
theorem cut8 {P Q x y s : Nat} (hx : x < 256) (hy : y < 256) (hs : s ≤ 8) : (P * 256 + x) >>> s = (Q * 256 + y) >>> s ↔ P = Q ∧ x >>> s = y >>> s := by
  simp only [Nat.shiftRight_eq_div_pow]
  rcases (by omega : s = 0 ∨ s = 1 ∨ s = 2 ∨ s = 3 ∨ s = 4 ∨ s = 5 ∨ s = 6 ∨ s = 7 ∨ s = 8) with rfl | rfl | rfl | rfl | rfl | rfl | rfl | rfl | rfl <;> simp <;> omega
theorem off8 {X x s : Nat} (hx : x < 256) : (X * 256 + x) >>> (8 + s) = X >>> s := by
  rw [Nat.shiftRight_add]
  congr 1
  rw [Nat.shiftRight_eq_div_pow]
  simp
  omega
def wordN (a : Ip) : Nat := ((a.a.toNat * 256 + a.b.toNat) * 256 + a.c.toNat) * 256 + a.d.toNat
theorem u8n {x : Int} (h : u8 x) : x.toNat < 256 := by have := h.1; have := h.2; omega
theorem same0 {x y : Int} (hx : u8 x) (hy : u8 y) : same x y 0 := by
  have h1 := u8n hx
  have h2 := u8n hy
  unfold same
  have : (8 - (0 : Int)).toNat = 8 := rfl
  rw [this, Nat.shiftRight_eq_div_pow, Nat.shiftRight_eq_div_pow]
  omega
theorem same8 {x y : Int} : same x y 8 ↔ x.toNat = y.toNat := by
  unfold same
  have : (8 - (8 : Int)).toNat = 0 := rfl
  rw [this]; simp
theorem wN_is {n i : Int} : wN n i = if n ≤ 8 * i then 0 else if 8 * i + 8 ≤ n then 8 else n - 8 * i := by
  unfold wN maxI minI; (repeat' split) <;> omega
theorem alike_word {a b : Ip} (ha : Ip8 a) (hb : Ip8 b) {n : Int} (h0 : 0 ≤ n) (h1 : n ≤ 32) : Alike a b n ↔ wordN a >>> (32 - n).toNat = wordN b >>> (32 - n).toNat := by
  have a0 := u8n ha.a; have a1 := u8n ha.b; have a2 := u8n ha.c; have a3 := u8n ha.d
  have b0 := u8n hb.a; have b1 := u8n hb.b; have b2 := u8n hb.c; have b3 := u8n hb.d
  have hA : Alike a b n ↔ same a.a b.a (wN n 0) ∧ same a.b b.b (wN n 1) ∧ same a.c b.c (wN n 2) ∧ same a.d b.d (wN n 3) :=
    ⟨fun h => ⟨h.a, h.b, h.c, h.d⟩, fun h => ⟨h.1, h.2.1, h.2.2.1, h.2.2.2⟩⟩
  rw [hA]
  unfold wordN
  by_cases h8 : n ≤ 8
  · have e : (32 - n).toNat = 8 + (8 + (8 + (8 - n).toNat)) := by omega
    rw [e, off8 a3, off8 b3, off8 a2, off8 b2, off8 a1, off8 b1]
    have w1 : wN n 1 = 0 := by rw [wN_is, if_pos (by omega)]
    have w2 : wN n 2 = 0 := by rw [wN_is, if_pos (by omega)]
    have w3 : wN n 3 = 0 := by rw [wN_is, if_pos (by omega)]
    have w0 : wN n 0 = n := by rw [wN_is]; (repeat' split) <;> omega
    rw [w0, w1, w2, w3]
    exact ⟨fun h => h.1, fun h => ⟨h, same0 ha.b hb.b, same0 ha.c hb.c, same0 ha.d hb.d⟩⟩
  by_cases h16 : n ≤ 16
  · have e : (32 - n).toNat = 8 + (8 + (8 - (n - 8)).toNat) := by omega
    rw [e, off8 a3, off8 b3, off8 a2, off8 b2, cut8 a1 b1 (by omega)]
    have w0 : wN n 0 = 8 := by rw [wN_is, if_neg (by omega), if_pos (by omega)]
    have w1 : wN n 1 = n - 8 := by rw [wN_is]; (repeat' split) <;> omega
    have w2 : wN n 2 = 0 := by rw [wN_is, if_pos (by omega)]
    have w3 : wN n 3 = 0 := by rw [wN_is, if_pos (by omega)]
    rw [w0, w1, w2, w3, same8]
    exact ⟨fun h => ⟨h.1, h.2.1⟩, fun h => ⟨h.1, h.2, same0 ha.c hb.c, same0 ha.d hb.d⟩⟩
  by_cases h24 : n ≤ 24
  · have e : (32 - n).toNat = 8 + (8 - (n - 16)).toNat := by omega
    rw [e, off8 a3, off8 b3, cut8 a2 b2 (by omega)]
    have w0 : wN n 0 = 8 := by rw [wN_is, if_neg (by omega), if_pos (by omega)]
    have w1 : wN n 1 = 8 := by rw [wN_is, if_neg (by omega), if_pos (by omega)]
    have w2 : wN n 2 = n - 16 := by rw [wN_is]; (repeat' split) <;> omega
    have w3 : wN n 3 = 0 := by rw [wN_is, if_pos (by omega)]
    rw [w0, w1, w2, w3, same8, same8]
    refine ⟨fun h => ⟨by omega, h.2.2.1⟩, fun h => ⟨by omega, by omega, h.2, same0 ha.d hb.d⟩⟩
  · have e : (32 - n).toNat = (8 - (n - 24)).toNat := by omega
    rw [e, cut8 a3 b3 (by omega)]
    have w0 : wN n 0 = 8 := by rw [wN_is, if_neg (by omega), if_pos (by omega)]
    have w1 : wN n 1 = 8 := by rw [wN_is, if_neg (by omega), if_pos (by omega)]
    have w2 : wN n 2 = 8 := by rw [wN_is, if_neg (by omega), if_pos (by omega)]
    have w3 : wN n 3 = n - 24 := by rw [wN_is]; (repeat' split) <;> omega
    rw [w0, w1, w2, w3, same8, same8, same8]
    refine ⟨fun h => ⟨by omega, h.2.2.2⟩, fun h => ⟨by omega, by omega, by omega, h.2⟩⟩
end Caw
namespace Caw
open Go Go.RowKit
/-- The first i bytes as one number. -/
def wordP (a : Ip) : Nat → Int
  | 0 => 0
  | 1 => a.a
  | 2 => 256 * a.a + a.b
  | 3 => 256 * (256 * a.a + a.b) + a.c
  | _ => 256 * (256 * (256 * a.a + a.b) + a.c) + a.d
theorem wordP_4 {a : Ip} (h : Ip8 a) : wordP a 4 = (wordN a : Nat) := by
  have := h.a.1; have := h.b.1; have := h.c.1; have := h.d.1
  simp only [wordP, wordN]
  omega
theorem word_step {z x : Int} (h0 : 0 ≤ z) (h1 : z < 16777216) (hx : u8 x) : IntKind.wrap .i64 (256 * z) = 256 * z ∧ IntKind.wrap .i64 (256 * z + x) = 256 * z + x ∧ IntKind.wrap .i64 x = x := by
  have := hx.1; have := hx.2
  exact ⟨wrap_i64 (by omega), wrap_i64 (by omega), wrap_i64 (by omega)⟩
theorem wordP_lo {a : Ip} (h : Ip8 a) (i : Nat) : 0 ≤ wordP a i := by
  have := h.a.1; have := h.b.1; have := h.c.1; have := h.d.1
  unfold wordP
  split <;> omega
theorem wordP_hi {a : Ip} (h : Ip8 a) (i : Nat) (hi : i < 4) : wordP a i < 16777216 := by
  have := h.a.2; have := h.b.2; have := h.c.2
  rcases (by omega : i = 0 ∨ i = 1 ∨ i = 2 ∨ i = 3) with rfl | rfl | rfl | rfl <;> simp only [wordP] <;> omega
theorem half_facts (x : Nat) (h : x < 4294967296) : IntKind.wrap .i64 ((x : Int).tdiv 2) = ((x / 2 : Nat) : Int) := by
  have e : (x : Int).tdiv 2 = ((x / 2 : Nat) : Int) := by rw [Int.tdiv_eq_ediv_of_nonneg (by omega)]; omega
  rw [e]
  exact wrap_i64 (by omega)
theorem wordN_lt {a : Ip} (h : Ip8 a) : wordN a < 4294967296 := by
  have := u8n h.a; have := u8n h.b; have := u8n h.c; have := u8n h.d
  unfold wordN; omega
theorem shift_half (x k : Nat) : (x >>> k) / 2 = x >>> (k + 1) := by
  rw [Nat.shiftRight_add]; rfl
theorem shift_lt {x : Nat} (h : x < 4294967296) (k : Nat) : x >>> k < 4294967296 := Nat.lt_of_le_of_lt (Nat.shiftRight_le _ _) h
theorem within_word {a b : Ip} (ha : Ip8 a) (hb : Ip8 b) {n : Int} (h0 : ¬ n < 0) (h1 : ¬ 32 < n) : within a b n = decide (wordN a >>> (32 - n).toNat = wordN b >>> (32 - n).toNat) := by
  have := (within_iff ha hb (by omega) (by omega)).trans (alike_word ha hb (n := n) (by omega) (by omega))
  by_cases hw : within a b n = true
  · rw [hw]; exact (decide_eq_true (this.1 hw)).symm
  · have h2 : within a b n = false := by simpa using hw
    rw [h2]; exact (decide_eq_false (fun e => hw (this.2 e))).symm
end Caw
namespace Caw
open Go
theorem half2 (x : Nat) (h : x < 4294967296) : IntKind.wrap .i64 ((x : Int) / 2) = ((x / 2 : Nat) : Int) := by
  have e : (x : Int) / 2 = ((x / 2 : Nat) : Int) := by omega
  rw [e]
  exact wrap_i64 (by omega)
theorem natEqD (x y : Nat) : ((x : Int) == (y : Int)) = decide (x = y) := by
  by_cases e : x = y
  · subst e; simp
  · have : ¬ (x : Int) = y := by omega
    rw [decide_eq_false e]
    simpa using this
end Caw
namespace Caw
open Go
theorem within_zero {a b : Ip} (ha : Ip8 a) (hb : Ip8 b) : within a b 0 = true := by
  rw [within_word ha hb (by omega) (by omega)]
  have h1 := wordN_lt ha
  have h2 := wordN_lt hb
  apply decide_eq_true
  have e : (32 - (0 : Int)).toNat = 32 := rfl
  rw [e, Nat.shiftRight_eq_div_pow, Nat.shiftRight_eq_div_pow]
  omega
theorem within_pred {a b : Ip} (ha : Ip8 a) (hb : Ip8 b) {n : Int} (h : within a b n = true) (h0 : n ≠ 0) : IntKind.wrap .i64 (n - 1) = n - 1 ∧ within a b (n - 1) = true := by
  have hlo : ¬ n < 0 := fun e => by rw [within_low e] at h; cases h
  have hhi : ¬ 32 < n := fun e => by rw [within_high e] at h; cases h
  refine ⟨wrap_i64 (by omega), ?_⟩
  exact (within_iff ha hb (by omega) (by omega)).2 (((within_iff ha hb (by omega) (by omega)).1 h).mono (by omega))
theorem within_comm {a b : Ip} (ha : Ip8 a) (hb : Ip8 b) (n : Int) : within b a n = within a b n := by
  by_cases hlo : n < 0
  · rw [within_low hlo, within_low hlo]
  by_cases hhi : 32 < n
  · rw [within_high hhi, within_high hhi]
  rw [within_word hb ha hlo hhi, within_word ha hb hlo hhi]
  exact decide_eq_decide.2 ⟨Eq.symm, Eq.symm⟩
theorem within_all {a b : Ip} (ha : Ip8 a) (hb : Ip8 b) : within a b 32 = (a.a == b.a && a.b == b.b && a.c == b.c && a.d == b.d) := by
  rw [within_word ha hb (by omega) (by omega)]
  have e : (32 - (32 : Int)).toNat = 0 := rfl
  rw [e]
  have := ha.a.1; have := ha.b.1; have := ha.c.1; have := ha.d.1
  have := hb.a.1; have := hb.b.1; have := hb.c.1; have := hb.d.1
  have := u8n ha.a; have := u8n ha.b; have := u8n ha.c; have := u8n ha.d
  have := u8n hb.a; have := u8n hb.b; have := u8n hb.c; have := u8n hb.d
  have hw : (wordN a >>> 0 = wordN b >>> 0) ↔ (a.a = b.a ∧ a.b = b.b ∧ a.c = b.c ∧ a.d = b.d) := by
    simp only [Nat.shiftRight_zero, wordN]
    constructor
    · intro h; refine ⟨by omega, by omega, by omega, by omega⟩
    · rintro ⟨h1, h2, h3, h4⟩; rw [h1, h2, h3, h4]
  by_cases h : wordN a >>> 0 = wordN b >>> 0
  · rw [decide_eq_true h]; obtain ⟨h1, h2, h3, h4⟩ := hw.1 h; simp [h1, h2, h3, h4]
  · rw [decide_eq_false h]
    have h2 : ¬ (a.a = b.a ∧ a.b = b.b ∧ a.c = b.c ∧ a.d = b.d) := fun e => h (hw.2 e)
    symm
    simp only [Bool.and_eq_false_iff, beq_eq_false_iff_ne, ne_eq]
    omega
end Caw

-- Printed by genwalk.py.
namespace Go.Proofs.YtkmjoppcecffkaaDoor
open Go Go.RowKit Caw
set_option linter.unusedSimpArgs false
set_option linter.unusedVariables false
set_option maxRecDepth 100000

-- caravel/caravelref04.word
set_option maxHeartbeats 2000000 in
theorem at31 (a : Caw.Ip) (hpre : Ip8 a) : SpecAt Tryd.prog 31 [.agg (ipCells a)] (.v (.int .i64 ((wordN a : Nat) : Int))) none := by
  have h := hpre
  have hw := wordP_4 hpre
  clear hpre
  refine specAt_of_tri Tryd.func31 rfl (Nat.le_of_ble_eq_true rfl) ?_
  all_goals (repeat' (first
      | (refine tri_condT (b_true (by simp; with_reducible exact IsB.mk)) ?_)
      | (refine tri_condF (b_true (by simp; with_reducible exact IsB.mk)) ?_)
      | (refine tri_skipT ?_)
      | (refine tri_skip ?_)
      | (refine then_to ?_)
      | (refine th_n ?_)
      | (refine in_n ?_)
      | (refine in_e ?_)
      | (refine in_x rfl ?_)
      | (refine th_e ?_)
      | (refine th_r ?_)
      | (refine in_r ?_)
      | (refine tri_ret ?_)
      | (refine tri_exit ?_)
      | (refine tri_block ?_)
      | (refine tri_step (id := 0) (C := ⟨[], [], []⟩) [1] [(2, 0, 0)] gok_nil nodraw ?_; refine ⟨_, by (simp [*, flg]; exact Is.mk), ?_⟩)
      | (refine tri_last (id := 0) (C := ⟨[], [], []⟩) [1] [(2, 0, 0)] gok_nil nodraw ?_; refine ⟨_, by (simp [*, flg]; exact Is.mk), ?_⟩)
      | (refine tri_step (id := 1) (C := ⟨[], [], []⟩) [1, 3] [(2, 0, 0)] gok_nil nodraw ?_; refine ⟨_, by (simp [*, flg]; exact Is.mk), ?_⟩)
      | (refine tri_last (id := 1) (C := ⟨[], [], []⟩) [1, 3] [(2, 0, 0)] gok_nil nodraw ?_; refine ⟨_, by (simp [*, flg]; exact Is.mk), ?_⟩)
      | (refine tri_step (id := 2) (C := ⟨[], [], []⟩) [1, 3, 4] [(2, 0, 0)] gok_nil nodraw ?_; refine ⟨_, by (simp [*, flg]; exact Is.mk), ?_⟩)
      | (refine tri_last (id := 2) (C := ⟨[], [], []⟩) [1, 3, 4] [(2, 0, 0)] gok_nil nodraw ?_; refine ⟨_, by (simp [*, flg]; exact Is.mk), ?_⟩)
      | (refine tri_step (id := 3) (C := ⟨[], [], []⟩) [1, 3, 4, 6] [(2, 0, 0)] gok_nil nodraw ?_; refine ⟨_, by (simp [*, flg]; exact Is.mk), ?_⟩)
      | (refine tri_last (id := 3) (C := ⟨[], [], []⟩) [1, 3, 4, 6] [(2, 0, 0)] gok_nil nodraw ?_; refine ⟨_, by (simp [*, flg]; exact Is.mk), ?_⟩)
      | (refine tri_step (id := 4) (C := ⟨[], [], []⟩) [1, 3, 4] [(2, 0, 0)] gok_nil nodraw ?_; refine ⟨_, by (simp [*, flg]; exact Is.mk), ?_⟩)
      | (refine tri_last (id := 4) (C := ⟨[], [], []⟩) [1, 3, 4] [(2, 0, 0)] gok_nil nodraw ?_; refine ⟨_, by (simp [*, flg]; exact Is.mk), ?_⟩)
      | (refine tri_step (id := 5) (C := ⟨[], [], []⟩) [1, 3, 4] [(2, 0, 0)] gok_nil nodraw ?_; refine ⟨_, by (simp [*, flg]; exact Is.mk), ?_⟩)
      | (refine tri_last (id := 5) (C := ⟨[], [], []⟩) [1, 3, 4] [(2, 0, 0)] gok_nil nodraw ?_; refine ⟨_, by (simp [*, flg]; exact Is.mk), ?_⟩)
      | (refine tri_step (id := 6) (C := ⟨[], [], []⟩) [2] [] gok_nil nodraw ?_; refine ⟨_, by (simp [*, flg]; exact Is.mk), ?_⟩)
      | (refine tri_last (id := 6) (C := ⟨[], [], []⟩) [2] [] gok_nil nodraw ?_; refine ⟨_, by (simp [*, flg]; exact Is.mk), ?_⟩)
      | (refine tri_cond (c := .tmp 6) (b_true (by simp; exact IsB.mk)) (fun hc => ?_) (fun hc => ?_))
      | (refine to_mk (by simp; exact IsK.mk))
      | (refine imp_ ?_)
      | ((simp; exact IsK.mk))
      | (refine tri_seq ?_)
      ))
  refine tri_loop (fun n st => ∃ i : Nat, i ≤ 4 ∧ n = 4 - i ∧ st = mkSt [(1, .ptr (2,0,0) 0), (3, .v (.int .i64 (wordP a i))), (4, .v (.int .i64 i))] [((2,0,0), ipCells a)]) 4 _ (Le.refl _) ⟨0, by omega, rfl, rfl⟩ ?_
  rintro n st ⟨i, hi, hn, rfl⟩
  rcases (by omega : i = 0 ∨ i = 1 ∨ i = 2 ∨ i = 3 ∨ i = 4) with rfl | rfl | rfl | rfl | rfl
  · have hz := wordP_lo h 0
    have hz2 := wordP_hi h 0 (by omega)
    have hn2 : 256 * wordP a 0 + a.a = wordP a (0 + 1) := by simp [wordP]
    generalize wordP a 0 = z at *
    obtain ⟨g1, g2, g3⟩ := word_step hz hz2 h.a
    rw [hn2] at g2
    clear h hw
    all_goals (repeat' (first
      | (refine tri_condT (b_true (by simp; with_reducible exact IsB.mk)) ?_)
      | (refine tri_condF (b_true (by simp; with_reducible exact IsB.mk)) ?_)
      | (refine tri_skipT ?_)
      | (refine tri_skip ?_)
      | (refine then_to ?_)
      | (refine th_n ?_)
      | (refine in_n ?_)
      | (refine in_e ?_)
      | (refine in_x rfl ?_)
      | (refine th_e ?_)
      | (refine th_r ?_)
      | (refine in_r ?_)
      | (refine tri_ret ?_)
      | (refine tri_exit ?_)
      | (refine tri_block ?_)
      | (refine tri_step (id := 0) (C := ⟨[], [], []⟩) [1] [(2, 0, 0)] gok_nil nodraw ?_; refine ⟨_, by (simp [*, flg]; exact Is.mk), ?_⟩)
      | (refine tri_last (id := 0) (C := ⟨[], [], []⟩) [1] [(2, 0, 0)] gok_nil nodraw ?_; refine ⟨_, by (simp [*, flg]; exact Is.mk), ?_⟩)
      | (refine tri_step (id := 1) (C := ⟨[], [], []⟩) [1, 3] [(2, 0, 0)] gok_nil nodraw ?_; refine ⟨_, by (simp [*, flg]; exact Is.mk), ?_⟩)
      | (refine tri_last (id := 1) (C := ⟨[], [], []⟩) [1, 3] [(2, 0, 0)] gok_nil nodraw ?_; refine ⟨_, by (simp [*, flg]; exact Is.mk), ?_⟩)
      | (refine tri_step (id := 2) (C := ⟨[], [], []⟩) [1, 3, 4] [(2, 0, 0)] gok_nil nodraw ?_; refine ⟨_, by (simp [*, flg]; exact Is.mk), ?_⟩)
      | (refine tri_last (id := 2) (C := ⟨[], [], []⟩) [1, 3, 4] [(2, 0, 0)] gok_nil nodraw ?_; refine ⟨_, by (simp [*, flg]; exact Is.mk), ?_⟩)
      | (refine tri_step (id := 3) (C := ⟨[], [], []⟩) [1, 3, 4, 6] [(2, 0, 0)] gok_nil nodraw ?_; refine ⟨_, by (simp [*, flg]; exact Is.mk), ?_⟩)
      | (refine tri_last (id := 3) (C := ⟨[], [], []⟩) [1, 3, 4, 6] [(2, 0, 0)] gok_nil nodraw ?_; refine ⟨_, by (simp [*, flg]; exact Is.mk), ?_⟩)
      | (refine tri_step (id := 4) (C := ⟨[], [], []⟩) [1, 3, 4] [(2, 0, 0)] gok_nil nodraw ?_; refine ⟨_, by (simp [*, flg]; exact Is.mk), ?_⟩)
      | (refine tri_last (id := 4) (C := ⟨[], [], []⟩) [1, 3, 4] [(2, 0, 0)] gok_nil nodraw ?_; refine ⟨_, by (simp [*, flg]; exact Is.mk), ?_⟩)
      | (refine tri_step (id := 5) (C := ⟨[], [], []⟩) [1, 3, 4] [(2, 0, 0)] gok_nil nodraw ?_; refine ⟨_, by (simp [*, flg]; exact Is.mk), ?_⟩)
      | (refine tri_last (id := 5) (C := ⟨[], [], []⟩) [1, 3, 4] [(2, 0, 0)] gok_nil nodraw ?_; refine ⟨_, by (simp [*, flg]; exact Is.mk), ?_⟩)
      | (refine tri_step (id := 6) (C := ⟨[], [], []⟩) [2] [] gok_nil nodraw ?_; refine ⟨_, by (simp [*, flg]; exact Is.mk), ?_⟩)
      | (refine tri_last (id := 6) (C := ⟨[], [], []⟩) [2] [] gok_nil nodraw ?_; refine ⟨_, by (simp [*, flg]; exact Is.mk), ?_⟩)
      | (refine tri_cond (c := .tmp 6) (b_true (by simp; exact IsB.mk)) (fun hc => ?_) (fun hc => ?_))
      | (refine to_mk (by simp; exact IsK.mk))
      | (refine imp_ ?_)
      | ((simp; exact IsK.mk))
      | (refine tri_seq ?_)
      ))
    exact ⟨4 - (0 + 1), _, by omega, Le.refl _, 0 + 1, by omega, rfl, rfl⟩
  · have hz := wordP_lo h 1
    have hz2 := wordP_hi h 1 (by omega)
    have hn2 : 256 * wordP a 1 + a.b = wordP a (1 + 1) := by simp [wordP]
    generalize wordP a 1 = z at *
    obtain ⟨g1, g2, g3⟩ := word_step hz hz2 h.b
    rw [hn2] at g2
    clear h hw
    all_goals (repeat' (first
      | (refine tri_condT (b_true (by simp; with_reducible exact IsB.mk)) ?_)
      | (refine tri_condF (b_true (by simp; with_reducible exact IsB.mk)) ?_)
      | (refine tri_skipT ?_)
      | (refine tri_skip ?_)
      | (refine then_to ?_)
      | (refine th_n ?_)
      | (refine in_n ?_)
      | (refine in_e ?_)
      | (refine in_x rfl ?_)
      | (refine th_e ?_)
      | (refine th_r ?_)
      | (refine in_r ?_)
      | (refine tri_ret ?_)
      | (refine tri_exit ?_)
      | (refine tri_block ?_)
      | (refine tri_step (id := 0) (C := ⟨[], [], []⟩) [1] [(2, 0, 0)] gok_nil nodraw ?_; refine ⟨_, by (simp [*, flg]; exact Is.mk), ?_⟩)
      | (refine tri_last (id := 0) (C := ⟨[], [], []⟩) [1] [(2, 0, 0)] gok_nil nodraw ?_; refine ⟨_, by (simp [*, flg]; exact Is.mk), ?_⟩)
      | (refine tri_step (id := 1) (C := ⟨[], [], []⟩) [1, 3] [(2, 0, 0)] gok_nil nodraw ?_; refine ⟨_, by (simp [*, flg]; exact Is.mk), ?_⟩)
      | (refine tri_last (id := 1) (C := ⟨[], [], []⟩) [1, 3] [(2, 0, 0)] gok_nil nodraw ?_; refine ⟨_, by (simp [*, flg]; exact Is.mk), ?_⟩)
      | (refine tri_step (id := 2) (C := ⟨[], [], []⟩) [1, 3, 4] [(2, 0, 0)] gok_nil nodraw ?_; refine ⟨_, by (simp [*, flg]; exact Is.mk), ?_⟩)
      | (refine tri_last (id := 2) (C := ⟨[], [], []⟩) [1, 3, 4] [(2, 0, 0)] gok_nil nodraw ?_; refine ⟨_, by (simp [*, flg]; exact Is.mk), ?_⟩)
      | (refine tri_step (id := 3) (C := ⟨[], [], []⟩) [1, 3, 4, 6] [(2, 0, 0)] gok_nil nodraw ?_; refine ⟨_, by (simp [*, flg]; exact Is.mk), ?_⟩)
      | (refine tri_last (id := 3) (C := ⟨[], [], []⟩) [1, 3, 4, 6] [(2, 0, 0)] gok_nil nodraw ?_; refine ⟨_, by (simp [*, flg]; exact Is.mk), ?_⟩)
      | (refine tri_step (id := 4) (C := ⟨[], [], []⟩) [1, 3, 4] [(2, 0, 0)] gok_nil nodraw ?_; refine ⟨_, by (simp [*, flg]; exact Is.mk), ?_⟩)
      | (refine tri_last (id := 4) (C := ⟨[], [], []⟩) [1, 3, 4] [(2, 0, 0)] gok_nil nodraw ?_; refine ⟨_, by (simp [*, flg]; exact Is.mk), ?_⟩)
      | (refine tri_step (id := 5) (C := ⟨[], [], []⟩) [1, 3, 4] [(2, 0, 0)] gok_nil nodraw ?_; refine ⟨_, by (simp [*, flg]; exact Is.mk), ?_⟩)
      | (refine tri_last (id := 5) (C := ⟨[], [], []⟩) [1, 3, 4] [(2, 0, 0)] gok_nil nodraw ?_; refine ⟨_, by (simp [*, flg]; exact Is.mk), ?_⟩)
      | (refine tri_step (id := 6) (C := ⟨[], [], []⟩) [2] [] gok_nil nodraw ?_; refine ⟨_, by (simp [*, flg]; exact Is.mk), ?_⟩)
      | (refine tri_last (id := 6) (C := ⟨[], [], []⟩) [2] [] gok_nil nodraw ?_; refine ⟨_, by (simp [*, flg]; exact Is.mk), ?_⟩)
      | (refine tri_cond (c := .tmp 6) (b_true (by simp; exact IsB.mk)) (fun hc => ?_) (fun hc => ?_))
      | (refine to_mk (by simp; exact IsK.mk))
      | (refine imp_ ?_)
      | ((simp; exact IsK.mk))
      | (refine tri_seq ?_)
      ))
    exact ⟨4 - (1 + 1), _, by omega, Le.refl _, 1 + 1, by omega, rfl, rfl⟩
  · have hz := wordP_lo h 2
    have hz2 := wordP_hi h 2 (by omega)
    have hn2 : 256 * wordP a 2 + a.c = wordP a (2 + 1) := by simp [wordP]
    generalize wordP a 2 = z at *
    obtain ⟨g1, g2, g3⟩ := word_step hz hz2 h.c
    rw [hn2] at g2
    clear h hw
    all_goals (repeat' (first
      | (refine tri_condT (b_true (by simp; with_reducible exact IsB.mk)) ?_)
      | (refine tri_condF (b_true (by simp; with_reducible exact IsB.mk)) ?_)
      | (refine tri_skipT ?_)
      | (refine tri_skip ?_)
      | (refine then_to ?_)
      | (refine th_n ?_)
      | (refine in_n ?_)
      | (refine in_e ?_)
      | (refine in_x rfl ?_)
      | (refine th_e ?_)
      | (refine th_r ?_)
      | (refine in_r ?_)
      | (refine tri_ret ?_)
      | (refine tri_exit ?_)
      | (refine tri_block ?_)
      | (refine tri_step (id := 0) (C := ⟨[], [], []⟩) [1] [(2, 0, 0)] gok_nil nodraw ?_; refine ⟨_, by (simp [*, flg]; exact Is.mk), ?_⟩)
      | (refine tri_last (id := 0) (C := ⟨[], [], []⟩) [1] [(2, 0, 0)] gok_nil nodraw ?_; refine ⟨_, by (simp [*, flg]; exact Is.mk), ?_⟩)
      | (refine tri_step (id := 1) (C := ⟨[], [], []⟩) [1, 3] [(2, 0, 0)] gok_nil nodraw ?_; refine ⟨_, by (simp [*, flg]; exact Is.mk), ?_⟩)
      | (refine tri_last (id := 1) (C := ⟨[], [], []⟩) [1, 3] [(2, 0, 0)] gok_nil nodraw ?_; refine ⟨_, by (simp [*, flg]; exact Is.mk), ?_⟩)
      | (refine tri_step (id := 2) (C := ⟨[], [], []⟩) [1, 3, 4] [(2, 0, 0)] gok_nil nodraw ?_; refine ⟨_, by (simp [*, flg]; exact Is.mk), ?_⟩)
      | (refine tri_last (id := 2) (C := ⟨[], [], []⟩) [1, 3, 4] [(2, 0, 0)] gok_nil nodraw ?_; refine ⟨_, by (simp [*, flg]; exact Is.mk), ?_⟩)
      | (refine tri_step (id := 3) (C := ⟨[], [], []⟩) [1, 3, 4, 6] [(2, 0, 0)] gok_nil nodraw ?_; refine ⟨_, by (simp [*, flg]; exact Is.mk), ?_⟩)
      | (refine tri_last (id := 3) (C := ⟨[], [], []⟩) [1, 3, 4, 6] [(2, 0, 0)] gok_nil nodraw ?_; refine ⟨_, by (simp [*, flg]; exact Is.mk), ?_⟩)
      | (refine tri_step (id := 4) (C := ⟨[], [], []⟩) [1, 3, 4] [(2, 0, 0)] gok_nil nodraw ?_; refine ⟨_, by (simp [*, flg]; exact Is.mk), ?_⟩)
      | (refine tri_last (id := 4) (C := ⟨[], [], []⟩) [1, 3, 4] [(2, 0, 0)] gok_nil nodraw ?_; refine ⟨_, by (simp [*, flg]; exact Is.mk), ?_⟩)
      | (refine tri_step (id := 5) (C := ⟨[], [], []⟩) [1, 3, 4] [(2, 0, 0)] gok_nil nodraw ?_; refine ⟨_, by (simp [*, flg]; exact Is.mk), ?_⟩)
      | (refine tri_last (id := 5) (C := ⟨[], [], []⟩) [1, 3, 4] [(2, 0, 0)] gok_nil nodraw ?_; refine ⟨_, by (simp [*, flg]; exact Is.mk), ?_⟩)
      | (refine tri_step (id := 6) (C := ⟨[], [], []⟩) [2] [] gok_nil nodraw ?_; refine ⟨_, by (simp [*, flg]; exact Is.mk), ?_⟩)
      | (refine tri_last (id := 6) (C := ⟨[], [], []⟩) [2] [] gok_nil nodraw ?_; refine ⟨_, by (simp [*, flg]; exact Is.mk), ?_⟩)
      | (refine tri_cond (c := .tmp 6) (b_true (by simp; exact IsB.mk)) (fun hc => ?_) (fun hc => ?_))
      | (refine to_mk (by simp; exact IsK.mk))
      | (refine imp_ ?_)
      | ((simp; exact IsK.mk))
      | (refine tri_seq ?_)
      ))
    exact ⟨4 - (2 + 1), _, by omega, Le.refl _, 2 + 1, by omega, rfl, rfl⟩
  · have hz := wordP_lo h 3
    have hz2 := wordP_hi h 3 (by omega)
    have hn2 : 256 * wordP a 3 + a.d = wordP a (3 + 1) := by simp [wordP]
    generalize wordP a 3 = z at *
    obtain ⟨g1, g2, g3⟩ := word_step hz hz2 h.d
    rw [hn2] at g2
    clear h hw
    all_goals (repeat' (first
      | (refine tri_condT (b_true (by simp; with_reducible exact IsB.mk)) ?_)
      | (refine tri_condF (b_true (by simp; with_reducible exact IsB.mk)) ?_)
      | (refine tri_skipT ?_)
      | (refine tri_skip ?_)
      | (refine then_to ?_)
      | (refine th_n ?_)
      | (refine in_n ?_)
      | (refine in_e ?_)
      | (refine in_x rfl ?_)
      | (refine th_e ?_)
      | (refine th_r ?_)
      | (refine in_r ?_)
      | (refine tri_ret ?_)
      | (refine tri_exit ?_)
      | (refine tri_block ?_)
      | (refine tri_step (id := 0) (C := ⟨[], [], []⟩) [1] [(2, 0, 0)] gok_nil nodraw ?_; refine ⟨_, by (simp [*, flg]; exact Is.mk), ?_⟩)
      | (refine tri_last (id := 0) (C := ⟨[], [], []⟩) [1] [(2, 0, 0)] gok_nil nodraw ?_; refine ⟨_, by (simp [*, flg]; exact Is.mk), ?_⟩)
      | (refine tri_step (id := 1) (C := ⟨[], [], []⟩) [1, 3] [(2, 0, 0)] gok_nil nodraw ?_; refine ⟨_, by (simp [*, flg]; exact Is.mk), ?_⟩)
      | (refine tri_last (id := 1) (C := ⟨[], [], []⟩) [1, 3] [(2, 0, 0)] gok_nil nodraw ?_; refine ⟨_, by (simp [*, flg]; exact Is.mk), ?_⟩)
      | (refine tri_step (id := 2) (C := ⟨[], [], []⟩) [1, 3, 4] [(2, 0, 0)] gok_nil nodraw ?_; refine ⟨_, by (simp [*, flg]; exact Is.mk), ?_⟩)
      | (refine tri_last (id := 2) (C := ⟨[], [], []⟩) [1, 3, 4] [(2, 0, 0)] gok_nil nodraw ?_; refine ⟨_, by (simp [*, flg]; exact Is.mk), ?_⟩)
      | (refine tri_step (id := 3) (C := ⟨[], [], []⟩) [1, 3, 4, 6] [(2, 0, 0)] gok_nil nodraw ?_; refine ⟨_, by (simp [*, flg]; exact Is.mk), ?_⟩)
      | (refine tri_last (id := 3) (C := ⟨[], [], []⟩) [1, 3, 4, 6] [(2, 0, 0)] gok_nil nodraw ?_; refine ⟨_, by (simp [*, flg]; exact Is.mk), ?_⟩)
      | (refine tri_step (id := 4) (C := ⟨[], [], []⟩) [1, 3, 4] [(2, 0, 0)] gok_nil nodraw ?_; refine ⟨_, by (simp [*, flg]; exact Is.mk), ?_⟩)
      | (refine tri_last (id := 4) (C := ⟨[], [], []⟩) [1, 3, 4] [(2, 0, 0)] gok_nil nodraw ?_; refine ⟨_, by (simp [*, flg]; exact Is.mk), ?_⟩)
      | (refine tri_step (id := 5) (C := ⟨[], [], []⟩) [1, 3, 4] [(2, 0, 0)] gok_nil nodraw ?_; refine ⟨_, by (simp [*, flg]; exact Is.mk), ?_⟩)
      | (refine tri_last (id := 5) (C := ⟨[], [], []⟩) [1, 3, 4] [(2, 0, 0)] gok_nil nodraw ?_; refine ⟨_, by (simp [*, flg]; exact Is.mk), ?_⟩)
      | (refine tri_step (id := 6) (C := ⟨[], [], []⟩) [2] [] gok_nil nodraw ?_; refine ⟨_, by (simp [*, flg]; exact Is.mk), ?_⟩)
      | (refine tri_last (id := 6) (C := ⟨[], [], []⟩) [2] [] gok_nil nodraw ?_; refine ⟨_, by (simp [*, flg]; exact Is.mk), ?_⟩)
      | (refine tri_cond (c := .tmp 6) (b_true (by simp; exact IsB.mk)) (fun hc => ?_) (fun hc => ?_))
      | (refine to_mk (by simp; exact IsK.mk))
      | (refine imp_ ?_)
      | ((simp; exact IsK.mk))
      | (refine tri_seq ?_)
      ))
    exact ⟨4 - (3 + 1), _, by omega, Le.refl _, 3 + 1, by omega, rfl, rfl⟩
  · all_goals (repeat' (first
      | (refine tri_condT (b_true (by simp; with_reducible exact IsB.mk)) ?_)
      | (refine tri_condF (b_true (by simp; with_reducible exact IsB.mk)) ?_)
      | (refine tri_skipT ?_)
      | (refine tri_skip ?_)
      | (refine then_to ?_)
      | (refine th_n ?_)
      | (refine in_n ?_)
      | (refine in_e ?_)
      | (refine in_x rfl ?_)
      | (refine th_e ?_)
      | (refine th_r ?_)
      | (refine in_r ?_)
      | (refine tri_ret ?_)
      | (refine tri_exit ?_)
      | (refine tri_block ?_)
      | (refine tri_step (id := 0) (C := ⟨[], [], []⟩) [1] [(2, 0, 0)] gok_nil nodraw ?_; refine ⟨_, by (simp [*, flg]; exact Is.mk), ?_⟩)
      | (refine tri_last (id := 0) (C := ⟨[], [], []⟩) [1] [(2, 0, 0)] gok_nil nodraw ?_; refine ⟨_, by (simp [*, flg]; exact Is.mk), ?_⟩)
      | (refine tri_step (id := 1) (C := ⟨[], [], []⟩) [1, 3] [(2, 0, 0)] gok_nil nodraw ?_; refine ⟨_, by (simp [*, flg]; exact Is.mk), ?_⟩)
      | (refine tri_last (id := 1) (C := ⟨[], [], []⟩) [1, 3] [(2, 0, 0)] gok_nil nodraw ?_; refine ⟨_, by (simp [*, flg]; exact Is.mk), ?_⟩)
      | (refine tri_step (id := 2) (C := ⟨[], [], []⟩) [1, 3, 4] [(2, 0, 0)] gok_nil nodraw ?_; refine ⟨_, by (simp [*, flg]; exact Is.mk), ?_⟩)
      | (refine tri_last (id := 2) (C := ⟨[], [], []⟩) [1, 3, 4] [(2, 0, 0)] gok_nil nodraw ?_; refine ⟨_, by (simp [*, flg]; exact Is.mk), ?_⟩)
      | (refine tri_step (id := 3) (C := ⟨[], [], []⟩) [1, 3, 4, 6] [(2, 0, 0)] gok_nil nodraw ?_; refine ⟨_, by (simp [*, flg]; exact Is.mk), ?_⟩)
      | (refine tri_last (id := 3) (C := ⟨[], [], []⟩) [1, 3, 4, 6] [(2, 0, 0)] gok_nil nodraw ?_; refine ⟨_, by (simp [*, flg]; exact Is.mk), ?_⟩)
      | (refine tri_step (id := 4) (C := ⟨[], [], []⟩) [1, 3, 4] [(2, 0, 0)] gok_nil nodraw ?_; refine ⟨_, by (simp [*, flg]; exact Is.mk), ?_⟩)
      | (refine tri_last (id := 4) (C := ⟨[], [], []⟩) [1, 3, 4] [(2, 0, 0)] gok_nil nodraw ?_; refine ⟨_, by (simp [*, flg]; exact Is.mk), ?_⟩)
      | (refine tri_step (id := 5) (C := ⟨[], [], []⟩) [1, 3, 4] [(2, 0, 0)] gok_nil nodraw ?_; refine ⟨_, by (simp [*, flg]; exact Is.mk), ?_⟩)
      | (refine tri_last (id := 5) (C := ⟨[], [], []⟩) [1, 3, 4] [(2, 0, 0)] gok_nil nodraw ?_; refine ⟨_, by (simp [*, flg]; exact Is.mk), ?_⟩)
      | (refine tri_step (id := 6) (C := ⟨[], [], []⟩) [2] [] gok_nil nodraw ?_; refine ⟨_, by (simp [*, flg]; exact Is.mk), ?_⟩)
      | (refine tri_last (id := 6) (C := ⟨[], [], []⟩) [2] [] gok_nil nodraw ?_; refine ⟨_, by (simp [*, flg]; exact Is.mk), ?_⟩)
      | (refine tri_cond (c := .tmp 6) (b_true (by simp; exact IsB.mk)) (fun hc => ?_) (fun hc => ?_))
      | (refine to_mk (by simp; exact IsK.mk))
      | (refine imp_ ?_)
      | ((simp; exact IsK.mk))
      | (refine tri_seq ?_)
      ))
    all_goals (refine post_plainV (P := Tryd.prog) (fn := Tryd.f31) (by simp; exact IsV.mk) rfl ?_)
    all_goals (simp [hw]; done)
open Classical in
noncomputable def F31 : Fn1
  | [x0] => (whole pIp x0).bind fun a => if Ip8 a then some ((.v (.int .i64 ((wordN a : Nat) : Int))), none) else none
  | _ => none
theorem spec31 : Spec1 Tryd.prog 31 F31 := spec_of fun ys r o h => by
  unfold F31 at h
  split at h
  case h_2 => cases h
  obtain ⟨a, k0, h1⟩ := bind_some h
  obtain ⟨hpre, hz⟩ := ite_some h1
  cases hz
  exact ⟨_, at31 a hpre, rfl, le_plain ⟨whole_co pIp_snd k0, trivial⟩ (by simp only [List.all_cons, List.all_nil, Bool.not_false, Bool.and_self, notRefB (whole_co pIp_snd k0) rfl (by simp)]) rfl⟩
theorem en31 : Enters Tryd.prog 31 := enters_of Tryd.func31 (by kernel_rfl) rfl

-- caravel/caravelref04.Within
theorem g19 : GOk1 Tryd.prog (ctxOf [(31, F31)]) := gok_cons spec31 en31 (gok_nil)
set_option maxHeartbeats 2000000 in
theorem at19 (a : Caw.Ip) (b : Caw.Ip) (bits : Int) (hpre : Ip8 a ∧ Ip8 b) : SpecAt Tryd.prog 19 [.agg (ipCells a), .agg (ipCells b), .v (.int .i64 bits)] (.v (.bool (within a b bits))) none := by
  obtain ⟨p1, p2⟩ := hpre
  refine specAt_of_tri Tryd.func19 rfl (Nat.le_of_ble_eq_true rfl) ?_
  by_cases hb : bits < 0
  · have hx := within_low (a := a) (b := b) hb
    all_goals (repeat' (first
      | (refine tri_condT (b_true (by simp; with_reducible exact IsB.mk)) ?_)
      | (refine tri_condF (b_true (by simp; with_reducible exact IsB.mk)) ?_)
      | (refine tri_skipT ?_)
      | (refine tri_skip ?_)
      | (refine then_to ?_)
      | (refine th_n ?_)
      | (refine in_n ?_)
      | (refine in_e ?_)
      | (refine in_x rfl ?_)
      | (refine th_e ?_)
      | (refine th_r ?_)
      | (refine in_r ?_)
      | (refine tri_ret ?_)
      | (refine tri_exit ?_)
      | (refine tri_block ?_)
      | (refine tri_step (id := 0) (C := ⟨[], [], [(3, (4, 0, 0)), (4, (5, 0, 0))]⟩) [2, 3, 4] [(4, 0, 0), (5, 0, 0)] g19 nodraw ?_; refine ⟨_, by (simp [*, F31, flg]; exact Is.mk), ?_⟩)
      | (refine tri_last (id := 0) (C := ⟨[], [], [(3, (4, 0, 0)), (4, (5, 0, 0))]⟩) [2, 3, 4] [(4, 0, 0), (5, 0, 0)] g19 nodraw ?_; refine ⟨_, by (simp [*, F31, flg]; exact Is.mk), ?_⟩)
      | (refine tri_stepG (id := 1) (C := ⟨[], [], [(3, (4, 0, 0)), (4, (5, 0, 0))]⟩) [2, 3, 4, 15] [(4, 0, 0), (5, 0, 0)] g19 nodraw ?_; refine ⟨_, (run_split 0 3 12 (by simp [*, F31, flg]; exact Is.mk) (by simp; exact IsB.mk) (by simp [*, F31, flg]; exact IsK.mk) (by simp [*, F31, flg]; exact IsK.mk) (by simp; exact IsK.mk)), ?_⟩)
      | (refine tri_lastG (id := 1) (C := ⟨[], [], [(3, (4, 0, 0)), (4, (5, 0, 0))]⟩) [2, 3, 4, 15] [(4, 0, 0), (5, 0, 0)] g19 nodraw ?_; refine ⟨_, (run_split 0 3 12 (by simp [*, F31, flg]; exact Is.mk) (by simp; exact IsB.mk) (by simp [*, F31, flg]; exact IsK.mk) (by simp [*, F31, flg]; exact IsK.mk) (by simp; exact IsK.mk)), ?_⟩)
      | (refine tri_step (id := 2) (C := ⟨[], [], [(3, (4, 0, 0)), (4, (5, 0, 0))]⟩) [6] [] g19 nodraw ?_; refine ⟨_, by (simp [*, F31, flg]; exact Is.mk), ?_⟩)
      | (refine tri_last (id := 2) (C := ⟨[], [], [(3, (4, 0, 0)), (4, (5, 0, 0))]⟩) [6] [] g19 nodraw ?_; refine ⟨_, by (simp [*, F31, flg]; exact Is.mk), ?_⟩)
      | (refine tri_step (id := 3) (C := ⟨[], [], [(3, (4, 0, 0)), (4, (5, 0, 0))]⟩) [2, 7, 8] [] g19 (fun _ => ⟨q_mixed, by kernel_rfl⟩) ?_; refine ⟨_, by (simp [*, F31, flg]; exact Is.mk), ?_⟩)
      | (refine tri_last (id := 3) (C := ⟨[], [], [(3, (4, 0, 0)), (4, (5, 0, 0))]⟩) [2, 7, 8] [] g19 (fun _ => ⟨q_mixed, by kernel_rfl⟩) ?_; refine ⟨_, by (simp [*, F31, flg]; exact Is.mk), ?_⟩)
      | (refine tri_step (id := 4) (C := ⟨[], [], [(3, (4, 0, 0)), (4, (5, 0, 0))]⟩) [7, 8, 9] [] g19 nodraw ?_; refine ⟨_, by (simp [*, F31, flg]; exact Is.mk), ?_⟩)
      | (refine tri_last (id := 4) (C := ⟨[], [], [(3, (4, 0, 0)), (4, (5, 0, 0))]⟩) [7, 8, 9] [] g19 nodraw ?_; refine ⟨_, by (simp [*, F31, flg]; exact Is.mk), ?_⟩)
      | (refine tri_step (id := 5) (C := ⟨[], [], [(3, (4, 0, 0)), (4, (5, 0, 0))]⟩) [7, 8, 9, 22] [] g19 nodraw ?_; refine ⟨_, by (simp [*, F31, flg]; exact Is.mk), ?_⟩)
      | (refine tri_last (id := 5) (C := ⟨[], [], [(3, (4, 0, 0)), (4, (5, 0, 0))]⟩) [7, 8, 9, 22] [] g19 nodraw ?_; refine ⟨_, by (simp [*, F31, flg]; exact Is.mk), ?_⟩)
      | (refine tri_step (id := 6) (C := ⟨[], [], [(3, (4, 0, 0)), (4, (5, 0, 0))]⟩) [7, 8, 9] [] g19 nodraw ?_; refine ⟨_, by (simp [*, F31, flg]; exact Is.mk), ?_⟩)
      | (refine tri_last (id := 6) (C := ⟨[], [], [(3, (4, 0, 0)), (4, (5, 0, 0))]⟩) [7, 8, 9] [] g19 nodraw ?_; refine ⟨_, by (simp [*, F31, flg]; exact Is.mk), ?_⟩)
      | (refine tri_step (id := 7) (C := ⟨[], [], [(3, (4, 0, 0)), (4, (5, 0, 0))]⟩) [7, 8, 9] [] g19 nodraw ?_; refine ⟨_, by (simp [*, F31, flg]; exact Is.mk), ?_⟩)
      | (refine tri_last (id := 7) (C := ⟨[], [], [(3, (4, 0, 0)), (4, (5, 0, 0))]⟩) [7, 8, 9] [] g19 nodraw ?_; refine ⟨_, by (simp [*, F31, flg]; exact Is.mk), ?_⟩)
      | (refine tri_step (id := 8) (C := ⟨[], [], [(3, (4, 0, 0)), (4, (5, 0, 0))]⟩) [6] [] g19 nodraw ?_; refine ⟨_, by (simp [*, F31, flg]; exact Is.mk), ?_⟩)
      | (refine tri_last (id := 8) (C := ⟨[], [], [(3, (4, 0, 0)), (4, (5, 0, 0))]⟩) [6] [] g19 nodraw ?_; refine ⟨_, by (simp [*, F31, flg]; exact Is.mk), ?_⟩)
      | (refine tri_cond (c := .tmp 15) (b_true (by simp; exact IsB.mk)) (fun hc => ?_) (fun hc => ?_))
      | (refine tri_cond (c := .tmp 22) (b_true (by simp; exact IsB.mk)) (fun hc => ?_) (fun hc => ?_))
      | (refine to_mk (by simp; exact IsK.mk))
      | (refine imp_ ?_)
      | ((simp; exact IsK.mk))
      | (refine tri_seq ?_)
      ))
    all_goals (refine post_plainV (P := Tryd.prog) (fn := Tryd.f19) (by simp; exact IsV.mk) rfl ?_)
    all_goals (simp [hx]; done)
  by_cases hb2 : 32 < bits
  · have hx := within_high (a := a) (b := b) hb2
    all_goals (repeat' (first
      | (refine tri_condT (b_true (by simp; with_reducible exact IsB.mk)) ?_)
      | (refine tri_condF (b_true (by simp; with_reducible exact IsB.mk)) ?_)
      | (refine tri_skipT ?_)
      | (refine tri_skip ?_)
      | (refine then_to ?_)
      | (refine th_n ?_)
      | (refine in_n ?_)
      | (refine in_e ?_)
      | (refine in_x rfl ?_)
      | (refine th_e ?_)
      | (refine th_r ?_)
      | (refine in_r ?_)
      | (refine tri_ret ?_)
      | (refine tri_exit ?_)
      | (refine tri_block ?_)
      | (refine tri_step (id := 0) (C := ⟨[], [], [(3, (4, 0, 0)), (4, (5, 0, 0))]⟩) [2, 3, 4] [(4, 0, 0), (5, 0, 0)] g19 nodraw ?_; refine ⟨_, by (simp [*, F31, flg]; exact Is.mk), ?_⟩)
      | (refine tri_last (id := 0) (C := ⟨[], [], [(3, (4, 0, 0)), (4, (5, 0, 0))]⟩) [2, 3, 4] [(4, 0, 0), (5, 0, 0)] g19 nodraw ?_; refine ⟨_, by (simp [*, F31, flg]; exact Is.mk), ?_⟩)
      | (refine tri_stepG (id := 1) (C := ⟨[], [], [(3, (4, 0, 0)), (4, (5, 0, 0))]⟩) [2, 3, 4, 15] [(4, 0, 0), (5, 0, 0)] g19 nodraw ?_; refine ⟨_, (run_split 0 3 12 (by simp [*, F31, flg]; exact Is.mk) (by simp; exact IsB.mk) (by simp [*, F31, flg]; exact IsK.mk) (by simp [*, F31, flg]; exact IsK.mk) (by simp; exact IsK.mk)), ?_⟩)
      | (refine tri_lastG (id := 1) (C := ⟨[], [], [(3, (4, 0, 0)), (4, (5, 0, 0))]⟩) [2, 3, 4, 15] [(4, 0, 0), (5, 0, 0)] g19 nodraw ?_; refine ⟨_, (run_split 0 3 12 (by simp [*, F31, flg]; exact Is.mk) (by simp; exact IsB.mk) (by simp [*, F31, flg]; exact IsK.mk) (by simp [*, F31, flg]; exact IsK.mk) (by simp; exact IsK.mk)), ?_⟩)
      | (refine tri_step (id := 2) (C := ⟨[], [], [(3, (4, 0, 0)), (4, (5, 0, 0))]⟩) [6] [] g19 nodraw ?_; refine ⟨_, by (simp [*, F31, flg]; exact Is.mk), ?_⟩)
      | (refine tri_last (id := 2) (C := ⟨[], [], [(3, (4, 0, 0)), (4, (5, 0, 0))]⟩) [6] [] g19 nodraw ?_; refine ⟨_, by (simp [*, F31, flg]; exact Is.mk), ?_⟩)
      | (refine tri_step (id := 3) (C := ⟨[], [], [(3, (4, 0, 0)), (4, (5, 0, 0))]⟩) [2, 7, 8] [] g19 (fun _ => ⟨q_mixed, by kernel_rfl⟩) ?_; refine ⟨_, by (simp [*, F31, flg]; exact Is.mk), ?_⟩)
      | (refine tri_last (id := 3) (C := ⟨[], [], [(3, (4, 0, 0)), (4, (5, 0, 0))]⟩) [2, 7, 8] [] g19 (fun _ => ⟨q_mixed, by kernel_rfl⟩) ?_; refine ⟨_, by (simp [*, F31, flg]; exact Is.mk), ?_⟩)
      | (refine tri_step (id := 4) (C := ⟨[], [], [(3, (4, 0, 0)), (4, (5, 0, 0))]⟩) [7, 8, 9] [] g19 nodraw ?_; refine ⟨_, by (simp [*, F31, flg]; exact Is.mk), ?_⟩)
      | (refine tri_last (id := 4) (C := ⟨[], [], [(3, (4, 0, 0)), (4, (5, 0, 0))]⟩) [7, 8, 9] [] g19 nodraw ?_; refine ⟨_, by (simp [*, F31, flg]; exact Is.mk), ?_⟩)
      | (refine tri_step (id := 5) (C := ⟨[], [], [(3, (4, 0, 0)), (4, (5, 0, 0))]⟩) [7, 8, 9, 22] [] g19 nodraw ?_; refine ⟨_, by (simp [*, F31, flg]; exact Is.mk), ?_⟩)
      | (refine tri_last (id := 5) (C := ⟨[], [], [(3, (4, 0, 0)), (4, (5, 0, 0))]⟩) [7, 8, 9, 22] [] g19 nodraw ?_; refine ⟨_, by (simp [*, F31, flg]; exact Is.mk), ?_⟩)
      | (refine tri_step (id := 6) (C := ⟨[], [], [(3, (4, 0, 0)), (4, (5, 0, 0))]⟩) [7, 8, 9] [] g19 nodraw ?_; refine ⟨_, by (simp [*, F31, flg]; exact Is.mk), ?_⟩)
      | (refine tri_last (id := 6) (C := ⟨[], [], [(3, (4, 0, 0)), (4, (5, 0, 0))]⟩) [7, 8, 9] [] g19 nodraw ?_; refine ⟨_, by (simp [*, F31, flg]; exact Is.mk), ?_⟩)
      | (refine tri_step (id := 7) (C := ⟨[], [], [(3, (4, 0, 0)), (4, (5, 0, 0))]⟩) [7, 8, 9] [] g19 nodraw ?_; refine ⟨_, by (simp [*, F31, flg]; exact Is.mk), ?_⟩)
      | (refine tri_last (id := 7) (C := ⟨[], [], [(3, (4, 0, 0)), (4, (5, 0, 0))]⟩) [7, 8, 9] [] g19 nodraw ?_; refine ⟨_, by (simp [*, F31, flg]; exact Is.mk), ?_⟩)
      | (refine tri_step (id := 8) (C := ⟨[], [], [(3, (4, 0, 0)), (4, (5, 0, 0))]⟩) [6] [] g19 nodraw ?_; refine ⟨_, by (simp [*, F31, flg]; exact Is.mk), ?_⟩)
      | (refine tri_last (id := 8) (C := ⟨[], [], [(3, (4, 0, 0)), (4, (5, 0, 0))]⟩) [6] [] g19 nodraw ?_; refine ⟨_, by (simp [*, F31, flg]; exact Is.mk), ?_⟩)
      | (refine tri_cond (c := .tmp 15) (b_true (by simp; exact IsB.mk)) (fun hc => ?_) (fun hc => ?_))
      | (refine tri_cond (c := .tmp 22) (b_true (by simp; exact IsB.mk)) (fun hc => ?_) (fun hc => ?_))
      | (refine to_mk (by simp; exact IsK.mk))
      | (refine imp_ ?_)
      | ((simp; exact IsK.mk))
      | (refine tri_seq ?_)
      ))
    all_goals (refine post_plainV (P := Tryd.prog) (fn := Tryd.f19) (by simp; exact IsV.mk) rfl ?_)
    all_goals (simp [hx]; done)
  have hx := within_word p1 p2 hb hb2
  have hA := wordN_lt p1
  have hB := wordN_lt p2
  all_goals (repeat' (first
      | (refine tri_condT (b_true (by simp; with_reducible exact IsB.mk)) ?_)
      | (refine tri_condF (b_true (by simp; with_reducible exact IsB.mk)) ?_)
      | (refine tri_skipT ?_)
      | (refine tri_skip ?_)
      | (refine then_to ?_)
      | (refine th_n ?_)
      | (refine in_n ?_)
      | (refine in_e ?_)
      | (refine in_x rfl ?_)
      | (refine th_e ?_)
      | (refine th_r ?_)
      | (refine in_r ?_)
      | (refine tri_ret ?_)
      | (refine tri_exit ?_)
      | (refine tri_block ?_)
      | (refine tri_step (id := 0) (C := ⟨[], [], [(3, (4, 0, 0)), (4, (5, 0, 0))]⟩) [2, 3, 4] [(4, 0, 0), (5, 0, 0)] g19 nodraw ?_; refine ⟨_, by (simp [*, F31, flg]; exact Is.mk), ?_⟩)
      | (refine tri_last (id := 0) (C := ⟨[], [], [(3, (4, 0, 0)), (4, (5, 0, 0))]⟩) [2, 3, 4] [(4, 0, 0), (5, 0, 0)] g19 nodraw ?_; refine ⟨_, by (simp [*, F31, flg]; exact Is.mk), ?_⟩)
      | (refine tri_stepG (id := 1) (C := ⟨[], [], [(3, (4, 0, 0)), (4, (5, 0, 0))]⟩) [2, 3, 4, 15] [(4, 0, 0), (5, 0, 0)] g19 nodraw ?_; refine ⟨_, (run_split 0 3 12 (by simp [*, F31, flg]; exact Is.mk) (by simp; exact IsB.mk) (by simp [*, F31, flg]; exact IsK.mk) (by simp [*, F31, flg]; exact IsK.mk) (by simp; exact IsK.mk)), ?_⟩)
      | (refine tri_lastG (id := 1) (C := ⟨[], [], [(3, (4, 0, 0)), (4, (5, 0, 0))]⟩) [2, 3, 4, 15] [(4, 0, 0), (5, 0, 0)] g19 nodraw ?_; refine ⟨_, (run_split 0 3 12 (by simp [*, F31, flg]; exact Is.mk) (by simp; exact IsB.mk) (by simp [*, F31, flg]; exact IsK.mk) (by simp [*, F31, flg]; exact IsK.mk) (by simp; exact IsK.mk)), ?_⟩)
      | (refine tri_step (id := 2) (C := ⟨[], [], [(3, (4, 0, 0)), (4, (5, 0, 0))]⟩) [6] [] g19 nodraw ?_; refine ⟨_, by (simp [*, F31, flg]; exact Is.mk), ?_⟩)
      | (refine tri_last (id := 2) (C := ⟨[], [], [(3, (4, 0, 0)), (4, (5, 0, 0))]⟩) [6] [] g19 nodraw ?_; refine ⟨_, by (simp [*, F31, flg]; exact Is.mk), ?_⟩)
      | (refine tri_step (id := 3) (C := ⟨[], [], [(3, (4, 0, 0)), (4, (5, 0, 0))]⟩) [2, 7, 8] [] g19 (fun _ => ⟨q_mixed, by kernel_rfl⟩) ?_; refine ⟨_, by (simp [*, F31, flg]; exact Is.mk), ?_⟩)
      | (refine tri_last (id := 3) (C := ⟨[], [], [(3, (4, 0, 0)), (4, (5, 0, 0))]⟩) [2, 7, 8] [] g19 (fun _ => ⟨q_mixed, by kernel_rfl⟩) ?_; refine ⟨_, by (simp [*, F31, flg]; exact Is.mk), ?_⟩)
      | (refine tri_step (id := 4) (C := ⟨[], [], [(3, (4, 0, 0)), (4, (5, 0, 0))]⟩) [7, 8, 9] [] g19 nodraw ?_; refine ⟨_, by (simp [*, F31, flg]; exact Is.mk), ?_⟩)
      | (refine tri_last (id := 4) (C := ⟨[], [], [(3, (4, 0, 0)), (4, (5, 0, 0))]⟩) [7, 8, 9] [] g19 nodraw ?_; refine ⟨_, by (simp [*, F31, flg]; exact Is.mk), ?_⟩)
      | (refine tri_step (id := 5) (C := ⟨[], [], [(3, (4, 0, 0)), (4, (5, 0, 0))]⟩) [7, 8, 9, 22] [] g19 nodraw ?_; refine ⟨_, by (simp [*, F31, flg]; exact Is.mk), ?_⟩)
      | (refine tri_last (id := 5) (C := ⟨[], [], [(3, (4, 0, 0)), (4, (5, 0, 0))]⟩) [7, 8, 9, 22] [] g19 nodraw ?_; refine ⟨_, by (simp [*, F31, flg]; exact Is.mk), ?_⟩)
      | (refine tri_step (id := 6) (C := ⟨[], [], [(3, (4, 0, 0)), (4, (5, 0, 0))]⟩) [7, 8, 9] [] g19 nodraw ?_; refine ⟨_, by (simp [*, F31, flg]; exact Is.mk), ?_⟩)
      | (refine tri_last (id := 6) (C := ⟨[], [], [(3, (4, 0, 0)), (4, (5, 0, 0))]⟩) [7, 8, 9] [] g19 nodraw ?_; refine ⟨_, by (simp [*, F31, flg]; exact Is.mk), ?_⟩)
      | (refine tri_step (id := 7) (C := ⟨[], [], [(3, (4, 0, 0)), (4, (5, 0, 0))]⟩) [7, 8, 9] [] g19 nodraw ?_; refine ⟨_, by (simp [*, F31, flg]; exact Is.mk), ?_⟩)
      | (refine tri_last (id := 7) (C := ⟨[], [], [(3, (4, 0, 0)), (4, (5, 0, 0))]⟩) [7, 8, 9] [] g19 nodraw ?_; refine ⟨_, by (simp [*, F31, flg]; exact Is.mk), ?_⟩)
      | (refine tri_step (id := 8) (C := ⟨[], [], [(3, (4, 0, 0)), (4, (5, 0, 0))]⟩) [6] [] g19 nodraw ?_; refine ⟨_, by (simp [*, F31, flg]; exact Is.mk), ?_⟩)
      | (refine tri_last (id := 8) (C := ⟨[], [], [(3, (4, 0, 0)), (4, (5, 0, 0))]⟩) [6] [] g19 nodraw ?_; refine ⟨_, by (simp [*, F31, flg]; exact Is.mk), ?_⟩)
      | (refine tri_cond (c := .tmp 15) (b_true (by simp; exact IsB.mk)) (fun hc => ?_) (fun hc => ?_))
      | (refine tri_cond (c := .tmp 22) (b_true (by simp; exact IsB.mk)) (fun hc => ?_) (fun hc => ?_))
      | (refine to_mk (by simp; exact IsK.mk))
      | (refine imp_ ?_)
      | ((simp; exact IsK.mk))
      | (refine tri_seq ?_)
      ))
  refine tri_loop (fun n st => ∃ (k : Nat) (i : Int) (x y : Nat), (i = bits + k ∧ x = wordN a >>> k ∧ y = wordN b >>> k) ∧ i ≤ 32 ∧ n = (32 - i).toNat ∧ st = mkSt [(7, .v (.int .i64 (x : Int))), (8, .v (.int .i64 (y : Int))), (9, .v (.int .i64 i))] []) (32 - bits).toNat _ (Le.refl _) ⟨0, bits, _, _, ⟨by omega, rfl, rfl⟩, by omega, rfl, rfl⟩ ?_
  rintro n st ⟨k, i, x, y, ⟨hi, ex, ey⟩, hi2, hn, rfl⟩
  by_cases hlt : i < 32
  · have f1 := half2 x (by rw [ex]; exact shift_lt hA k)
    have f2 := half2 y (by rw [ey]; exact shift_lt hB k)
    have f3 : IntKind.wrap .i64 (i + 1) = i + 1 := wrap_i64 (by omega)
    have f4 : x / 2 = wordN a >>> (k + 1) := by rw [ex, shift_half]
    have f5 : y / 2 = wordN b >>> (k + 1) := by rw [ey, shift_half]
    have f6 : i + 1 = bits + (k + 1 : Nat) := by omega
    generalize x / 2 = x2 at *
    generalize y / 2 = y2 at *
    have f7 := And.intro f6 (And.intro f4 f5)
    clear hx hi ex ey f4 f5 f6 hA hB
    revert f7
    generalize hT : (i + 1 = bits + (k + 1 : Nat) ∧ x2 = wordN a >>> (k + 1) ∧ y2 = wordN b >>> (k + 1)) = T
    intro f7
    all_goals (repeat' (first
      | (refine tri_condT (b_true (by simp; with_reducible exact IsB.mk)) ?_)
      | (refine tri_condF (b_true (by simp; with_reducible exact IsB.mk)) ?_)
      | (refine tri_skipT ?_)
      | (refine tri_skip ?_)
      | (refine then_to ?_)
      | (refine th_n ?_)
      | (refine in_n ?_)
      | (refine in_e ?_)
      | (refine in_x rfl ?_)
      | (refine th_e ?_)
      | (refine th_r ?_)
      | (refine in_r ?_)
      | (refine tri_ret ?_)
      | (refine tri_exit ?_)
      | (refine tri_block ?_)
      | (refine tri_step (id := 0) (C := ⟨[], [], [(3, (4, 0, 0)), (4, (5, 0, 0))]⟩) [2, 3, 4] [(4, 0, 0), (5, 0, 0)] g19 nodraw ?_; refine ⟨_, by (simp [*, F31, flg]; exact Is.mk), ?_⟩)
      | (refine tri_last (id := 0) (C := ⟨[], [], [(3, (4, 0, 0)), (4, (5, 0, 0))]⟩) [2, 3, 4] [(4, 0, 0), (5, 0, 0)] g19 nodraw ?_; refine ⟨_, by (simp [*, F31, flg]; exact Is.mk), ?_⟩)
      | (refine tri_stepG (id := 1) (C := ⟨[], [], [(3, (4, 0, 0)), (4, (5, 0, 0))]⟩) [2, 3, 4, 15] [(4, 0, 0), (5, 0, 0)] g19 nodraw ?_; refine ⟨_, (run_split 0 3 12 (by simp [*, F31, flg]; exact Is.mk) (by simp; exact IsB.mk) (by simp [*, F31, flg]; exact IsK.mk) (by simp [*, F31, flg]; exact IsK.mk) (by simp; exact IsK.mk)), ?_⟩)
      | (refine tri_lastG (id := 1) (C := ⟨[], [], [(3, (4, 0, 0)), (4, (5, 0, 0))]⟩) [2, 3, 4, 15] [(4, 0, 0), (5, 0, 0)] g19 nodraw ?_; refine ⟨_, (run_split 0 3 12 (by simp [*, F31, flg]; exact Is.mk) (by simp; exact IsB.mk) (by simp [*, F31, flg]; exact IsK.mk) (by simp [*, F31, flg]; exact IsK.mk) (by simp; exact IsK.mk)), ?_⟩)
      | (refine tri_step (id := 2) (C := ⟨[], [], [(3, (4, 0, 0)), (4, (5, 0, 0))]⟩) [6] [] g19 nodraw ?_; refine ⟨_, by (simp [*, F31, flg]; exact Is.mk), ?_⟩)
      | (refine tri_last (id := 2) (C := ⟨[], [], [(3, (4, 0, 0)), (4, (5, 0, 0))]⟩) [6] [] g19 nodraw ?_; refine ⟨_, by (simp [*, F31, flg]; exact Is.mk), ?_⟩)
      | (refine tri_step (id := 3) (C := ⟨[], [], [(3, (4, 0, 0)), (4, (5, 0, 0))]⟩) [2, 7, 8] [] g19 (fun _ => ⟨q_mixed, by kernel_rfl⟩) ?_; refine ⟨_, by (simp [*, F31, flg]; exact Is.mk), ?_⟩)
      | (refine tri_last (id := 3) (C := ⟨[], [], [(3, (4, 0, 0)), (4, (5, 0, 0))]⟩) [2, 7, 8] [] g19 (fun _ => ⟨q_mixed, by kernel_rfl⟩) ?_; refine ⟨_, by (simp [*, F31, flg]; exact Is.mk), ?_⟩)
      | (refine tri_step (id := 4) (C := ⟨[], [], [(3, (4, 0, 0)), (4, (5, 0, 0))]⟩) [7, 8, 9] [] g19 nodraw ?_; refine ⟨_, by (simp [*, F31, flg]; exact Is.mk), ?_⟩)
      | (refine tri_last (id := 4) (C := ⟨[], [], [(3, (4, 0, 0)), (4, (5, 0, 0))]⟩) [7, 8, 9] [] g19 nodraw ?_; refine ⟨_, by (simp [*, F31, flg]; exact Is.mk), ?_⟩)
      | (refine tri_step (id := 5) (C := ⟨[], [], [(3, (4, 0, 0)), (4, (5, 0, 0))]⟩) [7, 8, 9, 22] [] g19 nodraw ?_; refine ⟨_, by (simp [*, F31, flg]; exact Is.mk), ?_⟩)
      | (refine tri_last (id := 5) (C := ⟨[], [], [(3, (4, 0, 0)), (4, (5, 0, 0))]⟩) [7, 8, 9, 22] [] g19 nodraw ?_; refine ⟨_, by (simp [*, F31, flg]; exact Is.mk), ?_⟩)
      | (refine tri_step (id := 6) (C := ⟨[], [], [(3, (4, 0, 0)), (4, (5, 0, 0))]⟩) [7, 8, 9] [] g19 nodraw ?_; refine ⟨_, by (simp [*, F31, flg]; exact Is.mk), ?_⟩)
      | (refine tri_last (id := 6) (C := ⟨[], [], [(3, (4, 0, 0)), (4, (5, 0, 0))]⟩) [7, 8, 9] [] g19 nodraw ?_; refine ⟨_, by (simp [*, F31, flg]; exact Is.mk), ?_⟩)
      | (refine tri_step (id := 7) (C := ⟨[], [], [(3, (4, 0, 0)), (4, (5, 0, 0))]⟩) [7, 8, 9] [] g19 nodraw ?_; refine ⟨_, by (simp [*, F31, flg]; exact Is.mk), ?_⟩)
      | (refine tri_last (id := 7) (C := ⟨[], [], [(3, (4, 0, 0)), (4, (5, 0, 0))]⟩) [7, 8, 9] [] g19 nodraw ?_; refine ⟨_, by (simp [*, F31, flg]; exact Is.mk), ?_⟩)
      | (refine tri_step (id := 8) (C := ⟨[], [], [(3, (4, 0, 0)), (4, (5, 0, 0))]⟩) [6] [] g19 nodraw ?_; refine ⟨_, by (simp [*, F31, flg]; exact Is.mk), ?_⟩)
      | (refine tri_last (id := 8) (C := ⟨[], [], [(3, (4, 0, 0)), (4, (5, 0, 0))]⟩) [6] [] g19 nodraw ?_; refine ⟨_, by (simp [*, F31, flg]; exact Is.mk), ?_⟩)
      | (refine tri_cond (c := .tmp 15) (b_true (by simp; exact IsB.mk)) (fun hc => ?_) (fun hc => ?_))
      | (refine tri_cond (c := .tmp 22) (b_true (by simp; exact IsB.mk)) (fun hc => ?_) (fun hc => ?_))
      | (refine to_mk (by simp; exact IsK.mk))
      | (refine imp_ ?_)
      | ((simp; exact IsK.mk))
      | (refine tri_seq ?_)
      ))
    exact ⟨(32 - (i + 1)).toNat, _, by omega, Le.refl _, k + 1, i + 1, x2, y2, by rw [hT]; exact f7, by omega, rfl, rfl⟩
  · have hk : (32 - bits).toNat = k := by omega
    rw [hk, ← ex, ← ey] at hx
    have hz := natEqD x y
    clear hn hi hA hB ex ey hk
    all_goals (repeat' (first
      | (refine tri_condT (b_true (by simp; with_reducible exact IsB.mk)) ?_)
      | (refine tri_condF (b_true (by simp; with_reducible exact IsB.mk)) ?_)
      | (refine tri_skipT ?_)
      | (refine tri_skip ?_)
      | (refine then_to ?_)
      | (refine th_n ?_)
      | (refine in_n ?_)
      | (refine in_e ?_)
      | (refine in_x rfl ?_)
      | (refine th_e ?_)
      | (refine th_r ?_)
      | (refine in_r ?_)
      | (refine tri_ret ?_)
      | (refine tri_exit ?_)
      | (refine tri_block ?_)
      | (refine tri_step (id := 0) (C := ⟨[], [], [(3, (4, 0, 0)), (4, (5, 0, 0))]⟩) [2, 3, 4] [(4, 0, 0), (5, 0, 0)] g19 nodraw ?_; refine ⟨_, by (simp [*, F31, flg]; exact Is.mk), ?_⟩)
      | (refine tri_last (id := 0) (C := ⟨[], [], [(3, (4, 0, 0)), (4, (5, 0, 0))]⟩) [2, 3, 4] [(4, 0, 0), (5, 0, 0)] g19 nodraw ?_; refine ⟨_, by (simp [*, F31, flg]; exact Is.mk), ?_⟩)
      | (refine tri_stepG (id := 1) (C := ⟨[], [], [(3, (4, 0, 0)), (4, (5, 0, 0))]⟩) [2, 3, 4, 15] [(4, 0, 0), (5, 0, 0)] g19 nodraw ?_; refine ⟨_, (run_split 0 3 12 (by simp [*, F31, flg]; exact Is.mk) (by simp; exact IsB.mk) (by simp [*, F31, flg]; exact IsK.mk) (by simp [*, F31, flg]; exact IsK.mk) (by simp; exact IsK.mk)), ?_⟩)
      | (refine tri_lastG (id := 1) (C := ⟨[], [], [(3, (4, 0, 0)), (4, (5, 0, 0))]⟩) [2, 3, 4, 15] [(4, 0, 0), (5, 0, 0)] g19 nodraw ?_; refine ⟨_, (run_split 0 3 12 (by simp [*, F31, flg]; exact Is.mk) (by simp; exact IsB.mk) (by simp [*, F31, flg]; exact IsK.mk) (by simp [*, F31, flg]; exact IsK.mk) (by simp; exact IsK.mk)), ?_⟩)
      | (refine tri_step (id := 2) (C := ⟨[], [], [(3, (4, 0, 0)), (4, (5, 0, 0))]⟩) [6] [] g19 nodraw ?_; refine ⟨_, by (simp [*, F31, flg]; exact Is.mk), ?_⟩)
      | (refine tri_last (id := 2) (C := ⟨[], [], [(3, (4, 0, 0)), (4, (5, 0, 0))]⟩) [6] [] g19 nodraw ?_; refine ⟨_, by (simp [*, F31, flg]; exact Is.mk), ?_⟩)
      | (refine tri_step (id := 3) (C := ⟨[], [], [(3, (4, 0, 0)), (4, (5, 0, 0))]⟩) [2, 7, 8] [] g19 (fun _ => ⟨q_mixed, by kernel_rfl⟩) ?_; refine ⟨_, by (simp [*, F31, flg]; exact Is.mk), ?_⟩)
      | (refine tri_last (id := 3) (C := ⟨[], [], [(3, (4, 0, 0)), (4, (5, 0, 0))]⟩) [2, 7, 8] [] g19 (fun _ => ⟨q_mixed, by kernel_rfl⟩) ?_; refine ⟨_, by (simp [*, F31, flg]; exact Is.mk), ?_⟩)
      | (refine tri_step (id := 4) (C := ⟨[], [], [(3, (4, 0, 0)), (4, (5, 0, 0))]⟩) [7, 8, 9] [] g19 nodraw ?_; refine ⟨_, by (simp [*, F31, flg]; exact Is.mk), ?_⟩)
      | (refine tri_last (id := 4) (C := ⟨[], [], [(3, (4, 0, 0)), (4, (5, 0, 0))]⟩) [7, 8, 9] [] g19 nodraw ?_; refine ⟨_, by (simp [*, F31, flg]; exact Is.mk), ?_⟩)
      | (refine tri_step (id := 5) (C := ⟨[], [], [(3, (4, 0, 0)), (4, (5, 0, 0))]⟩) [7, 8, 9, 22] [] g19 nodraw ?_; refine ⟨_, by (simp [*, F31, flg]; exact Is.mk), ?_⟩)
      | (refine tri_last (id := 5) (C := ⟨[], [], [(3, (4, 0, 0)), (4, (5, 0, 0))]⟩) [7, 8, 9, 22] [] g19 nodraw ?_; refine ⟨_, by (simp [*, F31, flg]; exact Is.mk), ?_⟩)
      | (refine tri_step (id := 6) (C := ⟨[], [], [(3, (4, 0, 0)), (4, (5, 0, 0))]⟩) [7, 8, 9] [] g19 nodraw ?_; refine ⟨_, by (simp [*, F31, flg]; exact Is.mk), ?_⟩)
      | (refine tri_last (id := 6) (C := ⟨[], [], [(3, (4, 0, 0)), (4, (5, 0, 0))]⟩) [7, 8, 9] [] g19 nodraw ?_; refine ⟨_, by (simp [*, F31, flg]; exact Is.mk), ?_⟩)
      | (refine tri_step (id := 7) (C := ⟨[], [], [(3, (4, 0, 0)), (4, (5, 0, 0))]⟩) [7, 8, 9] [] g19 nodraw ?_; refine ⟨_, by (simp [*, F31, flg]; exact Is.mk), ?_⟩)
      | (refine tri_last (id := 7) (C := ⟨[], [], [(3, (4, 0, 0)), (4, (5, 0, 0))]⟩) [7, 8, 9] [] g19 nodraw ?_; refine ⟨_, by (simp [*, F31, flg]; exact Is.mk), ?_⟩)
      | (refine tri_step (id := 8) (C := ⟨[], [], [(3, (4, 0, 0)), (4, (5, 0, 0))]⟩) [6] [] g19 nodraw ?_; refine ⟨_, by (simp [*, F31, flg]; exact Is.mk), ?_⟩)
      | (refine tri_last (id := 8) (C := ⟨[], [], [(3, (4, 0, 0)), (4, (5, 0, 0))]⟩) [6] [] g19 nodraw ?_; refine ⟨_, by (simp [*, F31, flg]; exact Is.mk), ?_⟩)
      | (refine tri_cond (c := .tmp 15) (b_true (by simp; exact IsB.mk)) (fun hc => ?_) (fun hc => ?_))
      | (refine tri_cond (c := .tmp 22) (b_true (by simp; exact IsB.mk)) (fun hc => ?_) (fun hc => ?_))
      | (refine to_mk (by simp; exact IsK.mk))
      | (refine imp_ ?_)
      | ((simp; exact IsK.mk))
      | (refine tri_seq ?_)
      ))
    all_goals (refine post_plainV (P := Tryd.prog) (fn := Tryd.f19) (by simp; exact IsV.mk) rfl ?_)
    all_goals (simp [hx, hz]; done)
open Classical in
noncomputable def F19 : Fn1
  | [x0, x1, x2] => (whole pIp x0).bind fun a => (whole pIp x1).bind fun b => (dI .i64 x2).bind fun bits => if Ip8 a ∧ Ip8 b then some ((.v (.bool (within a b bits))), none) else none
  | _ => none
theorem spec19 : Spec1 Tryd.prog 19 F19 := spec_of fun ys r o h => by
  unfold F19 at h
  split at h
  case h_2 => cases h
  obtain ⟨a, k0, h1⟩ := bind_some h
  obtain ⟨b, k1, h2⟩ := bind_some h1
  obtain ⟨bits, k2, h3⟩ := bind_some h2
  obtain ⟨hpre, hz⟩ := ite_some h3
  cases hz
  exact ⟨_, at19 a b bits hpre, rfl, le_plain ⟨whole_co pIp_snd k0, ⟨whole_co pIp_snd k1, ⟨dI_co k2, trivial⟩⟩⟩ (by simp only [List.all_cons, List.all_nil, Bool.not_false, Bool.and_self, notRefB (whole_co pIp_snd k0) rfl (by simp), notRefB (whole_co pIp_snd k1) rfl (by simp), notRefB (dI_co k2) rfl (by simp)]) rfl⟩
theorem en19 : Enters Tryd.prog 19 := enters_of Tryd.func19 (by kernel_rfl) rfl

end Go.Proofs.YtkmjoppcecffkaaDoor

set_option linter.all false
/-! Addresses, compared. -/
namespace Go.Proofs.YtkmjoppcecffkaaDoor
open Go Go.RowKit Caw
theorem eq_intG {t : TypeId} {k0 : IntKind} (hu : Tryd.prog.underlying t = some (.int k0)) (d : Nat) (k : IntKind) (a b : Int) : prun Tryd.prog (Op.equalIn (d + 1) t (.int k a) (.int k b)) = some (a == b) := by
  rw [Op.equalIn, prun_bind, prun_und hu]
  simp [prun_pure]
theorem eq_ipG (d : Nat) (a b c e p q r t : Int) : prun Tryd.prog (Op.equalIn (d + 2) 23 (.agg #[.int .u8 a, .int .u8 b, .int .u8 c, .int .u8 e]) (.agg #[.int .u8 p, .int .u8 q, .int .u8 r, .int .u8 t])) = some (a == p && b == q && c == r && e == t) := by
  have p0 : ∀ a b c e : Int, prun Tryd.prog (part 5 #[.int .u8 a, .int .u8 b, .int .u8 c, .int .u8 e] 0) = some (.int .u8 a) := fun _ _ _ _ => by kernel_rfl
  have p1 : ∀ a b c e : Int, prun Tryd.prog (part 5 #[.int .u8 a, .int .u8 b, .int .u8 c, .int .u8 e] 1) = some (.int .u8 b) := fun _ _ _ _ => by kernel_rfl
  have p2 : ∀ a b c e : Int, prun Tryd.prog (part 5 #[.int .u8 a, .int .u8 b, .int .u8 c, .int .u8 e] 2) = some (.int .u8 c) := fun _ _ _ _ => by kernel_rfl
  have p3 : ∀ a b c e : Int, prun Tryd.prog (part 5 #[.int .u8 a, .int .u8 b, .int .u8 c, .int .u8 e] 3) = some (.int .u8 e) := fun _ _ _ _ => by kernel_rfl
  have ps : prun Tryd.prog (Go.sizeOf 5) = some 1 := by kernel_rfl
  rw [Op.equalIn, prun_bind, prun_und Tryd.underlying23]
  by_cases h0 : a = p <;> by_cases h1 : b = q <;> by_cases h2 : c = r <;> by_cases h3 : e = t <;>
  simp [prun_bind, prun_pure, prun_prog, ps, p0, p1, p2, p3, eq_intG Tryd.underlying5, List.range', Std.Legacy.Range.forIn_eq_forIn_range', h0, h1, h2, h3]
end Go.Proofs.YtkmjoppcecffkaaDoor
namespace Go.Proofs.YtkmjoppcecffkaaDoor
open Go Go.RowKit Caw
@[simp] theorem ops_eq23 (x y : Operand) (n : TypeId) : (Op.binOp .eql 23 x y n).operands = #[x, y] := by simp [Op.operands]
def asIp : Value → Option (Int × Int × Int × Int)
  | .agg a => match a.toList with
    | [.int .u8 a, .int .u8 b, .int .u8 c, .int .u8 d] => some (a, b, c, d)
    | _ => none
  | _ => none
theorem asIp_eq {v : Value} {a b c d : Int} (h : asIp v = some (a, b, c, d)) : v = .agg #[.int .u8 a, .int .u8 b, .int .u8 c, .int .u8 d] := by
  unfold asIp at h
  split at h
  · rename_i xs
    split at h
    · rename_i e
      obtain ⟨l⟩ := xs
      simp only at e
      cases h
      rw [e]
    · cases h
  · cases h
def eqIp (x y : Value) : Option Value := match asIp x, asIp y with
  | some (a, b, c, d), some (p, q, r, t) => some (.bool (a == p && b == q && c == r && d == t))
  | _, _ => none
@[simp] theorem prun_eqIp (g : Operand → Value) (x y : Operand) (dd : Option Tmp) (n ty : TypeId) (pos : String) (af : Array Edge) (gu : Option (Nat × Bool)) (h : (eqIp (g x) (g y)).isSome = true) :
    prun Tryd.prog (execOp g ⟨dd, .binOp .eql 23 x y n, ty, pos, af, gu⟩) = (eqIp (g x) (g y)).map .value := by
  obtain ⟨v, hv⟩ := Option.isSome_iff_exists.1 h
  rw [hv]
  unfold eqIp at hv
  split at hv
  case h_2 => cases hv
  rename_i a b c d p q r t e1 e2
  cases hv
  have ex := asIp_eq e1
  have ey := asIp_eq e2
  have g0 : prun Tryd.prog (eqGuard .eql 23 x y (.agg #[.int .u8 a, .int .u8 b, .int .u8 c, .int .u8 d]) (.agg #[.int .u8 p, .int .u8 q, .int .u8 r, .int .u8 t])) = some () := by kernel_rfl
  have g1 : prun Tryd.prog (Op.equal 23 (.agg #[.int .u8 a, .int .u8 b, .int .u8 c, .int .u8 d]) (.agg #[.int .u8 p, .int .u8 q, .int .u8 r, .int .u8 t])) = some (a == p && b == q && c == r && d == t) := eq_ipG 9998 a b c d p q r t
  unfold execOp
  simp only []
  rw [ex, ey]
  simp [prun_bind, prun_pure, prun_map, g0, binOp, g1]
@[simp] theorem asIp_agg (a b c d : Int) : asIp (.agg #[.int .u8 a, .int .u8 b, .int .u8 c, .int .u8 d]) = some (a, b, c, d) := rfl
attribute [simp] eqIp
end Go.Proofs.YtkmjoppcecffkaaDoor

