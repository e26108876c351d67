import Derived.Test.YtljlhooodbfpiaaGreatDoorK16
import Derived.Test.YtljlhooodbfpiaaGreatDoorK12
set_option linter.all false
-- Printed by genwalk.py.
namespace Go.Proofs.YtljlhooodbfpiaaGreatDoor
open Go Go.RowKit Caw
set_option linter.unusedSimpArgs false
set_option linter.unusedVariables false
set_option maxRecDepth 100000

-- caravel/caravelref24.Same
set_option maxHeartbeats 4000000 in
theorem at13 (x : Caw.Msg) (y : Caw.Msg) (hpre : x = y) : SpecAt Tryz.prog 13 [.agg (msgCells x), .agg (msgCells y)] (.v (.bool true)) none := by
  subst hpre
  all_goals refine specAt_of_tri Tryz.func13 rfl (Nat.le_of_ble_eq_true rfl) ?_
  all_goals (repeat' (first
    | (refine tri_condT (b_true (by simp; with_reducible exact IsB.mk)) ?_)
    | (refine tri_condF (b_true (by simp; with_reducible exact IsB.mk)) ?_)
    | (refine tri_skipT ?_)
    | (refine tri_skip ?_)
    | (refine then_to ?_)
    | (refine th_n ?_)
    | (refine in_n ?_)
    | (refine in_e ?_)
    | (refine in_x rfl ?_)
    | (refine th_e ?_)
    | (refine th_r ?_)
    | (refine in_r ?_)
    | (refine tri_ret ?_)
    | (refine tri_exit ?_)
    | (refine tri_block ?_)
    | (refine tri_step (id := 0) (C := ⟨[2, 3], [], []⟩) [2, 3] [] gok_nil nodraw ?_; refine ⟨_, by (simp [*, pMsg, msgCells, flg]; exact Is.mk), ?_⟩)
    | (refine tri_last (id := 0) (C := ⟨[2, 3], [], []⟩) [2, 3] [] gok_nil nodraw ?_; refine ⟨_, by (simp [*, pMsg, msgCells, flg]; exact Is.mk), ?_⟩)
    | (refine tri_stepG (id := 1) (C := ⟨[2, 3], [], []⟩) [4] [] gok_nil nodraw ?_; refine ⟨_, (run_split 0 6 10 (by simp [*, pMsg, msgCells, flg]; exact Is.mk) (by simp; exact IsB.mk) (run_split 6 7 17 (by simp [*, pMsg, msgCells, flg]; exact Is.mk) (by simp; exact IsB.mk) (run_split 13 7 24 (by simp [*, pMsg, msgCells, flg]; exact Is.mk) (by simp; exact IsB.mk) (by simp [*, pMsg, msgCells, flg]; exact IsK.mk) (by simp [*, pMsg, msgCells, flg]; exact IsK.mk) (by simp; exact IsK.mk)) (run_split 13 7 24 (by simp [*, pMsg, msgCells, flg]; exact Is.mk) (by simp; exact IsB.mk) (by simp [*, pMsg, msgCells, flg]; exact IsK.mk) (by simp [*, pMsg, msgCells, flg]; exact IsK.mk) (by simp; exact IsK.mk)) (by simp; exact IsK.mk)) (run_split 6 7 17 (by simp [*, pMsg, msgCells, flg]; exact Is.mk) (by simp; exact IsB.mk) (run_split 13 7 24 (by simp [*, pMsg, msgCells, flg]; exact Is.mk) (by simp; exact IsB.mk) (by simp [*, pMsg, msgCells, flg]; exact IsK.mk) (by simp [*, pMsg, msgCells, flg]; exact IsK.mk) (by simp; exact IsK.mk)) (run_split 13 7 24 (by simp [*, pMsg, msgCells, flg]; exact Is.mk) (by simp; exact IsB.mk) (by simp [*, pMsg, msgCells, flg]; exact IsK.mk) (by simp [*, pMsg, msgCells, flg]; exact IsK.mk) (by simp; exact IsK.mk)) (by simp; exact IsK.mk)) (by simp; exact IsK.mk)), ?_⟩)
    | (refine tri_lastG (id := 1) (C := ⟨[2, 3], [], []⟩) [4] [] gok_nil nodraw ?_; refine ⟨_, (run_split 0 6 10 (by simp [*, pMsg, msgCells, flg]; exact Is.mk) (by simp; exact IsB.mk) (run_split 6 7 17 (by simp [*, pMsg, msgCells, flg]; exact Is.mk) (by simp; exact IsB.mk) (run_split 13 7 24 (by simp [*, pMsg, msgCells, flg]; exact Is.mk) (by simp; exact IsB.mk) (by simp [*, pMsg, msgCells, flg]; exact IsK.mk) (by simp [*, pMsg, msgCells, flg]; exact IsK.mk) (by simp; exact IsK.mk)) (run_split 13 7 24 (by simp [*, pMsg, msgCells, flg]; exact Is.mk) (by simp; exact IsB.mk) (by simp [*, pMsg, msgCells, flg]; exact IsK.mk) (by simp [*, pMsg, msgCells, flg]; exact IsK.mk) (by simp; exact IsK.mk)) (by simp; exact IsK.mk)) (run_split 6 7 17 (by simp [*, pMsg, msgCells, flg]; exact Is.mk) (by simp; exact IsB.mk) (run_split 13 7 24 (by simp [*, pMsg, msgCells, flg]; exact Is.mk) (by simp; exact IsB.mk) (by simp [*, pMsg, msgCells, flg]; exact IsK.mk) (by simp [*, pMsg, msgCells, flg]; exact IsK.mk) (by simp; exact IsK.mk)) (run_split 13 7 24 (by simp [*, pMsg, msgCells, flg]; exact Is.mk) (by simp; exact IsB.mk) (by simp [*, pMsg, msgCells, flg]; exact IsK.mk) (by simp [*, pMsg, msgCells, flg]; exact IsK.mk) (by simp; exact IsK.mk)) (by simp; exact IsK.mk)) (by simp; exact IsK.mk)), ?_⟩)
    | (refine to_mk (by simp; exact IsK.mk))
    | (refine imp_ ?_)
    | ((simp; exact IsK.mk))
    | (refine tri_seq ?_)
    ))
  all_goals (refine post_plainV (P := Tryz.prog) (fn := Tryz.f13) (by simp; exact IsV.mk) rfl ?_)
  all_goals (first | (simp [pMsg, msgCells, flg, msgCells]; done) | (simp [*, pMsg, msgCells, flg, msgCells]; done) | (simp_all [pMsg, msgCells, flg, msgCells]; done) | (simp [pMsg, msgCells, flg, msgCells] <;> (repeat' split) <;> simp_all; done) | (simp [pMsg, msgCells, flg, msgCells] <;> (repeat' split) <;> simp_all [Bool.and_assoc] <;> grind [List.length_eq_zero_iff, sendCells_co, recvCells_co, pieceCells_co, connCells_co, segCells_co, clockCells_co]))
open Classical in
noncomputable def F13 : Fn1
  | [x0, x1] => (whole pMsg x0).bind fun x => (whole pMsg x1).bind fun y => if x = y then some ((.v (.bool true)), none) else none
  | _ => none
theorem spec13 : Spec1 Tryz.prog 13 F13 := spec_of fun ys r o h => by
  unfold F13 at h
  split at h
  case h_2 => cases h
  obtain ⟨x, k0, h1⟩ := bind_some h
  obtain ⟨y, k1, h2⟩ := bind_some h1
  obtain ⟨hpre, hz⟩ := ite_some h2
  cases hz
  exact ⟨_, at13 x y hpre, rfl, le_plain ⟨whole_co pMsg_snd k0, ⟨whole_co pMsg_snd k1, trivial⟩⟩ (by simp only [List.all_cons, List.all_nil, Bool.not_false, Bool.and_self, notRefB (whole_co pMsg_snd k0) rfl (by simp), notRefB (whole_co pMsg_snd k1) rfl (by simp)]) rfl⟩
theorem en13 : Enters Tryz.prog 13 := enters_of Tryz.func13 (by kernel_rfl) rfl

end Go.Proofs.YtljlhooodbfpiaaGreatDoor

/-! The document's message of bytes: what its steps want. -/
namespace Caw
open Go Go.RowKit
theorem zb_ofL (l : List UInt8) : zb (ofL l) = l.map fun c => ((c.toNat : Nat) : Int) := rfl
theorem zb_extract (s : ByteArray) (a b : Nat) : zb (s.extract a b) = ((zb s).take b).drop a := by
  have h : s.extract a b = ofL (((bl s).take b).drop a) := ofL_extract (bl s) a b
  rw [h, zb_ofL, zb, List.map_drop, List.map_take]
theorem zb_list (s : ByteArray) : (s.data.toList.map fun b => AV.v (.int .u8 b.toNat)) = encB (zb s) := by
  simp [encB, zb, bl, Function.comp_def]
theorem zb_get (s : ByteArray) (i : Nat) (h : i < s.size) : (zb s)[i]? = some (((s[i]'h).toNat : Nat) : Int) := by
  have := zb_drop s i h
  have h2 : ((zb s).drop i)[0]? = (zb s)[i]? := by rw [List.getElem?_drop]; rfl
  rw [← h2, this]; rfl
/-- What the document's Open looks at. -/
theorem doc_facts {s : ByteArray} (h : ¬ s.size < 12) (hs : s.size ≤ 400) : ∃ (b2 b3 : UInt8) (c0 c1 c4 c5 c6 c7 c8 c9 c10 c11 : Int) (r : List Int),
    (∀ h : 2 < s.size, s[2]'h = b2) ∧ (∀ h : 3 < s.size, s[3]'h = b3) ∧ zb s = c0 :: c1 :: ((b2.toNat : Nat) : Int) :: ((b3.toNat : Nat) : Int) :: c4 :: c5 :: c6 :: c7 :: c8 :: c9 :: c10 :: c11 :: r ∧
    zb (s.extract 4 8) = [c4, c5, c6, c7] ∧ zb (s.extract 8 12) = [c8, c9, c10, c11] ∧ zb (s.extract 12 s.size) = r ∧ (s.extract 4 8).size ≤ 8 ∧ (s.extract 8 12).size ≤ 8 ∧ (2 : Nat) < s.size ∧ (3 : Nat) < s.size ∧
    (8 : Int) ≤ s.size ∧ (12 : Int) ≤ s.size ∧ s.size = r.length + 12 := by
  have hl : ¬ (zb s).length < 12 := by rw [zb_len]; exact h
  obtain ⟨c0, c1, c2, c3, c4, c5, c6, c7, c8, c9, c10, c11, r, hz⟩ := cons12 hl
  have g2 := zb_get s 2 (by omega)
  have g3 := zb_get s 3 (by omega)
  rw [hz] at g2 g3
  simp only [List.getElem?_cons_succ, List.getElem?_cons_zero, Option.some.injEq] at g2 g3
  have hlen := zb_len s
  rw [hz] at hlen
  simp only [List.length_cons] at hlen
  refine ⟨s[2], s[3], c0, c1, c4, c5, c6, c7, c8, c9, c10, c11, r, fun _ => rfl, fun _ => rfl, ?_, ?_, ?_, ?_, ?_, ?_, by omega, by omega, by omega, by omega, by omega⟩
  · rw [hz, g2, g3]
  · rw [zb_extract, hz]; rfl
  · rw [zb_extract, hz]; rfl
  · rw [zb_extract, List.take_of_length_le (by rw [zb_len]; exact Nat.le_refl _), hz]; rfl
  · simp [ByteArray.size_extract]; omega
  · simp [ByteArray.size_extract]; omega
end Caw
namespace Caw
open Go Go.RowKit
theorem zb_str {b : List Int} (h : u8L b) : zb ⟨(b.map fun n => UInt8.ofNat n.toNat).toArray⟩ = b := by
  have e : zb ⟨(b.map fun n => UInt8.ofNat n.toNat).toArray⟩ = b.map fun n => (((UInt8.ofNat n.toNat).toNat : Nat) : Int) := by
    simp [zb, bl, Function.comp_def]
  rw [e]
  conv => rhs; rw [← List.map_id b]
  refine List.map_congr_left (fun c hc => ?_)
  have := h c hc
  simp only [id, UInt8.toNat_ofNat']
  omega
end Caw
namespace Caw
open Go Go.RowKit
theorem fdiv_pow (n : Int) (k : Nat) (hk : k < 64) : n.fdiv (2 ^ min k IntKind.u64.bits) = n / 2 ^ k := by
  have : min k IntKind.u64.bits = k := Nat.min_eq_left (by show k ≤ 64; omega)
  rw [this, Int.fdiv_eq_ediv_of_nonneg _ (Int.le_of_lt (Int.pow_pos (by omega)))]
/-- What octets.Put wants of a number below 2^32. -/
theorem put_facts {n : Int} (h : 0 ≤ n ∧ n < 4294967296) : n.fdiv (2 ^ min 32 IntKind.u64.bits) = 0 ∧
    IntKind.u8.wrap (n.fdiv (2 ^ min 24 IntKind.u64.bits)) = n / 16777216 % 256 ∧ IntKind.u8.wrap (n.fdiv (2 ^ min 16 IntKind.u64.bits)) = n / 65536 % 256 ∧
    IntKind.u8.wrap (n.fdiv (2 ^ min 8 IntKind.u64.bits)) = n / 256 % 256 ∧ IntKind.u8.wrap n = n % 256 := by
  have w : ∀ x : Int, IntKind.u8.wrap x = x % 256 := fun _ => rfl
  rw [fdiv_pow _ _ (by omega), fdiv_pow _ _ (by omega), fdiv_pow _ _ (by omega), fdiv_pow _ _ (by omega)]
  simp only [w]
  refine ⟨?_, ?_, ?_, ?_, ?_⟩
  · show n / 4294967296 = 0
    omega
  all_goals first | rfl | trivial
theorem wrap_lits : IntKind.i64.wrap 0 = 0 ∧ IntKind.i64.wrap 1 = 1 ∧ IntKind.i64.wrap 2 = 2 ∧ IntKind.i64.wrap 3 = 3 ∧ IntKind.i64.wrap 4 = 4 ∧ IntKind.i64.wrap 8 = 8 ∧ IntKind.i64.wrap 16 = 16 ∧ IntKind.i64.wrap 24 = 24 ∧ IntKind.i64.wrap 32 = 32 := by decide
def putL (n : Int) : Nat → List Int
  | 0 => [0, 0, 0, 0]
  | 1 => [n / 16777216 % 256, 0, 0, 0]
  | 2 => [n / 16777216 % 256, n / 65536 % 256, 0, 0]
  | 3 => [n / 16777216 % 256, n / 65536 % 256, n / 256 % 256, 0]
  | _ => put4 n
/-- Bytes as a text. -/
def zs8 (l : List Int) : ByteArray := ⟨(l.map fun n => UInt8.ofNat n.toNat).toArray⟩
theorem zs8_of (l : List Int) : (⟨(l.map fun n => UInt8.ofNat n.toNat).toArray⟩ : ByteArray) = zs8 l := rfl
theorem zs8_app (a b : List Int) : zs8 a ++ zs8 b = zs8 (a ++ b) := by
  apply ByteArray.ext
  simp [zs8, ByteArray.data_append]
theorem zs8_size (l : List Int) : (zs8 l).size = l.length := by
  show (l.map fun n => UInt8.ofNat n.toNat).toArray.size = _
  simp
theorem zb_zs8 {l : List Int} (h : u8L l) : zb (zs8 l) = l := zb_str h
/-- The same of the document's. -/
def putN (n : Int) : Nat → Int
  | 0 => n
  | 1 => n / 256
  | 2 => n / 65536
  | 3 => n / 16777216
  | _ => 0
def putS (n : Int) : Nat → List Int
  | 0 => []
  | 1 => [n % 256]
  | 2 => [n / 256 % 256, n % 256]
  | 3 => [n / 65536 % 256, n / 256 % 256, n % 256]
  | _ => put4 n
theorem putD_facts {n : Int} (h : 0 ≤ n ∧ n < 4294967296) : n.tmod 256 = n % 256 ∧ (n / 256).tmod 256 = n / 256 % 256 ∧ (n / 65536).tmod 256 = n / 65536 % 256 ∧ (n / 16777216).tmod 256 = n / 16777216 % 256 ∧
    IntKind.u8.wrap (n % 256) = n % 256 ∧ IntKind.u8.wrap (n / 256 % 256) = n / 256 % 256 ∧ IntKind.u8.wrap (n / 65536 % 256) = n / 65536 % 256 ∧ IntKind.u8.wrap (n / 16777216 % 256) = n / 16777216 % 256 ∧
    IntKind.u64.wrap (n.tdiv 256) = n / 256 ∧ IntKind.u64.wrap ((n / 256).tdiv 256) = n / 65536 ∧ IntKind.u64.wrap ((n / 65536).tdiv 256) = n / 16777216 ∧ IntKind.u64.wrap ((n / 16777216).tdiv 256) = 0 := by
  have w : ∀ x : Int, IntKind.u8.wrap x = x % 256 := fun _ => rfl
  have w2 : ∀ x : Int, IntKind.u64.wrap x = x % 18446744073709551616 := fun _ => rfl
  have hm : ∀ x : Int, 0 ≤ x → x.tmod 256 = x % 256 := fun x hx => Int.tmod_eq_emod_of_nonneg hx
  have hd : ∀ x : Int, 0 ≤ x → x.tdiv 256 = x / 256 := fun x hx => Int.tdiv_eq_ediv_of_nonneg hx
  rw [hm _ h.1, hm _ (by omega), hm _ (by omega), hm _ (by omega), hd _ h.1, hd _ (by omega), hd _ (by omega), hd _ (by omega)]
  simp only [w, w2]
  refine ⟨?_, ?_, ?_, ?_, ?_, ?_, ?_, ?_, ?_, ?_, ?_, ?_⟩ <;> first | trivial | omega
theorem word_facts {n : Int} (h : 0 ≤ n ∧ n < 65536) : IntKind.i64.wrap (n.tdiv 256) = n / 256 ∧ IntKind.u8.wrap (n / 256) = n / 256 ∧ IntKind.u8.wrap n = n % 256 := by
  have w : ∀ x : Int, IntKind.u8.wrap x = x % 256 := fun _ => rfl
  rw [Int.tdiv_eq_ediv_of_nonneg h.1]
  refine ⟨wrap_i64 (by omega), by rw [w]; omega, w n⟩
/-- Four rows of bytes. -/
structure Quad where
  a : List Int
  b : List Int
  c : List Int
  d : List Int
  t1 : Tg
  t2 : Tg
  t3 : Tg
  t4 : Tg
def quadL (q : Quad) : List AV := [.sl 1 (encB q.a) q.t1, .sl 1 (encB q.b) q.t2, .sl 1 (encB q.c) q.t3, .sl 1 (encB q.d) q.t4]
def dQuad : AV → Option Quad
  | .sl 1 [.sl 1 a t1, .sl 1 b t2, .sl 1 c t3, .sl 1 d t4] _ => match bytesOf a, bytesOf b, bytesOf c, bytesOf d with
    | some a, some b, some c, some d => some ⟨a, b, c, d, t1, t2, t3, t4⟩
    | _, _, _, _ => none
  | _ => none
theorem dQuad_co {x : AV} {q : Quad} (h : dQuad x = some q) : CoPA x (.sl 1 (quadL q) none) := by
  unfold dQuad at h
  split at h
  · split at h
    · rename_i ha hb hc hd
      cases h
      simp only [quadL]
      rw [encB_of ha, encB_of hb, encB_of hc, encB_of hd]
      exact coPA_of (coP_sl _ _ _)
    · cases h
  · cases h
@[simp] theorem dQuad_sl (a b c d : List AV) (t1 t2 t3 t4 tg : Tg) : dQuad (.sl 1 [.sl 1 a t1, .sl 1 b t2, .sl 1 c t3, .sl 1 d t4] tg) = (match bytesOf a, bytesOf b, bytesOf c, bytesOf d with
    | some a, some b, some c, some d => some ⟨a, b, c, d, t1, t2, t3, t4⟩
    | _, _, _, _ => none) := rfl
def catQ (q : Quad) : Nat → List Int
  | 0 => []
  | 1 => q.a
  | 2 => q.a ++ q.b
  | 3 => q.a ++ (q.b ++ q.c)
  | _ => q.a ++ (q.b ++ (q.c ++ q.d))
def lenQ (q : Quad) : Nat → Int
  | 0 => 0
  | 1 => (q.a.length : Nat)
  | 2 => (q.a.length : Nat) + (q.b.length : Nat)
  | 3 => (q.a.length : Nat) + (q.b.length : Nat) + (q.c.length : Nat)
  | _ => (q.a.length : Nat) + (q.b.length : Nat) + (q.c.length : Nat) + (q.d.length : Nat)
end Caw
namespace Caw
theorem zs8_of1 (x : Int) : (⟨#[UInt8.ofNat x.toNat]⟩ : ByteArray) = zs8 [x] := rfl
theorem zs8_of2 (x y : Int) : (⟨#[UInt8.ofNat x.toNat, UInt8.ofNat y.toNat]⟩ : ByteArray) = zs8 [x, y] := rfl
theorem range1 : List.range 1 = [0] := rfl
end Caw
namespace Caw
open Go Go.RowKit
def MsgP (m : Msg) : Prop := (0 ≤ m.run ∧ m.run < 4294967296) ∧ (0 ≤ m.num ∧ m.num < 4294967296) ∧ u8L m.data ∧ m.data.length ≤ 400
theorem pack_cases (m : Msg) : (m.kind < 1 ∧ packF m = ([], 1)) ∨ (¬ m.kind < 1 ∧ 7 < m.kind ∧ packF m = ([], 1)) ∨ (¬ m.kind < 1 ∧ ¬ 7 < m.kind ∧ (128 : Int) < (m.data.length : Nat) ∧ packF m = ([], 4)) ∨
    (¬ m.kind < 1 ∧ ¬ 7 < m.kind ∧ ¬ (128 : Int) < (m.data.length : Nat) ∧ packF m = ((65535 - sumF (bodyF m)) / 256 :: (65535 - sumF (bodyF m)) % 256 :: bodyF m, 0)) := by
  by_cases h1 : m.kind < 1
  · exact .inl ⟨h1, if_pos (.inl h1)⟩
  by_cases h2 : 7 < m.kind
  · exact .inr (.inl ⟨h1, h2, if_pos (.inr h2)⟩)
  by_cases h3 : 128 < m.data.length
  · exact .inr (.inr (.inl ⟨h1, h2, by omega, by unfold packF; rw [if_neg (by omega), if_pos h3]⟩))
  · exact .inr (.inr (.inr ⟨h1, h2, by omega, by unfold packF; rw [if_neg (by omega), if_neg h3]; rfl⟩))
theorem pack_facts {m : Msg} (k1 : 0 ≤ m.run ∧ m.run < 4294967296) (k2 : 0 ≤ m.num ∧ m.num < 4294967296) (k3 : u8L m.data) (b1 : ¬ m.kind < 1) (b2 : ¬ 7 < m.kind) (b3 : ¬ (128 : Int) < (m.data.length : Nat)) :
    IntKind.u64.wrap m.run = m.run ∧ IntKind.u64.wrap m.num = m.num ∧ IntKind.u8.wrap m.kind = m.kind ∧ IntKind.u8.wrap ((m.data.length : Nat) : Int) = (m.data.length : Nat) ∧
    u8L (m.kind :: ((m.data.length : Nat) : Int) :: (put4 m.run ++ (put4 m.num ++ m.data))) ∧ m.kind :: ((m.data.length : Nat) : Int) :: (put4 m.run ++ (put4 m.num ++ m.data)) = bodyF m ∧ (bodyF m).length ≤ 100000 ∧ m.data.length ≤ 400 ∧
    IntKind.u8.wrap ((65535 - sumF (bodyF m)).fdiv (2 ^ min 8 IntKind.u16.bits)) = (65535 - sumF (bodyF m)) / 256 ∧ IntKind.u8.wrap (65535 - sumF (bodyF m)) = (65535 - sumF (bodyF m)) % 256 ∧
    (2 + (bodyF m).length) * 2 ≤ 1099511627776 ∧ u8L (bodyF m) := by
  have e : m.kind :: ((m.data.length : Nat) : Int) :: (put4 m.run ++ (put4 m.num ++ m.data)) = bodyF m := by simp [bodyF]
  have hu := body_u8 (m := m) (by omega) (by omega) k3
  have hs := sum_sz hu
  have hl : (bodyF m).length = m.data.length + 10 := by simp [bodyF, put4]
  have w : ∀ x : Int, IntKind.u8.wrap x = x % 256 := fun _ => rfl
  have w2 : ∀ x : Int, IntKind.u64.wrap x = x % 18446744073709551616 := fun _ => rfl
  refine ⟨by rw [w2]; omega, by rw [w2]; omega, by rw [w]; omega, by rw [w]; omega, by rw [e]; exact hu, e, by omega, by omega, ?_, by rw [w], by omega, hu⟩
  rw [show min 8 IntKind.u16.bits = 8 from rfl, Int.fdiv_eq_ediv_of_nonneg _ (by decide), w]
  show (65535 - sumF (bodyF m)) / 256 % 256 = _
  omega
end Caw
namespace Caw
open Go Go.RowKit
theorem packD_facts {m : Msg} (h : u8L (bodyF m)) (hl : (bodyF m).length ≤ 100000) : zb (zs8 (bodyF m)) = bodyF m ∧ IntKind.i64.wrap (65535 - sumF (bodyF m)) = 65535 - sumF (bodyF m) ∧ (0 ≤ 65535 - sumF (bodyF m) ∧ 65535 - sumF (bodyF m) < 65536) ∧
    (zs8 (bodyF m)).size ≤ 100000 ∧ 2 + (bodyF m).length ≤ 4611686018427387904 ∧ sumF (bodyF m) ≤ 65535 ∧ 0 ≤ sumF (bodyF m) := by
  have hs := sum_sz h
  exact ⟨zb_zs8 h, wrap_i64 (by omega), by omega, by rw [zs8_size]; exact hl, by omega, by omega, hs.1⟩
end Caw
namespace Caw
theorem zs8_of2n (x : Int) (n : Nat) : (⟨#[UInt8.ofNat x.toNat, UInt8.ofNat n]⟩ : ByteArray) = zs8 [x, (n : Int)] := rfl
end Caw
namespace Caw
open Go Go.RowKit
theorem packed_facts {m : Msg} (k3 : u8L m.data) : u8L (packF m).1 ∧ (packF m).1.length ≤ 400 := by
  rcases pack_cases m with ⟨b1, hp⟩ | ⟨b1, b2, hp⟩ | ⟨b1, b2, b3, hp⟩ | ⟨b1, b2, b3, hp⟩
  · rw [hp]; exact ⟨fun c hc => by simp at hc, by simp⟩
  · rw [hp]; exact ⟨fun c hc => by simp at hc, by simp⟩
  · rw [hp]; exact ⟨fun c hc => by simp at hc, by simp⟩
  · have hu := body_u8 (m := m) (by omega) (by omega) k3
    have hs := sum_sz hu
    have hl : (bodyF m).length = m.data.length + 10 := by simp [bodyF, put4]
    rw [hp]
    refine ⟨fun c hc => ?_, by simp; omega⟩
    simp only [List.mem_cons] at hc
    rcases hc with rfl | rfl | hc
    · omega
    · omega
    · exact hu c hc
end Caw

