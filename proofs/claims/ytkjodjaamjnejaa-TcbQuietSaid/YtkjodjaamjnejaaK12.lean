import Derived.Test.YtkjodjaamjnejaaK11
set_option linter.all false
/-! Two ends: what goes between them is what was written. The numbers, and what comes. -/
set_option linter.unusedVariables false
namespace Caw
open Go
abbrev u8s (l : List Int) : List UInt8 := l.map fun n => UInt8.ofNat n.toNat
/-- What is told of an end: its first number, the bytes that were written there, how many went, whether its end went; how far there is room, how many came, whether it met the other. -/
structure Str where
  F : Int
  W : List UInt8
  H : Nat
  S : Bool
  E : Int
  R : Nat
  M : Bool
structure StrOk (s : Str) : Prop where
  u : U32 s.F
  len : s.W.length ≤ 1000000
  h : s.H ≤ s.W.length
  f : s.S = true → s.H = s.W.length
  e : 256 ≤ s.E
def Str.top (s : Str) : Nat := s.H + s.S.toNat
/-- What is told later. -/
structure Str.Le (s s2 : Str) : Prop where
  F : s2.F = s.F
  W : ∃ d, s2.W = s.W ++ d
  H : s.H ≤ s2.H
  S : s.S = true → s2.S = true ∧ s2.W = s.W
  E : s.E ≤ s2.E
  R : s.R ≤ s2.R
  M : s.M = true → s2.M = true
theorem Str.Le.refl (s : Str) : s.Le s := ⟨rfl, ⟨[], by simp⟩, Nat.le_refl _, fun h => ⟨h, rfl⟩, Int.le_refl _, Nat.le_refl _, fun h => h⟩
theorem Str.Le.trans {a b c : Str} (h : a.Le b) (k : b.Le c) : a.Le c := by
  obtain ⟨d, hd⟩ := h.W
  obtain ⟨d2, hd2⟩ := k.W
  refine ⟨k.F.trans h.F, ⟨d ++ d2, by rw [hd2, hd, List.append_assoc]⟩, Nat.le_trans h.H k.H, fun hs => ?_, Int.le_trans h.E k.E, Nat.le_trans h.R k.R, fun hm => k.M (h.M hm)⟩
  obtain ⟨h1, h2⟩ := h.S hs
  obtain ⟨k1, k2⟩ := k.S h1
  exact ⟨k1, k2.trans h2⟩
theorem Str.Le.top {a b : Str} (h : a.Le b) (hb : StrOk b) (ha : StrOk a) : a.top ≤ b.top := by
  unfold Str.top
  have h1 := h.H
  cases hs : a.S with
  | false => simp; omega
  | true => rw [(h.S hs).1]; omega
theorem Str.Le.part {a b : Str} (h : a.Le b) {j n : Nat} (hj : j + n ≤ a.W.length) : (b.W.drop j).take n = (a.W.drop j).take n := by
  obtain ⟨d, hd⟩ := h.W
  rw [hd, List.drop_append_of_le_length (by omega), List.take_append_of_le_length (by simp; omega)]
/-- The number of a byte. -/
def num (s : Str) (k : Nat) : Int := (s.F + 1 + k) % 4294967296
theorem num_u (s : Str) (k : Nat) : U32 (num s k) := by unfold U32 num; omega
theorem num_diff (s : Str) {k j : Nat} (hk : k ≤ 2000000) (hj : j ≤ 2000000) : seqDiff (num s k) (num s j) = (k : Int) - j := by
  rw [seqDiff_eq]; unfold num; omega
theorem num_add (s : Str) (k : Nat) (n : Int) (h : 0 ≤ n) : seqAdd (num s k) n = num s (k + n.toNat) := by
  rw [seqAdd_eq]; unfold num; omega
theorem num_addN (s : Str) (k n : Nat) : seqAdd (num s k) n = num s (k + n) := by
  rw [num_add s k n (by omega)]; rfl
theorem num_inj (s : Str) {k j : Nat} (hk : k ≤ 2000000) (hj : j ≤ 2000000) (h : num s k = num s j) : k = j := by
  unfold num at h; omega
theorem num_le {a b : Str} (h : a.Le b) (k : Nat) : num b k = num a k := by unfold num; rw [h.F]
theorem num_first (s : Str) : num s 0 = seqAdd s.F 1 := by rw [seqAdd_eq]; unfold num; simp
/-! ### Pieces -/
/-- A piece of what was written. -/
def PieceIn (o : Str) (p : Piece) : Prop := ∃ j : Nat, p.seq = num o j ∧ j + p.data.length ≤ o.H ∧ u8s p.data = (o.W.drop j).take p.data.length
theorem PieceIn.le {o o2 : Str} (ho : StrOk o) (h : o.Le o2) {p : Piece} (hp : PieceIn o p) : PieceIn o2 p := by
  obtain ⟨j, h1, h2, h3⟩ := hp
  have := ho.h
  exact ⟨j, by rw [num_le h]; exact h1, Nat.le_trans h2 h.H, by rw [h.part (by omega)]; exact h3⟩
theorem paste_lenB (b d : List Int) (k : Nat) (h : k + d.length ≤ b.length) : (paste b k d).length = b.length := by
  unfold paste; simp; omega
theorem paste_get (b d : List Int) (k : Nat) (h : k + d.length ≤ b.length) (i : Nat) (hi : i < b.length) :
    (paste b k d)[i]? = if k ≤ i ∧ i < k + d.length then d[i - k]? else b[i]? := by
  unfold paste
  rw [List.append_assoc, List.getElem?_append]
  simp only [List.length_take, Nat.min_eq_left (show k ≤ b.length by omega)]
  split
  · rw [if_neg (by omega), List.getElem?_take_of_lt (by omega)]
  · rw [List.getElem?_append]
    split
    · rw [if_pos (by omega)]
    · rw [if_neg (by omega), List.getElem?_drop]; congr 1; omega
theorem part_get (W : List UInt8) (j n i : Nat) (hi : i < n) : ((W.drop j).take n)[i]? = W[j + i]? := by
  rw [List.getElem?_take_of_lt hi, List.getElem?_drop]
/-- A list is a part of a stream: read element by element. -/
theorem part_of {W : List UInt8} {d : List Int} {j : Nat} (hl : j + d.length ≤ W.length) (h : ∀ i < d.length, (u8s d)[i]? = W[j + i]?) : u8s d = (W.drop j).take d.length := by
  apply List.ext_getElem?
  intro i
  by_cases hi : i < d.length
  · rw [h i hi, part_get _ _ _ _ hi]
  · rw [List.getElem?_eq_none (by simp; omega), List.getElem?_eq_none (by simp; omega)]
theorem part_at {W : List UInt8} {d : List Int} {j : Nat} (h : u8s d = (W.drop j).take d.length) {i : Nat} (hi : i < d.length) : (u8s d)[i]? = W[j + i]? := by
  rw [h, part_get _ _ _ _ hi]
theorem both_in {o : Str} (ho : StrOk o) {x p : Piece} (hx : PieceIn o x) (hp : PieceIn o p) (h1 : ¬ seqDiff (seqAdd x.seq x.data.length) p.seq < 0) (h2 : ¬ seqDiff (seqAdd p.seq p.data.length) x.seq < 0) : PieceIn o (both x p) := by
  obtain ⟨i, hi1, hi2, hi3⟩ := hx
  obtain ⟨j, hj1, hj2, hj3⟩ := hp
  have hh := ho.h
  have hl := ho.len
  rw [hi1, hj1, num_addN, num_diff o (by omega) (by omega)] at h1
  rw [hi1, hj1, num_addN, num_diff o (by omega) (by omega)] at h2
  have hf : bothFrom x p = num o (min i j) := by
    unfold bothFrom seqLess
    rw [hi1, hj1, num_diff o (by omega) (by omega)]
    by_cases hc : (j : Int) - i < 0
    · rw [if_pos (by simpa using hc)]; congr 1; omega
    · rw [if_neg (by simpa using hc)]; congr 1; omega
  have hk1 : seqDiff x.seq (bothFrom x p) = (i - min i j : Nat) := by rw [hf, hi1, num_diff o (by omega) (by omega)]; omega
  have hk2 : seqDiff p.seq (bothFrom x p) = (j - min i j : Nat) := by rw [hf, hj1, num_diff o (by omega) (by omega)]; omega
  have hL : bothLen x p = (max (i + x.data.length) (j + p.data.length) - min i j : Nat) := by
    unfold bothLen
    rw [hk1, hk2, wi_of (by omega) (by omega), wi_of (by omega) (by omega)]
    unfold maxI; split <;> omega
  generalize hLN : max (i + x.data.length) (j + p.data.length) - min i j = L at hL
  have hb : (both x p).data = paste (paste (List.replicate L 0) (j - min i j) p.data) (i - min i j) x.data := by
    unfold both
    rw [hL, hk1, hk2]
    simp only [Int.toNat_natCast]
  have hq1 : (paste (List.replicate L (0:Int)) (j - min i j) p.data).length = L := by rw [paste_lenB _ _ _ (by simp; omega)]; simp
  have hq2 : (both x p).data.length = L := by rw [hb, paste_lenB _ _ _ (by rw [hq1]; omega)]; exact hq1
  refine ⟨min i j, hf, by rw [hq2]; omega, part_of (by rw [hq2]; omega) fun n hn => ?_⟩
  rw [hq2] at hn
  rw [List.getElem?_map, hb, paste_get _ _ _ (by rw [hq1]; omega) _ (by rw [hq1]; omega)]
  split
  · rename_i hc
    have := part_at hi3 (i := n - (i - min i j)) (by omega)
    rw [List.getElem?_map] at this
    rw [this]; congr 1; omega
  · rename_i hc
    rw [paste_get _ _ _ (by simp; omega) _ (by simp; omega)]
    split
    · have := part_at hj3 (i := n - (j - min i j)) (by omega)
      rw [List.getElem?_map] at this
      rw [this]; congr 1; omega
    · omega
theorem layGo_in {o : Str} (ho : StrOk o) : ∀ (l : List Piece) (p : Piece), (∀ x ∈ l, PieceIn o x) → PieceIn o p → ∀ x ∈ layGo l p, PieceIn o x
  | [], p, hl, hp, x, hx => by
    rw [List.mem_singleton.1 hx]; exact hp
  | y :: r, p, hl, hp, x, hx => by
    have hy := hl y (by simp)
    have hr : ∀ x ∈ r, PieceIn o x := fun x hx => hl x (by simp [hx])
    unfold layGo at hx
    split at hx
    · rcases List.mem_cons.1 hx with rfl | hx
      · exact hy
      · exact layGo_in ho r p hr hp x hx
    · split at hx
      · rcases List.mem_cons.1 hx with rfl | hx
        · exact hp
        · exact layGo_in ho r y hr hy x hx
      · exact layGo_in ho r _ hr (both_in ho hy hp (by assumption) (by assumption)) x hx
/-! ### What comes -/
/-- An end's queue of what came. -/
structure RcvIn (s o : Str) (q : Recv) (rd : List UInt8) (r : Nat) : Prop where
  le : r ≤ o.H
  str : rd ++ u8s q.data = o.W.take r
  next : q.next = num o (r + q.done.toNat)
  ps : ∀ p ∈ q.ahead, PieceIn o p
  kn : q.known = true → o.S = true ∧ q.fin = num o o.W.length
  dn : q.done = true → o.S = true ∧ r = o.W.length
  E : s.E = r + q.done.toNat + 256 - q.data.length
  R : s.R = r + q.done.toNat
  M : s.M = true
theorem RcvIn.le2 {s o o2 : Str} {q : Recv} {rd : List UInt8} {r : Nat} (ho : StrOk o) (hl : o.Le o2) (h : RcvIn s o q rd r) : RcvIn s o2 q rd r := by
  have hh := ho.h
  have h1 := h.le
  refine ⟨Nat.le_trans h.le hl.H, ?_, by rw [num_le hl]; exact h.next, fun p hp => (h.ps p hp).le ho hl, fun hk => ?_, fun hd => ?_, h.E, h.R, h.M⟩
  · have := hl.part (j := 0) (n := r) (by omega)
    simp only [List.drop_zero] at this
    rw [this]; exact h.str
  · obtain ⟨k1, k2⟩ := h.kn hk
    obtain ⟨l1, l2⟩ := hl.S k1
    exact ⟨l1, by rw [num_le hl, l2]; exact k2⟩
  · obtain ⟨k1, k2⟩ := h.dn hd
    obtain ⟨l1, l2⟩ := hl.S k1
    exact ⟨l1, by rw [l2]; exact k2⟩
theorem lay_in {s o : Str} (ho : StrOk o) {q : Recv} {rd : List UInt8} {r : Nat} (hd : q.done = false) (hq : q.data.length ≤ 256) (h : RcvIn s o q rd r) {p : Piece} (hp : PieceIn o p) : ∃ r2, r ≤ r2 ∧ RcvIn { s with E := r2 + 256 - (lay q p).data.length, R := r2 } o (lay q p) rd r2 ∧ (lay q p).done = false ∧ r2 + 256 - ((lay q p).data.length : Int) = s.E := by
  have hin := layGo_in ho q.ahead p h.ps hp
  have hE := h.E
  have hh := ho.h
  have hl := ho.len
  have hle := h.le
  have hnx := h.next
  rw [hd] at hE hnx
  simp only [Bool.toNat_false, Nat.add_zero] at hE hnx
  have put : ∀ (z : Recv) (out : List Piece) (r2 : Nat), z.done = false → z.known = q.known → z.fin = q.fin → r2 ≤ o.H → rd ++ u8s z.data = o.W.take r2 → z.next = num o r2 → (∀ p ∈ z.ahead, PieceIn o p) → (∀ p ∈ out, PieceIn o p) →
      RcvIn { s with E := r2 + 256 - (layPut z out).data.length, R := r2 } o (layPut z out) rd r2 ∧ (layPut z out).done = false := by
    intro z out r2 z1 z2 z3 z4 z5 z6 z7 z8
    have hdata : (layPut z out).data = z.data ∧ (layPut z out).next = z.next ∧ (layPut z out).done = z.done ∧ (layPut z out).known = z.known ∧ (layPut z out).fin = z.fin := by unfold layPut; split <;> exact ⟨rfl, rfl, rfl, rfl, rfl⟩
    obtain ⟨d1, d2, d3, d4, d5⟩ := hdata
    refine ⟨⟨z4, by rw [d1]; exact z5, by rw [d2, d3, z1]; exact z6, ?_, by rw [d4, d5, z2, z3]; exact h.kn, by rw [d3, z1]; simp, ?_, ?_, h.M⟩, by rw [d3]; exact z1⟩
    · unfold layPut; split
      · exact z8
      · exact z7
    · rw [d3, z1]; simp
    · rw [d3, z1]; simp
  unfold lay
  rw [layAll_go]
  unfold layEnd
  split
  · rename_i e
    refine ⟨r, Nat.le_refl _, ⟨h.le, h.str, h.next, h.ps, h.kn, h.dn, ?_, ?_, h.M⟩, hd, by omega⟩
    · rw [hd]; simp
    · rw [hd]; simp
  · rename_i y l e
    rw [e] at hin
    obtain ⟨j, y1, y2, y3⟩ := hin y (by simp)
    have hin2 : ∀ x ∈ l, PieceIn o x := fun x hx => hin x (by simp [hx])
    split
    · rename_i hy
      rw [y1, hnx] at hy
      have hj := num_inj o (by omega) (by omega) hy
      subst hj
      obtain ⟨p1, p2⟩ := put { q with data := q.data ++ y.data, next := seqAdd q.next y.data.length } l (j + y.data.length) hd rfl rfl y2 (by
        simp only [u8s, List.map_append]
        rw [← List.append_assoc, h.str, List.take_add, ← y3]) (by simp only; rw [hnx, num_addN]) h.ps hin2
      have hdata : (layPut { q with data := q.data ++ y.data, next := seqAdd q.next y.data.length } l).data = q.data ++ y.data := by unfold layPut; split <;> rfl
      refine ⟨j + y.data.length, by omega, p1, p2, ?_⟩
      rw [hdata]; simp only [List.length_append]; omega
    · obtain ⟨p1, p2⟩ := put q (y :: l) r hd rfl rfl h.le h.str hnx h.ps hin
      have hdata : (layPut q (y :: l)).data = q.data := by unfold layPut; split <;> rfl
      exact ⟨r, Nat.le_refl _, p1, p2, by rw [hdata]; omega⟩
/-- What a segment says that bears something. -/
structure DatIn (o : Str) (a : Int) (d : List Int) (e : Bool) (k : Nat) : Prop where
  seq : a = num o k
  top : k ≤ o.top
  dat : d ≠ [] → k + d.length ≤ o.H
  eq : u8s d = (o.W.drop k).take d.length
  fin : e = true → o.S = true ∧ k + d.length = o.W.length
theorem acc_in {s o : Str} (ho : StrOk o) {q : Recv} {rd : List UInt8} {r k : Nat} {a : Int} {d : List Int} {e : Bool} (hd : d.length ≤ 4096) (hq : RecvOk q) (h : RcvIn s o q rd r) (hx : DatIn o a d e k) :
    ∃ r2 s2, s.Le s2 ∧ s2 = { s with E := s2.E, R := s2.R } ∧ RcvIn s2 o (recvAcc q a d e) rd r2 := by
  unfold recvAcc
  split
  · exact ⟨r, s, .refl s, rfl, h⟩
  rename_i h0
  have h0 : q.done = false := by simpa using h0
  have hm : RMid q := by
    rcases hq with hq | hq
    · rw [hq.2.2.2.1] at h0; cases h0
    · exact hq.1
  obtain ⟨m1, m2, m3, m4⟩ := aMark_mid a d e hd hm
  have hh := ho.h
  have hl := ho.len
  have hle := h.le
  have hE := h.E
  have hR := h.R
  have hnx := h.next
  rw [h0] at hE hR hnx
  simp only [Bool.toNat_false, Nat.add_zero] at hE hR hnx
  have htop : o.top ≤ o.W.length + 1 := by unfold Str.top; cases o.S <;> simp <;> omega
  have hk := hx.top
  have hdf : seqDiff a q.next = (k : Int) - r := by rw [hx.seq, hnx, num_diff o (by omega) (by omega)]
  have hmd : (aMark q a d e).done = false := m1.od
  have hM : RcvIn s o (aMark q a d e) rd r := by
    refine ⟨h.le, by rw [m3]; exact h.str, by rw [m2, hmd]; exact hnx, by rw [m4]; exact h.ps, fun hkn => ?_, by rw [hmd]; simp, by rw [hmd, m3]; simpa using hE, by rw [hmd]; simpa using hR, h.M⟩
    unfold aMark at hkn ⊢
    split
    · rename_i hc
      obtain ⟨f1, f2⟩ := hx.fin hc.1
      exact ⟨f1, by simp only; rw [hx.seq, num_addN, f2]⟩
    · rename_i hc
      rw [if_neg hc] at hkn
      exact h.kn hkn
  have hL : ∃ r2, r ≤ r2 ∧ RcvIn { s with E := r2 + 256 - (aLay q a d e).data.length, R := r2 } o (aLay q a d e) rd r2 ∧ (aLay q a d e).done = false ∧ r2 + 256 - ((aLay q a d e).data.length : Int) = s.E := by
    unfold aLay
    split
    · rename_i hlt
      obtain ⟨p1, p2, p3, p4⟩ := piece_good a d e hd hm hlt
      obtain ⟨t1, t2⟩ := aTo_eq a d e hd hm
      have f1 : 0 ≤ accFrom q a ∧ seqDiff a q.next ≤ accFrom q a := by unfold accFrom maxI; constructor <;> split <;> omega
      have b := m1.bnd
      have hne : d ≠ [] := by rintro rfl; simp at p3 t1; omega
      have hdat := hx.dat hne
      have e1 : accSkip q a = accFrom q a - seqDiff a q.next := by unfold accSkip; exact wi_of (by omega) (by omega)
      have e2 : aHi q a d e = aTo q a d e - seqDiff a q.next := by
        unfold aHi
        rw [e1, wi_of (n := accFrom q a - seqDiff a q.next + aTo q a d e) (by omega) (by omega), wi_of (by omega) (by omega)]
        omega
      refine lay_in ho hmd m1.len hM ?_
      have hpl : (aPiece q a d e).data.length = (aHi q a d e).toNat - (accSkip q a).toNat := by
        unfold aPiece; simp only [List.length_drop, List.length_take]; omega
      refine ⟨r + (accFrom q a).toNat, ?_, by omega, part_of (by omega) fun i hi => ?_⟩
      · show seqAdd q.next (accFrom q a) = _
        rw [hnx, num_add _ _ _ f1.1]
      · rw [hpl] at hi
        show (u8s ((d.take (aHi q a d e).toNat).drop (accSkip q a).toNat))[i]? = _
        rw [List.getElem?_map, List.getElem?_drop, List.getElem?_take_of_lt (by omega)]
        have := part_at hx.eq (i := (accSkip q a).toNat + i) (by omega)
        rw [List.getElem?_map] at this
        rw [this]; congr 1; omega
    · refine ⟨r, Nat.le_refl _, ?_, hmd, by rw [m3]; omega⟩
      refine ⟨hM.le, hM.str, hM.next, hM.ps, hM.kn, hM.dn, ?_, ?_, hM.M⟩
      · rw [hmd]; simp
      · rw [hmd]; simp
  obtain ⟨r2, l1, l2, l3, l4⟩ := hL
  generalize aLay q a d e = z at l2 l3 l4
  unfold aDone
  split
  · rename_i hc
    obtain ⟨c1, c2⟩ := hc
    obtain ⟨k1, k2⟩ := l2.kn c1
    have l5 := l2.next
    rw [l3] at l5
    simp only [Bool.toNat_false, Nat.add_zero] at l5
    have hr2 := l2.le
    have hrw : r2 = o.W.length := by
      rw [k2, l5] at c2
      exact (num_inj o (by omega) (by omega) c2).symm
    refine ⟨r2, { s with E := r2 + 1 + 256 - z.data.length, R := r2 + 1 }, ⟨rfl, ⟨[], by simp⟩, Nat.le_refl _, fun h => ⟨h, rfl⟩, by simp only; omega, by simp only; omega, fun h => h⟩, rfl, ?_⟩
    refine ⟨l2.le, l2.str, ?_, l2.ps, l2.kn, fun _ => ⟨k1, hrw⟩, by simp, by simp, l2.M⟩
    simp only [l5, Bool.toNat_true]
    rw [show (1 : Int) = ((1 : Nat) : Int) by rfl, num_addN]
  · refine ⟨r2, { s with E := r2 + 256 - z.data.length, R := r2 }, ⟨rfl, ⟨[], by simp⟩, Nat.le_refl _, fun h => ⟨h, rfl⟩, by simp only; omega, by simp only; omega, fun h => h⟩, rfl, l2⟩
end Caw

/-! Two ends: what goes between them is what was written. What is sent, and an end's calls. -/
set_option linter.unusedVariables false
namespace Caw
open Go
/-- A segment of one end, on its way to the other. -/
structure SegIn (s o : Str) (x : Seg) : Prop where
  rst : hasF x.flags 4 = false
  len : x.data.length ≤ 64
  w0 : 0 ≤ x.wnd
  wnd : x.wnd ≤ 256
  syn : hasF x.flags 2 = true → x.seq = s.F ∧ x.data = [] ∧ hasF x.flags 1 = false
  dat : hasF x.flags 2 = false → ∃ k : Nat, DatIn s x.seq x.data (hasF x.flags 1) k
  ack : hasF x.flags 16 = true → s.M = true ∧ ∃ m : Nat, x.ack = num o m ∧ m ≤ s.R ∧ (m : Int) + x.wnd ≤ s.E
theorem DatIn.le {s s2 : Str} (hs : StrOk s) (hs2 : StrOk s2) (h : s.Le s2) {a : Int} {d : List Int} {e : Bool} {k : Nat} (hd : DatIn s a d e k) : DatIn s2 a d e k := by
  have hh := hs.h
  refine ⟨by rw [num_le h]; exact hd.seq, Nat.le_trans hd.top (h.top hs2 hs), fun hn => Nat.le_trans (hd.dat hn) h.H, ?_, fun he => ?_⟩
  · by_cases hn : d = []
    · subst hn; simp
    · have := hd.dat hn
      rw [h.part (by omega)]; exact hd.eq
  · obtain ⟨e1, e2⟩ := hd.fin he
    obtain ⟨f1, f2⟩ := h.S e1
    exact ⟨f1, by rw [f2]; exact e2⟩
theorem SegIn.le {s s2 o o2 : Str} (hs : StrOk s) (hs2 : StrOk s2) (h : s.Le s2) (h2 : o2.F = o.F) {x : Seg} (hx : SegIn s o x) : SegIn s2 o2 x := by
  refine ⟨hx.rst, hx.len, hx.w0, hx.wnd, fun hy => by rw [h.F]; exact hx.syn hy, fun hy => ?_, fun hy => ?_⟩
  · obtain ⟨k, hk⟩ := hx.dat hy
    exact ⟨k, hk.le hs hs2 h⟩
  · obtain ⟨m1, m, m2, m3, m4⟩ := hx.ack hy
    exact ⟨h.M m1, m, by rw [m2]; unfold num; rw [h2], Nat.le_trans m3 h.R, Int.le_trans m4 h.E⟩
/-- An end's queue of what goes. -/
structure SndIn (s o : Str) (q : Send) (a : Nat) : Prop where
  le : a ≤ s.W.length
  dat : u8s q.data = s.W.drop a
  una : q.una = num s (a + q.finAcked.toNat)
  H : s.H = a + q.sent.toNat
  S : s.S = q.finSent
  out : a + q.finAcked.toNat ≤ o.R
  edge : (s.H : Int) ≤ o.E + 1
theorem SndIn.size {s o : Str} {q : Send} {a : Nat} (h : SndIn s o q a) : a + q.data.length = s.W.length := by
  have h1 := congrArg List.length h.dat
  have h2 := h.le
  simp at h1; omega
/-- An end that met nobody. -/
def Unm (s : Str) (c : Conn) (rd : List UInt8) : Prop := c.recv = recvNew 0 ∧ (c.phase = 1 ∨ c.phase = 0) ∧ rd = [] ∧ s.E = 256 ∧ s.R = 0 ∧ s.M = false
structure EndIn (s o : Str) (c : Conn) (rd : List UInt8) : Prop where
  first : c.first = s.F
  snd : ∃ a, SndIn s o c.send a ∧ (c.phase = 1 ∨ c.phase = 2 → a = 0) ∧ (c.phase = 2 ∨ c.phase = 3 → ((a + c.send.finAcked.toNat : Nat) : Int) + c.window ≤ o.E)
  un : c.phase = 1 → Unm s c rd
  rcv : Unm s c rd ∨ ∃ r, RcvIn s o c.recv rd r
  op : c.phase = 3 → o.M = true
  err : c.err ≠ 11
theorem EndIn.same {s o : Str} {c c2 : Conn} {rd : List UInt8} (h : EndIn s o c rd) (h1 : c2.first = c.first) (h2 : c2.send = c.send) (h3 : c2.recv = c.recv) (h4 : c2.phase = c.phase) (h5 : c2.window = c.window) (h6 : c2.err = c.err) : EndIn s o c2 rd := by
  obtain ⟨a, b, c', d, e, f⟩ := h
  have hu : Unm s c2 rd ↔ Unm s c rd := by unfold Unm; rw [h3, h4]
  exact ⟨by rw [h1]; exact a, by rw [h2, h4, h5]; exact b, by rw [h4, hu]; exact c', by rw [hu, h3]; exact d, by rw [h4]; exact e, by rw [h6]; exact f⟩
theorem SndIn.le2 {s o o2 : Str} (h : o.Le o2) {q : Send} {a : Nat} (hq : SndIn s o q a) : SndIn s o2 q a :=
  ⟨hq.le, hq.dat, hq.una, hq.H, hq.S, Nat.le_trans hq.out h.R, by have := hq.edge; have := h.E; omega⟩
/-- The other end goes on. -/
theorem EndIn.le2 {s o o2 : Str} (ho : StrOk o) (h : o.Le o2) {c : Conn} {rd : List UInt8} (hc : EndIn s o c rd) : EndIn s o2 c rd := by
  obtain ⟨a, ⟨n, b1, b2, b3⟩, c', d, e, f⟩ := hc
  refine ⟨a, ⟨n, b1.le2 h, b2, fun hp => by have := b3 hp; have := h.E; omega⟩, c', ?_, fun hp => h.M (e hp), f⟩
  rcases d with d | ⟨r, d⟩
  · exact .inl d
  · exact .inr ⟨r, d.le2 ho h⟩
/-- An end that is stepped. -/
structure EI (s o : Str) (rd : List UInt8) (e : Ep) : Prop where
  ok : ∃ n, EpOk n e
  so : StrOk s
  oo : StrOk o
  top : o.R ≤ s.top
  en : EndIn s o e.conn rd
  out : ∀ x ∈ e.out, SegIn s o x
/-- It goes on. -/
def Goes (s o : Str) (rd : List UInt8) (e : Ep) : Prop := ∃ s2, s.Le s2 ∧ s2.W = s.W ∧ EI s2 o rd e
theorem EI.goes {s o : Str} {rd : List UInt8} {e : Ep} (h : EI s o rd e) : Goes s o rd e := ⟨s, .refl s, rfl, h⟩
theorem Goes.bind {s o : Str} {rd : List UInt8} {e e2 : Ep} (h : Goes s o rd e) (k : ∀ s2, EI s2 o rd e → Goes s2 o rd e2) : Goes s o rd e2 := by
  obtain ⟨s2, h1, h2, h3⟩ := h
  obtain ⟨s3, k1, k2, k3⟩ := k s2 h3
  exact ⟨s3, h1.trans k1, k2.trans h2, k3⟩
theorem EI.other {s o o2 : Str} {rd : List UInt8} {e : Ep} (h : EI s o rd e) (ho2 : StrOk o2) (hl : o.Le o2) (ht : o2.R ≤ s.top) : EI s o2 rd e :=
  ⟨h.ok, h.so, ho2, ht, h.en.le2 h.oo hl, fun x hx => (h.out x hx).le h.so h.so (.refl s) hl.F⟩
theorem EI.met {s o : Str} {rd : List UInt8} {e : Ep} (h : EI s o rd e) (hp : e.conn.phase ≠ 0 ∧ e.conn.phase ≠ 1) : ∃ r, RcvIn s o e.conn.recv rd r := by
  rcases h.en.rcv with hu | hr
  · have := hu.2.1; omega
  · exact hr
theorem recv_len {q : Recv} (h : RecvOk q) : q.data.length ≤ 256 := by
  rcases h with h | h
  · exact h.1
  · exact h.1.len
theorem wnd_eq {q : Recv} (h : q.data.length ≤ 256) : IntKind.u16.wrap (recvWindow q) = 256 - q.data.length := by
  rw [window_eq h, IntKind.wrap_u16]; omega
/-- A segment is told, that isn't the first. -/
theorem tell_in {s o : Str} {rd : List UInt8} {e : Ep} (h : EI s o rd e) {f : Int} {p : Piece} (hr : ∃ r, RcvIn s o e.conn.recv rd r) (h4 : hasF f 4 = false) (h2 : hasF f 2 = false) (hl : p.data.length ≤ 64) (hk : ∃ k, DatIn s p.seq p.data (hasF f 1) k) : EI s o rd (epTell e f p) := by
  obtain ⟨n, hn⟩ := h.ok
  refine ⟨⟨n + 1, tell_ok _ _ (by omega) hn⟩, h.so, h.oo, h.top, h.en.same rfl rfl rfl rfl rfl rfl, fun x hx => ?_⟩
  rcases List.mem_append.1 hx with hx | hx
  · exact h.out x hx
  · rw [List.mem_singleton.1 hx]
    obtain ⟨r, hr⟩ := hr
    have hq := recv_len hn.c.recv
    have hw := wnd_eq hq
    refine ⟨h4, hl, ?_, ?_, fun hc => ?_, fun _ => hk, fun ha => ⟨hr.M, r + e.conn.recv.done.toNat, ?_, ?_, ?_⟩⟩
    · show 0 ≤ IntKind.u16.wrap (recvWindow e.conn.recv); omega
    · show IntKind.u16.wrap (recvWindow e.conn.recv) ≤ 256; omega
    · have hc : hasF f 2 = true := hc
      rw [h2] at hc; cases hc
    · have ha : hasF f 16 = true := ha
      simp only [ha, if_true]
      exact hr.next
    · rw [hr.R]; exact Nat.le_refl _
    · show ((r + e.conn.recv.done.toNat : Nat) : Int) + IntKind.u16.wrap (recvWindow e.conn.recv) ≤ s.E
      rw [hr.E, hw]; omega
theorem DatIn.bare (s : Str) (k : Nat) (h : k ≤ s.top) : DatIn s (num s k) [] false k :=
  ⟨rfl, h, fun hn => absurd rfl hn, by simp, fun hc => (by cases hc)⟩
theorem flags16 : hasF 16 4 = false ∧ hasF 16 2 = false ∧ hasF 16 1 = false ∧ hasF 16 16 = true := by decide
theorem flight_at {s o : Str} {q : Send} {a : Nat} (hq : SendOk q) (h : SndIn s o q a) : seqAdd q.una (sendFlight q) = num s s.top ∧ 0 ≤ sendFlight q ∧ a + q.finAcked.toNat + (sendFlight q).toNat = s.top := by
  have h0 := hq.s0
  have h1 := hq.s1
  have hl := hq.len
  have hH := h.H
  have hS := h.S
  have key : 0 ≤ sendFlight q ∧ a + q.finAcked.toNat + (sendFlight q).toNat = s.top := by
    unfold sendFlight Str.top
    rw [hS, hH]
    cases hfs : q.finSent with
    | false =>
      have : q.finAcked = false := by
        cases hfa : q.finAcked with
        | false => rfl
        | true => have := (hq.fa hfa).1; rw [hfs] at this; cases this
      simp [this]; omega
    | true =>
      cases hfa : q.finAcked with
      | false => simp only [Bool.not_false, Bool.and_self, if_true]; rw [wi_of (by omega) (by omega)]; simp; omega
      | true =>
        have := (hq.fa hfa).2
        simp; omega
  refine ⟨?_, key⟩
  rw [h.una, num_add _ _ _ key.1, key.2]
theorem ack_in {s o : Str} {rd : List UInt8} {e : Ep} (h : EI s o rd e) (hr : ∃ r, RcvIn s o e.conn.recv rd r) : EI s o rd (epAck e) := by
  obtain ⟨n, hn⟩ := h.ok
  obtain ⟨a, ha, -⟩ := h.en.snd
  refine tell_in h hr flags16.1 flags16.2.1 (by simp) ⟨s.top, ?_⟩
  rw [flags16.2.2.1]
  simp only
  rw [(flight_at hn.c.send ha).1]
  exact .bare s _ (Nat.le_refl _)
/-! ### push -/
theorem psh_flags (p : Piece) (fin : Bool) : hasF (pshF p fin) 4 = false ∧ hasF (pshF p fin) 2 = false ∧ hasF (pshF p fin) 1 = fin ∧ hasF (pshF p fin) 16 = true := by
  unfold pshF
  by_cases h : 0 < p.data.length <;> cases fin <;> simp only [h, if_true, if_false] <;> decide
theorem timed_same (e : Ep) : (pushTimed e).conn.first = (pushTold e).conn.first ∧ (pushTimed e).conn.send = (pushTold e).conn.send ∧ (pushTimed e).conn.recv = (pushTold e).conn.recv ∧ (pushTimed e).conn.phase = (pushTold e).conn.phase ∧ (pushTimed e).conn.window = (pushTold e).conn.window ∧ (pushTimed e).conn.err = (pushTold e).conn.err ∧ (pushTimed e).out = (pushTold e).out := by
  unfold pushTimed; split <;> exact ⟨rfl, rfl, rfl, rfl, rfl, rfl, rfl⟩
theorem step_same (e : Ep) : (pushStep e).conn.first = (pushTold e).conn.first ∧ (pushStep e).conn.send = (pushTold e).conn.send ∧ (pushStep e).conn.recv = (pushTold e).conn.recv ∧ (pushStep e).conn.phase = (pushTold e).conn.phase ∧ (pushStep e).conn.window = (pushTold e).conn.window ∧ (pushStep e).conn.err = (pushTold e).conn.err ∧ (pushStep e).out = (pushTold e).out := by
  rw [pushStep_eq]
  split
  · exact timed_same e
  · exact timed_same e
theorem step_in {s o : Str} {rd : List UInt8} {e : Ep} (hp : e.conn.phase = 3) (hok : (pushN e).2.2.2 = true) (h : EI s o rd e) : Goes s o rd (pushStep e) := by
  obtain ⟨n, hn⟩ := h.ok
  obtain ⟨a, ha, ha0, haw⟩ := h.en.snd
  have haw := haw (.inr hp)
  have hq := hn.c.send
  have hm := hn.c.mss
  have hwin := hn.c.win
  have hsz := ha.size
  obtain ⟨n1, n2, n3⟩ := nextN_le e.conn.send (pushW e) e.conn.mss hq.sm
  obtain ⟨q1, q2, q3⟩ := next_ok (pushW e) e.conn.mss hq
  have hNx : sendNext e.conn.send (pushW e) e.conn.mss = pushN e := rfl
  have hok2 : nextOk e.conn.send (pushW e) e.conn.mss = true := by
    unfold pushN sendNext at hok
    split at hok
    · assumption
    · cases hok
  have hpn : pushN e = ({ e.conn.send with sent := IntKind.i64.wrap (e.conn.send.sent + nextN e.conn.send (pushW e) e.conn.mss), finSent := e.conn.send.finSent || nextF e.conn.send (pushW e) e.conn.mss }, ⟨seqAdd e.conn.send.una e.conn.send.sent, (e.conn.send.data.take (IntKind.i64.wrap (e.conn.send.sent + nextN e.conn.send (pushW e) e.conn.mss)).toNat).drop e.conn.send.sent.toNat⟩, nextF e.conn.send (pushW e) e.conn.mss, true) := by
    unfold pushN sendNext; rw [if_pos hok2]
  rw [n3] at hpn
  have hmss : nextN e.conn.send (pushW e) e.conn.mss ≤ e.conn.mss ∧ (0 < nextN e.conn.send (pushW e) e.conn.mss → e.conn.send.sent + nextN e.conn.send (pushW e) e.conn.mss ≤ maxI (pushW e) 0) := by
    have hw0 : 0 ≤ pushW e ∧ pushW e ≤ 65535 := by unfold pushW; split <;> omega
    have e1 := hq.s0
    have e2 := hq.s1
    have e3 := hq.len
    have hmx : maxI (pushW e) 0 = pushW e := by unfold maxI; split <;> omega
    unfold nextN
    rw [hmx, wi_of (n := pushW e - e.conn.send.sent) (by omega) (by omega), wi_of (by omega) (by omega)]
    constructor <;> unfold maxI minI <;> (repeat' split) <;> omega
  have hF : nextF e.conn.send (pushW e) e.conn.mss = true → e.conn.send.fin = true ∧ e.conn.send.finSent = false ∧ e.conn.send.sent + nextN e.conn.send (pushW e) e.conn.mss = e.conn.send.data.length := by
    intro hf
    unfold nextF at hf
    simp only [Bool.and_eq_true, Bool.not_eq_true', decide_eq_true_eq] at hf
    exact ⟨hf.1.1, hf.1.2, by rw [n3] at hf; exact hf.2⟩
  have hOK : nextN e.conn.send (pushW e) e.conn.mss ≠ 0 ∨ nextF e.conn.send (pushW e) e.conn.mss = true := by
    unfold nextOk at hok2
    by_cases hz : nextN e.conn.send (pushW e) e.conn.mss = 0
    · right; rw [hz] at hok2; simpa using hok2
    · exact .inl hz
  have hwE : 0 < nextN e.conn.send (pushW e) e.conn.mss → (a : Int) + e.conn.send.sent + nextN e.conn.send (pushW e) e.conn.mss ≤ o.E + 1 := by
    intro hpos
    have h1 := hmss.2 hpos
    have hw1 : pushW e = e.conn.window ∨ (pushW e = 1 ∧ e.conn.window = 0) := by
      unfold pushW
      split
      · rename_i hc; exact .inr ⟨rfl, hc.1⟩
      · exact .inl rfl
    have hmx : maxI (pushW e) 0 = pushW e := by unfold maxI; split <;> omega
    rcases hw1 with hw1 | ⟨hw1, hw2⟩ <;> omega
  generalize nextN e.conn.send (pushW e) e.conn.mss = N at *
  generalize nextF e.conn.send (pushW e) e.conn.mss = B at *
  have hs0 := hq.s0
  have hs1 := hq.s1
  have hH := ha.H
  have hS := ha.S
  have hsW := h.so.len
  have hfa : e.conn.send.finAcked = false := by
    cases hfa : e.conn.send.finAcked with
    | false => rfl
    | true =>
      obtain ⟨f1, f2⟩ := hq.fa hfa
      rcases hOK with hc | hc
      · omega
      · have := (hF hc).2.1; rw [f1] at this; cases this
  have hso : StrOk { s with H := s.H + N.toNat, S := s.S || B } := by
    refine ⟨h.so.u, h.so.len, by simp only; omega, fun hc => ?_, h.so.e⟩
    simp only at hc ⊢
    cases hB : B with
    | true => have := (hF hB).2.2; omega
    | false =>
      rw [hB, Bool.or_false, hS] at hc
      have := (hq.fs hc).2; omega
  have hle : s.Le { s with H := s.H + N.toNat, S := s.S || B } :=
    ⟨rfl, ⟨[], by simp⟩, by simp only; omega, fun hc => ⟨by simp [hc], rfl⟩, Int.le_refl _, Nat.le_refl _, fun hc => hc⟩
  generalize hs2 : ({ s with H := s.H + N.toNat, S := s.S || B } : Str) = s2 at *
  have g1 : s2.W = s.W := by rw [← hs2]
  have g2 : s2.F = s.F := by rw [← hs2]
  have g3 : s2.H = s.H + N.toNat := by rw [← hs2]
  have g4 : s2.S = (s.S || B) := by rw [← hs2]
  have g5 : s2.E = s.E ∧ s2.R = s.R ∧ s2.M = s.M := by rw [← hs2]; exact ⟨rfl, rfl, rfl⟩
  have hnum : ∀ k, num s2 k = num s k := fun k => by unfold num; rw [g2]
  obtain ⟨z1, z2, z3, z4, z5, z6, z7⟩ := step_same e
  have hsend : (pushStep e).conn.send = (pushN e).1 := pushStep_send e
  have hmet := h.met (by omega)
  have hmet2 : ∃ r, RcvIn s2 o e.conn.recv rd r := by
    obtain ⟨r, hr⟩ := hmet
    exact ⟨r, hr.le, hr.str, hr.next, hr.ps, hr.kn, hr.dn, by rw [g5.1]; exact hr.E, by rw [g5.2.1]; exact hr.R, by rw [g5.2.2]; exact hr.M⟩
  have hsnd : SndIn s2 o (pushN e).1 a := by
    rw [hpn]
    refine ⟨by rw [g1]; exact ha.le, by rw [g1]; exact ha.dat, by rw [hnum]; exact ha.una, by simp only; omega, by simp only; rw [g4, hS], ha.out, ?_⟩
    have := ha.edge
    by_cases hpos : 0 < N
    · have := hwE hpos; omega
    · omega
  have hen0 : EndIn s2 o { e.conn with send := (pushN e).1 } rd := by
    refine ⟨by rw [g2]; exact h.en.first, ⟨a, hsnd, ha0, fun _ => ?_⟩, fun hc => ?_, .inr hmet2, h.en.op, h.en.err⟩
    · rw [hpn]; exact haw
    · have hc : e.conn.phase = 1 := hc; omega
  have hlen : (pushN e).2.1.data.length = N.toNat := by
    rw [hpn]; simp only [List.length_drop, List.length_take]; omega
  have hdat : DatIn s2 (pushN e).2.1.seq (pushN e).2.1.data (hasF (pshF (pushN e).2.1 (pushN e).2.2.1) 1) s.H := by
    rw [(psh_flags _ _).2.2.1]
    refine ⟨?_, by unfold Str.top; omega, fun _ => by rw [hlen, g3]; exact Nat.le_refl _, part_of (by rw [hlen, g1]; omega) fun i hi => ?_, fun hc => ?_⟩
    · rw [hpn]; simp only; rw [ha.una, hfa, num_add _ _ _ hs0, hnum, hH]; simp
    · rw [hlen] at hi
      have hd := ha.dat
      rw [hpn]
      simp only [List.map_drop, List.map_take]
      rw [show List.map (fun n : Int => UInt8.ofNat n.toNat) e.conn.send.data = s.W.drop a from hd, List.getElem?_drop, List.getElem?_take_of_lt (by omega), List.getElem?_drop, g1]
      congr 1; omega
    · rw [hpn] at hc
      have hc : B = true := hc
      have := (hF hc).2.2
      exact ⟨by rw [g4, hc]; simp, by rw [hlen, g1]; omega⟩
  refine ⟨s2, hle, g1, ⟨n + 1, step_ok hp hn⟩, hso, h.oo, Nat.le_trans h.top (hle.top hso h.so), ?_, ?_⟩
  · exact hen0.same z1 (hsend.trans rfl) z3 z4 z5 z6
  · rw [z7]
    intro x hx
    rcases List.mem_append.1 hx with hx | hx
    · exact (h.out x hx).le h.so hso hle rfl
    · rw [List.mem_singleton.1 hx]
      obtain ⟨r, hr⟩ := hmet2
      have hq := recv_len hn.c.recv
      have hw := wnd_eq hq
      obtain ⟨p1, p2, p3, p4⟩ := psh_flags (pushN e).2.1 (pushN e).2.2.1
      refine ⟨p1, by simp only; rw [hlen]; omega, ?_, ?_, fun hc => ?_, fun _ => ⟨_, hdat⟩, fun _ => ⟨hr.M, r + e.conn.recv.done.toNat, ?_, ?_, ?_⟩⟩
      · show 0 ≤ IntKind.u16.wrap (recvWindow e.conn.recv); omega
      · show IntKind.u16.wrap (recvWindow e.conn.recv) ≤ 256; omega
      · have hc : hasF (pshF (pushN e).2.1 (pushN e).2.2.1) 2 = true := hc
        rw [p2] at hc; cases hc
      · simp only [p4, if_true]; exact hr.next
      · rw [hr.R]; exact Nat.le_refl _
      · show ((r + e.conn.recv.done.toNat : Nat) : Int) + IntKind.u16.wrap (recvWindow e.conn.recv) ≤ s2.E
        rw [hr.E, hw]; omega
theorem loop_in {o : Str} {rd : List UInt8} : ∀ (k : Nat) {s : Str} {e : Ep}, EI s o rd e → Goes s o rd (pushLoop k e)
  | 0, s, e, h => h.goes
  | k + 1, s, e, h => by
    simp only [pushLoop]
    split
    · rename_i hc
      exact (step_in hc.1 hc.2 h).bind fun s2 h2 => loop_in k h2
    · exact h.goes
theorem push_in {s o : Str} {rd : List UInt8} {e : Ep} (h : EI s o rd e) : Goes s o rd (epPush e) := loop_in _ h
end Caw

/-! Two ends: what goes between them is what was written. An end's calls. -/
set_option linter.unusedVariables false
namespace Caw
open Go
theorem bare_flags (f : Int) : hasF (bAndNot .u8 f 1) 1 = false := by
  have key : ∀ x : BitVec 8, (x &&& ~~~(1#8)) &&& 1#8 = 0#8 := by decide
  have h := key (BitVec.ofInt 8 f)
  unfold hasF bAnd bAndNot
  have hb : IntKind.u8.bits = 8 := rfl
  have e1 : IntKind.u8.wrap ((BitVec.ofInt IntKind.u8.bits f &&& ~~~BitVec.ofInt IntKind.u8.bits 1).toNat : Int) = ((BitVec.ofInt 8 f &&& ~~~(1#8)).toNat : Int) := by
    rw [IntKind.wrap_u8]
    have := (BitVec.ofInt 8 f &&& ~~~(1#8)).isLt
    show ((BitVec.ofInt 8 f &&& ~~~(1#8)).toNat : Int) % 256 = _
    omega
  rw [e1]
  have e2 : BitVec.ofInt IntKind.u8.bits ((BitVec.ofInt 8 f &&& ~~~(1#8)).toNat : Int) = BitVec.ofInt 8 f &&& ~~~(1#8) := by
    show BitVec.ofInt 8 ((BitVec.ofInt 8 f &&& ~~~(1#8)).toNat : Int) = _
    rw [BitVec.ofInt_natCast, BitVec.ofNat_toNat, BitVec.setWidth_eq]
  rw [e2]
  have e3 : (BitVec.ofInt IntKind.u8.bits 1) = 1#8 := rfl
  have e4 : (((BitVec.ofInt 8 f &&& ~~~(1#8)) &&& (1#8 : BitVec 8)).toNat : Int) = 0 := by rw [h]; rfl
  show (IntKind.u8.wrap (((BitVec.ofInt 8 f &&& ~~~(1#8)) &&& (1#8 : BitVec 8)).toNat : Int) != 0) = false
  rw [e4]
  rfl
/-! ### takes -/
/-- What a segment acknowledges. -/
def AckIn (s o : Str) (x : Seg) : Prop := o.M = true ∧ (0 ≤ x.wnd ∧ x.wnd ≤ 256) ∧ ∃ m : Nat, x.ack = num s m ∧ m ≤ o.R ∧ (m : Int) + x.wnd ≤ o.E
theorem top_le {s : Str} (h : StrOk s) : s.top ≤ s.W.length + 1 := by
  have := h.h
  unfold Str.top; cases s.S <;> simp <;> omega
theorem sendAck_in {s o : Str} (hs : StrOk s) (hR : o.R ≤ s.top) {q : Send} {a m : Nat} (hq : SendOk q) (h : SndIn s o q a) {x : Int} (hx : x = num s m) (hm : m ≤ o.R) :
    ∃ a2, SndIn s o (sendAck q x).1 a2 ∧ (sendAck q x).2.2 = 0 ∧ (x = (sendAck q x).1.una → a2 + (sendAck q x).1.finAcked.toNat = m) ∧ (x ≠ (sendAck q x).1.una → (sendAck q x).1 = q ∧ a2 = a) := by
  have ht := top_le hs
  have hl := hs.len
  have hle := h.le
  have hsz := h.size
  have h0 := hq.s0
  have h1 := hq.s1
  have hdl := hq.len
  have hH := h.H
  obtain ⟨f1, f2, f3⟩ := flight_at hq h
  have hfa1 : q.finAcked.toNat ≤ 1 := by cases q.finAcked <;> simp
  have hd : seqDiff x q.una = (m : Int) - (a + q.finAcked.toNat : Nat) := by rw [hx, h.una, num_diff s (by omega) (by omega)]
  unfold sendAck
  split
  · rename_i hc
    refine ⟨a, h, rfl, fun he => ?_, fun _ => ⟨rfl, rfl⟩⟩
    rw [hx, h.una] at he
    exact (num_inj s (by omega) (by omega) he).symm
  · rename_i hc
    rw [if_neg (by omega)]
    have hfa : q.finAcked = false := by
      cases hfa : q.finAcked with
      | false => rfl
      | true =>
        obtain ⟨g1, g2⟩ := hq.fa hfa
        have : sendFlight q = 0 := by unfold sendFlight; rw [hfa]; simp; omega
        rw [hfa] at hd f3; simp at hd f3; omega
    rw [hfa] at hd f3 
    simp only [Bool.toNat_false, Nat.add_zero] at hd f3
    have hn : minI (seqDiff x q.una) q.sent = (if (m : Int) - a ≤ q.sent then ((m - a : Nat) : Int) else q.sent) := by
      rw [hd]; unfold minI; split <;> split <;> omega
    simp only
    by_cases hcs : (m : Int) - a ≤ q.sent
    · rw [if_pos hcs] at hn
      have hlt : decide (minI (seqDiff x q.una) q.sent < seqDiff x q.una) = false := by
        rw [hn, hd]; simp; omega
      rw [hlt, hn]
      simp only [Int.toNat_natCast, hfa, Bool.or_false]
      rw [wi_of (by omega) (by omega)]
      refine ⟨m, ⟨by omega, ?_, by rw [hx]; rfl, by simp only; omega, h.S, by simp only [Bool.toNat_false, Nat.add_zero]; exact hm, h.edge⟩, trivial, fun _ => by simp, fun hne => absurd rfl hne⟩
      show List.map _ (List.drop (m - a) q.data) = _
      rw [List.map_drop]
      show List.drop (m - a) (u8s q.data) = _
      rw [h.dat, List.drop_drop]; congr 1; omega
    · rw [if_neg hcs] at hn
      have hfs : q.finSent = true ∧ (m : Int) = a + q.sent + 1 := by
        unfold sendFlight at f3
        cases hfs : q.finSent with
        | false => rw [hfs] at f3; simp at f3; omega
        | true =>
          rw [hfs, hfa] at f3
          simp only [Bool.not_false, Bool.and_self, if_true] at f3
          rw [wi_of (by omega) (by omega)] at f3
          exact ⟨rfl, by omega⟩
      have hlen := (hq.fs hfs.1).2
      have hlt : decide (minI (seqDiff x q.una) q.sent < seqDiff x q.una) = true := by
        rw [hn, hd]; simp; omega
      rw [hlt, hn]
      simp only [Bool.or_true]
      rw [wi_of (by omega) (by omega)]
      refine ⟨a + q.sent.toNat, ⟨by omega, ?_, ?_, by simp only; omega, h.S, by simp only [Bool.toNat_true]; omega, h.edge⟩, trivial, fun _ => by simp only [Bool.toNat_true]; omega, fun hne => absurd rfl hne⟩
      · show List.map _ (List.drop q.sent.toNat q.data) = _
        rw [List.map_drop]
        show List.drop q.sent.toNat (u8s q.data) = _
        rw [h.dat, List.drop_drop]
      · rw [hx]; simp only [Bool.toNat_true]; congr 1; omega
theorem tk7_fields (e : Ep) (s : Seg) : (tk7 e s).conn.phase = e.conn.phase ∧ (tk7 e s).conn.first = e.conn.first ∧ (tk7 e s).conn.err = e.conn.err ∧ (tk7 e s).conn.window = (if s.ack = (tkR e s).1.una then IntKind.i64.wrap s.wnd else e.conn.window) := by
  have hk := epMeasure_keeps (tk1 e s) s.ack
  have h4 : (tk4 e s).conn.phase = e.conn.phase ∧ (tk4 e s).conn.first = e.conn.first ∧ (tk4 e s).conn.err = e.conn.err ∧ (tk4 e s).conn.window = e.conn.window := by
    unfold tk4
    split
    · have hz : tkM e s = epMeasure (tk1 e s) s.ack := rfl
      rw [← hz] at hk
      unfold tk3 tk2 epArm
      generalize tkM e s = z at hk
      obtain ⟨k1, k2, k3, k4, k5, k6, k7, k8, k9, k10, k11, k12, k13, k14, k15⟩ := hk
      split <;> exact ⟨k4, k5, k10, k6⟩
    · exact ⟨rfl, rfl, rfl, rfl⟩
  obtain ⟨a, b, c, d⟩ := h4
  unfold tk7
  split
  · unfold tk6
    split <;> exact ⟨a, b, c, rfl⟩
  · exact ⟨a, b, c, d⟩
theorem over_in {s o : Str} {rd : List UInt8} {e : Ep} (h : EndIn s o e.conn rd) (hr : ∃ r, RcvIn s o e.conn.recv rd r) : EndIn s o (epOver e).conn rd := by
  unfold epOver
  split
  · exact h
  · rename_i hc
    have hp : e.conn.phase = 3 := by
      by_cases hp : e.conn.phase = 3
      · exact hp
      · exact absurd (.inl hp) hc
    obtain ⟨a, b1, b2, b3⟩ := h.snd
    split
    · exact ⟨h.first, ⟨a, b1, by simp, by simp⟩, by simp, .inr hr, by simp, h.err⟩
    · exact ⟨h.first, ⟨a, b1, by simp [epShut], by simp [epShut]⟩, by simp [epShut], .inr hr, by simp [epShut], by simp [epShut]⟩
theorem Goes.bindL {s o : Str} {rd : List UInt8} {e e2 : Ep} (h : Goes s o rd e) (k : ∀ s2, s.Le s2 → EI s2 o rd e → Goes s2 o rd e2) : Goes s o rd e2 := by
  obtain ⟨s2, h1, h2, h3⟩ := h
  obtain ⟨s3, k1, k2, k3⟩ := k s2 h1 h3
  exact ⟨s3, h1.trans k1, k2.trans h2, k3⟩
/-- Who met the other. -/
theorem EI.metM {s o : Str} {rd : List UInt8} {e : Ep} (h : EI s o rd e) (hM : s.M = true) : ∃ r, RcvIn s o e.conn.recv rd r := by
  rcases h.en.rcv with hu | hr
  · have := hu.2.2.2.2.2; rw [hM] at this; cases this
  · exact hr
theorem takesC_in {s o : Str} {rd : List UInt8} {e : Ep} {x : Seg} (h : EI s o rd e) (hM : s.M = true) : Goes s o rd (takesC e x) := by
  have hp := push_in h
  unfold takesC
  split
  · exact hp.bindL fun s2 hl h2 => (ack_in h2 (h2.metM (hl.M hM))).goes
  · exact hp
theorem tk9_in {s o : Str} {rd : List UInt8} {e : Ep} {x : Seg} (hp : e.conn.phase = 3 ∨ e.conn.phase = 4) (hx : SegOk x) (h : EI s o rd e) (ha : AckIn s o x) (hd : ∃ k, DatIn o x.seq x.data (hasF x.flags 1) k) (hr : (tkR e x).2.2 = 0) : Goes s o rd (tk9 e x) := by
  obtain ⟨n, hn⟩ := h.ok
  have hn9 : EpOk n (tk9 e x) := by
    rcases hp with hp | hp
    · exact tk9_ok hp hx hn
    · exact tk9_ok4 hp hx hn hr
  obtain ⟨k, hd⟩ := hd
  obtain ⟨r, hrc⟩ := h.met (by omega)
  obtain ⟨r2, s2, l1, l2, l3⟩ := acc_in h.oo hx.d0 hn.c.recv hrc hd
  obtain ⟨a1, ⟨w0, w1⟩, m, m1, m2, m3⟩ := ha
  obtain ⟨a, b1, b2, b3⟩ := h.en.snd
  obtain ⟨a2, c1, c2, c3, c4⟩ := sendAck_in h.so h.top hn.c.send b1 m1 m2
  obtain ⟨f1, f2, f3, f4⟩ := tk7_fields e x
  obtain ⟨g1, g2, g3⟩ := tk7_keeps e x
  have hnum : ∀ k, num s2 k = num s k := fun k => by unfold num; rw [l1.F]
  have so2 : StrOk s2 := by
    rw [l2]
    exact ⟨h.so.u, h.so.len, h.so.h, h.so.f, by have := l1.E; have := h.so.e; simp only; omega⟩
  have hW : s2.W = s.W := by rw [l2]
  have hHS : s2.H = s.H ∧ s2.S = s.S := by rw [l2]; exact ⟨rfl, rfl⟩
  have hsnd : SndIn s2 o (tkR e x).1 a2 := by
    have c1 : SndIn s o (tkR e x).1 a2 := c1
    exact ⟨by rw [hW]; exact c1.le, by rw [hW]; exact c1.dat, by rw [hnum]; exact c1.una, by rw [hHS.1]; exact c1.H, by rw [hHS.2]; exact c1.S, c1.out, by rw [hHS.1]; exact c1.edge⟩
  have h8 : EndIn s2 o (tk8 e x).conn rd := by
    have hs8 : (tk8 e x).conn.send = (tkR e x).1 := g1
    have hr8 : (tk8 e x).conn.recv = recvAcc e.conn.recv x.seq x.data (hasF x.flags 1) := by
      show recvAcc (tk7 e x).conn.recv x.seq x.data (hasF x.flags 1) = _
      rw [g2]
    have hp8 : (tk8 e x).conn.phase = e.conn.phase := f1
    refine ⟨by rw [l1.F]; exact f2.trans h.en.first, ⟨a2, by rw [hs8]; exact hsnd, fun hc => ?_, fun hc => ?_⟩, fun hc => ?_, .inr ⟨r2, by rw [hr8]; exact l3⟩, fun hc => ?_, ?_⟩
    · rw [hp8] at hc; omega
    · rw [hp8] at hc
      have hw8 : (tk8 e x).conn.window = (if x.ack = (tkR e x).1.una then IntKind.i64.wrap x.wnd else e.conn.window) := f4
      rw [hs8, hw8]
      by_cases hu : x.ack = (tkR e x).1.una
      · rw [if_pos hu, wi_of (by omega) (by omega)]
        have hc3 : a2 + (tkR e x).1.finAcked.toNat = m := c3 hu
        rw [hc3]; exact m3
      · rw [if_neg hu]
        obtain ⟨e1, e2⟩ := c4 hu
        have e1 : (tkR e x).1 = e.conn.send := e1
        rw [e1, e2]
        exact b3 (by omega)
    · rw [hp8] at hc; omega
    · rw [hp8] at hc; exact h.en.op hc
    · have : (tk8 e x).conn.err = e.conn.err := f3
      rw [this]; exact h.en.err
  refine ⟨s2, l1, hW, ⟨n, hn9⟩, so2, h.oo, Nat.le_trans h.top (l1.top so2 h.so), over_in h8 ⟨r2, ?_⟩, ?_⟩
  · show RcvIn s2 o (recvAcc (tk7 e x).conn.recv x.seq x.data (hasF x.flags 1)) rd r2
    rw [g2]; exact l3
  · obtain ⟨q1, q2, q3⟩ := tk9_keeps e x
    rw [q3]
    exact fun y hy => (h.out y hy).le h.so so2 l1 rfl
theorem tkR_ok {s o : Str} {rd : List UInt8} {e : Ep} {x : Seg} (h : EI s o rd e) (ha : AckIn s o x) : (tkR e x).2.2 = 0 := by
  obtain ⟨n, hn⟩ := h.ok
  obtain ⟨a1, w, m, m1, m2, m3⟩ := ha
  obtain ⟨a, b1, b2, b3⟩ := h.en.snd
  obtain ⟨a2, c1, c2, c3, c4⟩ := sendAck_in h.so h.top hn.c.send b1 m1 m2
  exact c2
theorem opened_in {s o : Str} {rd : List UInt8} {e : Ep} {x : Seg} (hp : e.conn.phase = 2 ∨ (e.conn.phase = 1 ∧ e.conn.window ≤ 256)) (hr : ∃ r, RcvIn s o e.conn.recv rd r) (hoM : o.M = true) (hok : ∃ n, EpOk n e) (hso : StrOk s) (hoo : StrOk o) (htop : o.R ≤ s.top)
    (hf : e.conn.first = s.F) (hsnd : ∃ a, SndIn s o e.conn.send a ∧ a = 0 ∧ ((a + e.conn.send.finAcked.toNat : Nat) : Int) + e.conn.window ≤ o.E) (herr : e.conn.err ≠ 11) (hout : ∀ y ∈ e.out, SegIn s o y) : EI s o rd (epOpened e x) ∧ (epOpened e x).conn.phase = 3 := by
  obtain ⟨n, hn⟩ := hok
  obtain ⟨p1, p2⟩ := opened_ok (s := x) (show e.conn.phase = 1 ∨ e.conn.phase = 2 by omega) hn
  obtain ⟨k1, k2, k3, k4, k5, k6, k7, k8, k9, k10, k11, k12, k13, k14, k15⟩ := epMeasure_keeps { e with conn := { e.conn with phase := 3, tries := 0, due := 0 } } x.ack
  refine ⟨⟨⟨n, p1⟩, hso, hoo, htop, ?_, ?_⟩, p2⟩
  · obtain ⟨a, b1, b2, b3⟩ := hsnd
    refine ⟨k5.trans hf, ⟨a, ?_, fun hc => ?_, fun _ => ?_⟩, fun hc => ?_, .inr ?_, fun _ => hoM, ?_⟩
    · have : (epOpened e x).conn.send = e.conn.send := k1
      rw [this]; exact b1
    · rw [p2] at hc; omega
    · have h1 : (epOpened e x).conn.send = e.conn.send := k1
      have h2 : (epOpened e x).conn.window = e.conn.window := k6
      rw [h1, h2]; exact b3
    · rw [p2] at hc; omega
    · have : (epOpened e x).conn.recv = e.conn.recv := k2
      rw [this]; exact hr
    · have : (epOpened e x).conn.err = e.conn.err := k10
      rw [this]; exact herr
  · have : (epOpened e x).out = e.out := k3
    rw [this]; exact hout
theorem acks_first {s o : Str} {rd : List UInt8} {e : Ep} {x : Seg} (hp : e.conn.phase = 1 ∨ e.conn.phase = 2) (h : EI s o rd e) (ha : AckIn s o x) : x.ack = seqAdd e.conn.first 1 := by
  obtain ⟨n, hn⟩ := h.ok
  obtain ⟨a1, w, m, m1, m2, m3⟩ := ha
  obtain ⟨a, b1, b2, b3⟩ := h.en.snd
  have hf : e.conn.send.sent = 0 ∧ e.conn.send.finSent = false := by
    rcases hn.c.fine with h | h | h | h
    · have := h.1; omega
    · exact ⟨h.2.2.1, h.2.2.2.1⟩
    · have := h.1; omega
    · have := h.1; omega
  have hH := b1.H
  have hS := b1.S
  have ha0 := b2 hp
  have ht : s.top = 0 := by
    unfold Str.top; rw [hH, hS, hf.1, hf.2, ha0]; rfl
  have hR := h.top
  have hm : m = 0 := by omega
  rw [m1, hm, num_first, h.en.first]
theorem takes_in {s o : Str} {rd : List UInt8} {e : Ep} {x : Seg} (hp : e.conn.phase ≠ 0 ∧ e.conn.phase ≠ 1) (hx : SegOk x) (h : EI s o rd e) (ha : AckIn s o x) (hd : ∃ k, DatIn o x.seq x.data (hasF x.flags 1) k) : Goes s o rd (takes e x) := by
  obtain ⟨n, hn⟩ := h.ok
  have hph : e.conn.phase = 2 ∨ e.conn.phase = 3 ∨ e.conn.phase = 4 := by
    rcases hn.c.fine with h | h | h | h
    · exact absurd h.1 hp.1
    · rcases h.1 with h | h
      · exact absurd h hp.2
      · exact .inl h
    · exact .inr (.inl h.1)
    · exact .inr (.inr h.1)
  have hmet := h.met hp
  have hM : s.M = true := by obtain ⟨r, hr⟩ := hmet; exact hr.M
  unfold takes
  rw [if_neg (fun hc => hc.2 (acks_first (.inr hc.1) h ha))]
  have h0 : EI s o rd (tk0 e x) ∧ ((tk0 e x).conn.phase = 3 ∨ (tk0 e x).conn.phase = 4) := by
    unfold tk0
    split
    · rename_i h2
      obtain ⟨a, b1, b2, b3⟩ := h.en.snd
      obtain ⟨p1, p2⟩ := opened_in (x := x) (.inl h2) hmet ha.1 h.ok h.so h.oo h.top h.en.first ⟨a, b1, b2 (.inr h2), b3 (.inl h2)⟩ h.en.err h.out
      exact ⟨p1, .inl p2⟩
    · rename_i h2
      exact ⟨h, by omega⟩
  obtain ⟨h0, hp0⟩ := h0
  unfold takesB
  have hr := tkR_ok h0 ha
  rw [if_pos hr]
  exact (tk9_in hp0 hx h0 ha hd hr).bindL fun s2 hl h2 => takesC_in h2 (hl.M hM)
theorem late_in {s o : Str} {rd : List UInt8} {e : Ep} {x : Seg} (hp : e.conn.phase ≠ 0 ∧ e.conn.phase ≠ 1) (hx : SegOk x) (h : EI s o rd e) (ha : hasF x.flags 16 = true → AckIn s o x) (hd : ∃ k, DatIn o x.seq x.data (hasF x.flags 1) k) : Goes s o rd (late e x) := by
  have hM : s.M = true := by obtain ⟨r, hr⟩ := h.met hp; exact hr.M
  have h1 : Goes s o rd (lateB e x) := by
    unfold lateB
    split
    · rename_i hc
      refine takes_in hp (bare_ok hx) h (ha hc.2.1) ?_
      obtain ⟨k, hd⟩ := hd
      refine ⟨k, ?_⟩
      show DatIn o x.seq [] (hasF (bAndNot .u8 x.flags 1) 1) k
      rw [bare_flags, hd.seq]
      exact .bare o k hd.top
    · exact h.goes
  unfold late
  split
  · exact h1.bindL fun s2 hl h2 => (ack_in h2 (h2.metM (hl.M hM))).goes
  · exact h1
/-! ### Others -/
theorem shut_in {s o : Str} {rd : List UInt8} {e : Ep} (y : Int) (hy : y ≠ 11) (h : EI s o rd e) : EI s o rd (epShut e y) := by
  obtain ⟨n, hn⟩ := h.ok
  refine ⟨⟨n, shut_ok y hn⟩, h.so, h.oo, h.top, ?_, h.out⟩
  obtain ⟨a, b1, b2, b3⟩ := h.en.snd
  refine ⟨h.en.first, ⟨a, b1, by simp [epShut], by simp [epShut]⟩, by simp [epShut], ?_, by simp [epShut], hy⟩
  rcases h.en.rcv with hu | hr
  · exact .inl ⟨hu.1, .inr rfl, hu.2.2⟩
  · exact .inr hr
/-- The first segment of an end. -/
theorem hello_in {s o : Str} {rd : List UInt8} {e : Ep} (hp : e.conn.phase = 1 ∨ e.conn.phase = 2) (h : EI s o rd e) : EI s o rd (epHello e) := by
  obtain ⟨n, hn⟩ := h.ok
  refine ⟨⟨n + 1, hello_ok hn⟩, h.so, h.oo, h.top, h.en.same rfl rfl rfl rfl rfl rfl, fun x hx => ?_⟩
  rcases List.mem_append.1 hx with hx | hx
  · exact h.out x hx
  · rw [List.mem_singleton.1 hx]
    have hq := recv_len hn.c.recv
    have hw := wnd_eq hq
    have f2 : hasF 2 4 = false ∧ hasF 2 2 = true ∧ hasF 2 1 = false ∧ hasF 2 16 = false := by decide
    have f18 : hasF (bOr .u8 2 16) 4 = false ∧ hasF (bOr .u8 2 16) 2 = true ∧ hasF (bOr .u8 2 16) 1 = false ∧ hasF (bOr .u8 2 16) 16 = true := by decide
    by_cases h2 : e.conn.phase = 2
    · rw [if_pos h2]
      obtain ⟨r, hr⟩ := h.met (by omega)
      refine ⟨f18.1, by simp, ?_, ?_, fun _ => ⟨h.en.first, rfl, f18.2.2.1⟩, fun hc => ?_, fun _ => ⟨hr.M, r + e.conn.recv.done.toNat, ?_, ?_, ?_⟩⟩
      · show 0 ≤ IntKind.u16.wrap (recvWindow e.conn.recv); omega
      · show IntKind.u16.wrap (recvWindow e.conn.recv) ≤ 256; omega
      · have hc : hasF (bOr .u8 2 16) 2 = false := hc
        rw [f18.2.1] at hc; cases hc
      · simp only [f18.2.2.2, if_true]; exact hr.next
      · rw [hr.R]; exact Nat.le_refl _
      · show ((r + e.conn.recv.done.toNat : Nat) : Int) + IntKind.u16.wrap (recvWindow e.conn.recv) ≤ s.E
        rw [hr.E, hw]; omega
    · rw [if_neg h2]
      refine ⟨f2.1, by simp, ?_, ?_, fun _ => ⟨h.en.first, rfl, f2.2.2.1⟩, fun hc => ?_, fun hc => ?_⟩
      · show 0 ≤ IntKind.u16.wrap (recvWindow e.conn.recv); omega
      · show IntKind.u16.wrap (recvWindow e.conn.recv) ≤ 256; omega
      · have hc : hasF 2 2 = false := hc
        rw [f2.2.1] at hc; cases hc
      · have hc : hasF 2 16 = true := hc
        rw [f2.2.2.2] at hc; cases hc
/-- The other's first segment is met. -/
theorem meet_in {s o : Str} {rd : List UInt8} {e : Ep} {x : Seg} (hp : e.conn.phase = 1 ∨ e.conn.phase = 2) (hx : SegOk x) (hok : ∃ n, EpOk n e) (hso : StrOk s) (hoo : StrOk o) (htop : o.R ≤ s.top) (hf : e.conn.first = s.F) (hu : rd = [] ∧ s.E = 256 ∧ s.R = 0 ∧ s.M = false)
    (hsnd : SndIn s o e.conn.send 0) (herr : e.conn.err ≠ 11) (hout : ∀ y ∈ e.out, SegIn s o y) (hseq : x.seq = o.F) (hw : x.wnd ≤ 256) :
    ∃ s2, s.Le s2 ∧ s2.W = s.W ∧ StrOk s2 ∧ o.R ≤ s2.top ∧ (∃ n, EpOk n (epMeet e x)) ∧ (epMeet e x).conn.first = s2.F ∧ (∃ r, RcvIn s2 o (epMeet e x).conn.recv rd r) ∧ SndIn s2 o (epMeet e x).conn.send 0 ∧
      ((0 + (epMeet e x).conn.send.finAcked.toNat : Nat) : Int) + (epMeet e x).conn.window ≤ o.E ∧ (epMeet e x).conn.err ≠ 11 ∧ ∀ y ∈ (epMeet e x).out, SegIn s2 o y := by
  obtain ⟨n, hn⟩ := hok
  obtain ⟨u1, u2, u3, u4⟩ := hu
  have hle : s.Le { s with M := true } := ⟨rfl, ⟨[], by simp⟩, Nat.le_refl _, fun h => ⟨h, rfl⟩, Int.le_refl _, Nat.le_refl _, fun _ => rfl⟩
  have hs2 : StrOk { s with M := true } := ⟨hso.u, hso.len, hso.h, hso.f, hso.e⟩
  have hfa : e.conn.send.finAcked = false := by
    have hfs : e.conn.send.finSent = false := by
      rcases hn.c.fine with h | h | h | h
      · have := h.1; omega
      · exact h.2.2.2.1
      · have := h.1; omega
      · have := h.1; omega
    cases hfa : e.conn.send.finAcked with
    | false => rfl
    | true => have := (hn.c.send.fa hfa).1; rw [hfs] at this; cases this
  refine ⟨_, hle, rfl, hs2, htop, ⟨n, meet_ok hp hx hn⟩, hf, ⟨0, ?_⟩, ?_, ?_, herr, fun y hy => (hout y hy).le hso hs2 hle rfl⟩
  · show RcvIn { s with M := true } o (recvNew (seqAdd x.seq 1)) rd 0
    refine ⟨Nat.zero_le _, by simp [u1, recvNew], ?_, by simp [recvNew], by simp [recvNew], by simp [recvNew], by simp [recvNew, u2], by simp [recvNew, u3], rfl⟩
    show seqAdd x.seq 1 = _
    rw [hseq]; exact (num_first o).symm
  · exact ⟨hsnd.le, hsnd.dat, hsnd.una, hsnd.H, hsnd.S, hsnd.out, hsnd.edge⟩
  · show ((0 + e.conn.send.finAcked.toNat : Nat) : Int) + IntKind.i64.wrap x.wnd ≤ o.E
    have := hx.w0
    have := hoo.e
    rw [hfa, wi_of (by omega) (by omega)]; simp; omega
end Caw

