import Derived.Test.YtkjodjaamjnejaaK9
import Derived.Test.YtkjodjaamjnejaaK10
set_option linter.all false
/-! Layer recvq: what is right stays right. -/
namespace Caw
open Go

/-- A number of 32 bits. -/
def U32 (n : Int) : Prop := 0 ≤ n ∧ n < 4294967296
theorem seqDiff_eq (a b : Int) : seqDiff a b = ((a - b) % 4294967296 + 2147483648) % 4294967296 - 2147483648 := by
  unfold seqDiff
  rw [IntKind.wrap_i64, IntKind.wrap_i32, IntKind.wrap_u32]
  omega
theorem seqAdd_eq (a n : Int) : seqAdd a n = (a + n) % 4294967296 := by
  unfold seqAdd
  rw [IntKind.wrap_u32, IntKind.wrap_u32]; omega
theorem off_range (a b : Int) : -2147483648 ≤ seqDiff a b ∧ seqDiff a b < 2147483648 := by rw [seqDiff_eq]; omega
theorem seqAdd_u (a n : Int) : U32 (seqAdd a n) := by unfold U32; rw [seqAdd_eq]; omega
theorem off_self (n : Int) : seqDiff n n = 0 := by rw [seqDiff_eq]; omega
theorem off_zero {n x : Int} (hn : U32 n) (hx : U32 x) (h : seqDiff x n = 0) : x = n := by
  unfold U32 at *
  rw [seqDiff_eq] at h; omega
theorem off_new (n k : Int) (h : 0 ≤ k) (h2 : k ≤ 100000) : seqDiff (seqAdd n k) n = k := by rw [seqDiff_eq, seqAdd_eq]; omega
theorem off_add {n x k : Int} (h : 0 ≤ seqDiff x n) (h2 : seqDiff x n + k ≤ 100000) (h3 : 0 ≤ k) : seqDiff (seqAdd x k) n = seqDiff x n + k := by
  simp only [seqDiff_eq, seqAdd_eq] at *; omega
theorem off_dif {n x p : Int} (h : 0 ≤ seqDiff x n) (h2 : seqDiff x n ≤ 100000) (h3 : 0 ≤ seqDiff p n) (h4 : seqDiff p n ≤ 100000) : seqDiff x p = seqDiff x n - seqDiff p n := by
  simp only [seqDiff_eq] at *; omega
theorem off_sub {n x p k : Int} (h : 0 ≤ seqDiff x n) (h2 : seqDiff x n + k ≤ 100000) (hk : 0 ≤ k) (h3 : 0 ≤ seqDiff p n) (h4 : seqDiff p n ≤ 100000) : seqDiff (seqAdd x k) p = seqDiff x n + k - seqDiff p n := by
  have e := off_add h h2 hk
  have := off_dif (n := n) (x := seqAdd x k) (p := p) (by omega) (by omega) h3 h4
  omega
theorem off_next {n x k : Int} (h : 0 ≤ seqDiff x n) (h2 : seqDiff x n ≤ 100000) (hk : 0 ≤ k) (hk2 : k ≤ 100000) : seqDiff x (seqAdd n k) = seqDiff x n - k := by
  have e := off_new n k hk hk2
  have := off_dif (n := n) (x := x) (p := seqAdd n k) h h2 (by omega) (by omega)
  omega

/-- A piece behind t, within W. -/
def PGood (n W : Int) (p : Piece) (t : Int) : Prop := t < seqDiff p.seq n ∧ U32 p.seq ∧ 0 < p.data.length ∧ seqDiff p.seq n + p.data.length ≤ W
/-- Pieces in order, with gaps. -/
def Gap (n W : Int) : List Piece → Int → Prop
  | [], _ => True
  | p :: r, t => PGood n W p t ∧ Gap n W r (seqDiff p.seq n + p.data.length)
def layGo : List Piece → Piece → List Piece
  | [], p => [p]
  | x :: r, p =>
    if seqDiff (seqAdd x.seq x.data.length) p.seq < 0 then x :: layGo r p
    else if seqDiff (seqAdd p.seq p.data.length) x.seq < 0 then p :: layGo r x
    else layGo r (both x p)
theorem layLoop_go : ∀ (l out : List Piece) (p : Piece), (layLoop l out p).1 ++ [(layLoop l out p).2] = out ++ layGo l p
  | [], out, p => rfl
  | x :: r, out, p => by
    simp only [layLoop, layGo]
    split
    · rw [layLoop_go r _ p]; simp
    · split
      · rw [layLoop_go r _ x]; simp
      · rw [layLoop_go r _ _]
theorem layAll_go (l : List Piece) (p : Piece) : layAll l p = layGo l p := by
  unfold layAll; rw [layLoop_go]; rfl
theorem both_good {n W t t0 : Int} {x p : Piece} (hW : W ≤ 300) (h0 : -1 ≤ t0) (h1 : t0 ≤ t) (hx : PGood n W x t) (hp : PGood n W p t0) : PGood n W (both x p) t0 ∧ bothOk x p := by
  obtain ⟨x1, x2, x3, x4⟩ := hx
  obtain ⟨p1, p2, p3, p4⟩ := hp
  have hd := off_dif (n := n) (x := p.seq) (p := x.seq) (by omega) (by omega) (by omega) (by omega)
  have hfrom : bothFrom x p = if seqDiff p.seq n < seqDiff x.seq n then p.seq else x.seq := by
    unfold bothFrom seqLess
    rw [hd]
    by_cases h : seqDiff p.seq n < seqDiff x.seq n
    · rw [if_pos h, if_pos (by simp; omega)]
    · rw [if_neg h, if_neg (by simp; omega)]
  obtain ⟨f, hf, ho, hu, hle1, hle2, hor⟩ : ∃ f, bothFrom x p = f ∧ t0 < seqDiff f n ∧ U32 f ∧ seqDiff f n ≤ seqDiff x.seq n ∧ seqDiff f n ≤ seqDiff p.seq n ∧ (seqDiff f n = seqDiff x.seq n ∨ seqDiff f n = seqDiff p.seq n) := by
    rw [hfrom]
    split
    · exact ⟨_, rfl, by omega, p2, by omega, by omega, .inr rfl⟩
    · exact ⟨_, rfl, by omega, x2, by omega, by omega, .inl rfl⟩
  have e1 := off_dif (n := n) (x := x.seq) (p := f) (by omega) (by omega) (by omega) (by omega)
  have e2 := off_dif (n := n) (x := p.seq) (p := f) (by omega) (by omega) (by omega) (by omega)
  have hlen : bothLen x p = maxI (seqDiff x.seq n - seqDiff f n + x.data.length) (seqDiff p.seq n - seqDiff f n + p.data.length) := by
    unfold bothLen
    rw [hf, e1, e2, wi_of (by omega) (by omega), wi_of (by omega) (by omega)]
  obtain ⟨L, hL, hL1, hL2, hL3⟩ : ∃ L : Nat, bothLen x p = L ∧ seqDiff x.seq n - seqDiff f n + x.data.length ≤ L ∧ seqDiff p.seq n - seqDiff f n + p.data.length ≤ L ∧ seqDiff f n + L ≤ W := by
    refine ⟨(bothLen x p).toNat, ?_, ?_, ?_, ?_⟩ <;> rw [hlen] <;> unfold maxI <;> split <;> omega
  obtain ⟨k1, hk1⟩ : ∃ k1 : Nat, seqDiff x.seq f = k1 := ⟨(seqDiff x.seq f).toNat, by omega⟩
  obtain ⟨k2, hk2⟩ : ∃ k2 : Nat, seqDiff p.seq f = k2 := ⟨(seqDiff p.seq f).toNat, by omega⟩
  have hb : both x p = ⟨f, paste (paste (List.replicate L 0) k2 p.data) k1 x.data⟩ := by
    unfold both
    rw [hL, hf, hk1, hk2]
    simp
  have hl1 : (paste (List.replicate L (0:Int)) k2 p.data).length = L := by
    rw [paste_len _ _ _ (by simp; omega)]; simp
  have hl2 : (paste (paste (List.replicate L (0:Int)) k2 p.data) k1 x.data).length = L := by
    rw [paste_len _ _ _ (by rw [hl1]; omega), hl1]
  refine ⟨?_, L, k1, k2, hL, by rw [hf]; exact hk1, by rw [hf]; exact hk2, by omega, by omega, by omega, by omega, by omega⟩
  rw [hb]
  refine ⟨ho, hu, ?_, ?_⟩
  · simp only [hl2]; omega
  · simp only [hl2]; omega
theorem layGo_gap {n W : Int} (hW : W ≤ 300) : ∀ (l : List Piece) (p : Piece) (t t0 : Int), -1 ≤ t0 → t0 ≤ t → Gap n W l t → PGood n W p t0 → Gap n W (layGo l p) t0 ∧ layOk l p ∧ (layGo l p).length ≤ l.length + 1
  | [], p, t, t0, _, _, _, hp => ⟨⟨hp, trivial⟩, trivial, Nat.le_refl _⟩
  | x :: r, p, t, t0, h0, h1, ⟨hx, hr⟩, hp => by
    have ⟨x1, x2, x3, x4⟩ := hx
    have ⟨p1, p2, p3, p4⟩ := hp
    have e1 := off_sub (n := n) (x := x.seq) (p := p.seq) (k := x.data.length) (by omega) (by omega) (by omega) (by omega) (by omega)
    have e2 := off_sub (n := n) (x := p.seq) (p := x.seq) (k := p.data.length) (by omega) (by omega) (by omega) (by omega) (by omega)
    simp only [layGo, layOk, e1, e2]
    split
    · rename_i hc
      obtain ⟨i1, i2, i3⟩ := layGo_gap hW r p _ (seqDiff x.seq n + x.data.length) (by omega) (by omega) hr ⟨by omega, p2, p3, p4⟩
      exact ⟨⟨⟨by omega, x2, x3, x4⟩, i1⟩, i2, by simp only [List.length_cons]; omega⟩
    · split
      · rename_i hc
        obtain ⟨i1, i2, i3⟩ := layGo_gap hW r x _ (seqDiff p.seq n + p.data.length) (by omega) (by omega) hr ⟨by omega, x2, x3, x4⟩
        exact ⟨⟨hp, i1⟩, i2, by simp only [List.length_cons]; omega⟩
      · obtain ⟨b1, b2⟩ := both_good hW h0 h1 hx hp
        obtain ⟨i1, i2, i3⟩ := layGo_gap hW r (both x p) _ t0 h0 (by omega) hr b1
        exact ⟨i1, ⟨b2, i2⟩, by simp only [List.length_cons]; omega⟩
theorem gap_mem {n W : Int} : ∀ {l : List Piece} {t : Int}, -1 ≤ t → Gap n W l t → ∀ p ∈ l, 0 ≤ seqDiff p.seq n ∧ seqDiff p.seq n + p.data.length ≤ W ∧ U32 p.seq ∧ 0 < p.data.length
  | [], _, _, _ => by simp
  | x :: r, t, ht, ⟨hx, hr⟩ => by
    obtain ⟨x1, x2, x3, x4⟩ := hx
    intro p hp
    rcases List.mem_cons.1 hp with rfl | hp
    · exact ⟨by omega, x4, x2, x3⟩
    · exact gap_mem (by omega) hr p hp
theorem gap_bound {n W W2 : Int} : ∀ {l : List Piece} {t : Int}, Gap n W l t → (∀ p ∈ l, seqDiff p.seq n + p.data.length ≤ W2) → Gap n W2 l t
  | [], _, _, _ => trivial
  | x :: r, t, ⟨⟨x1, x2, x3, x4⟩, hr⟩, h => ⟨⟨x1, x2, x3, h x List.mem_cons_self⟩, gap_bound hr fun p hp => h p (List.mem_cons_of_mem _ hp)⟩
theorem gap_mono {n W W2 : Int} (h : W ≤ W2) : ∀ {l : List Piece} {t : Int}, Gap n W l t → Gap n W2 l t
  | [], _, _ => trivial
  | x :: r, t, ⟨⟨x1, x2, x3, x4⟩, hr⟩ => ⟨⟨x1, x2, x3, by omega⟩, gap_mono h hr⟩
theorem gap_shift {n W k : Int} (hW : W ≤ 300) (hk : 0 ≤ k) (hk2 : k ≤ 300) : ∀ {l : List Piece} {t : Int}, -1 ≤ t → Gap n W l t → Gap (seqAdd n k) (W - k) l (t - k)
  | [], _, _, _ => trivial
  | x :: r, t, ht, ⟨⟨x1, x2, x3, x4⟩, hr⟩ => by
    have e := off_next (n := n) (x := x.seq) (k := k) (by omega) (by omega) hk (by omega)
    have i := gap_shift hW hk hk2 (by omega) hr
    refine ⟨⟨by omega, x2, x3, by omega⟩, ?_⟩
    rw [e]
    have : seqDiff x.seq n - k + x.data.length = seqDiff x.seq n + x.data.length - k := by omega
    rw [this]; exact i
/-- How far pieces may lie. -/
def recvB (q : Recv) : Int := if q.known then seqDiff q.fin q.next else 256 - q.data.length
/-- An open queue that is right, but for an end that may be come to. -/
structure RMid (q : Recv) : Prop where
  len : q.data.length ≤ 256
  num : q.ahead.length ≤ 8
  un : U32 q.next
  uf : U32 q.fin
  od : q.done = false
  kf : q.known = false → q.fin = 0
  kt : q.known = true → 0 ≤ seqDiff q.fin q.next ∧ seqDiff q.fin q.next ≤ 256 - q.data.length
  gap : Gap q.next (recvB q) q.ahead 0
def RDone (q : Recv) : Prop := q.data.length ≤ 256 ∧ U32 q.next ∧ U32 q.fin ∧ q.done = true ∧ q.known = true ∧ q.ahead = [] ∧ q.next = seqAdd q.fin 1
/-- A queue that is right. -/
def RecvOk (q : Recv) : Prop := RDone q ∨ (RMid q ∧ (q.known = true → seqDiff q.fin q.next ≠ 0))
theorem RMid.bnd {q : Recv} (h : RMid q) : 0 ≤ recvB q ∧ recvB q ≤ 256 - q.data.length := by
  have := h.len
  unfold recvB
  split
  · rename_i hk; exact h.kt hk
  · omega
theorem RMid.sm {q : Recv} (h : RMid q) : q.sm := by
  have h1 := h.len
  have h2 := h.num
  refine ⟨by omega, by omega, fun p hp => ?_⟩
  obtain ⟨g1, g2, -⟩ := gap_mem (by omega) h.gap p hp
  have := h.bnd
  omega
theorem RecvOk.sm {q : Recv} (h : RecvOk q) : q.sm := by
  rcases h with h | ⟨h, -⟩
  · obtain ⟨h1, h2, h3, h4, h5, h6, h7⟩ := h
    exact ⟨by omega, by simp [h6], by simp [h6]⟩
  · exact h.sm
theorem window_eq {q : Recv} (h : q.data.length ≤ 256) : recvWindow q = 256 - q.data.length := by
  unfold recvWindow; exact wi_of (by omega) (by omega)
theorem recvAt_gap {q : Recv} (hl : q.data.length ≤ 256) {W : Int} (hW : W ≤ 256 - q.data.length) : ∀ (l : List Piece) (t : Int), 0 ≤ t → t ≤ W → Gap q.next W l t → ∃ t2, recvAt q l t = some t2 ∧ t2 ≤ W
  | [], t, _, h, _ => ⟨t, rfl, h⟩
  | p :: r, t, h0, h1, ⟨⟨p1, p2, p3, p4⟩, hr⟩ => by
    have e : IntKind.i64.wrap (seqDiff p.seq q.next + p.data.length) = seqDiff p.seq q.next + p.data.length := wi_of (by omega) (by omega)
    obtain ⟨t2, i1, i2⟩ := recvAt_gap hl hW r (seqDiff p.seq q.next + p.data.length) (by omega) p4 hr
    refine ⟨t2, ?_, i2⟩
    simp only [recvAt, e, window_eq hl]
    rw [if_neg (by omega)]
    exact i1
theorem recvRight_of {q : Recv} (h : RecvOk q) : recvRight q = true := by
  rcases h with h | ⟨h, hne⟩
  · obtain ⟨h1, h2, h3, h4, h5, h6, h7⟩ := h
    unfold recvRight
    rw [if_neg (by simp [h5, h6, ← h7]; omega)]
    simp [h6, recvAt, h4]
  · have h1 := h.len
    have h2 := h.num
    obtain ⟨b1, b2⟩ := h.bnd
    obtain ⟨t2, i1, i2⟩ := recvAt_gap h.len b2 q.ahead 0 (by omega) b1 h.gap
    have h3 := h.kf
    have h4 := h.od
    have h5 := h.kt
    unfold recvRight
    rw [if_neg (by rw [h4]; simp; refine ⟨by omega, by omega, ?_⟩; intro a; exact h3 a)]
    rw [i1]
    simp only [window_eq h.len]
    cases hk : q.known with
    | false => rfl
    | true =>
      obtain ⟨k1, k2⟩ := h5 hk
      have k3 := hne hk
      unfold recvB at i2
      rw [hk] at i2
      simp only [if_true] at i2
      simp only [Bool.not_true, Bool.false_or, Bool.and_eq_true, decide_eq_true_eq, h4]
      omega
theorem aMark_mid {q : Recv} (a : Int) (d : List Int) (e : Bool) (hd : d.length ≤ 4096) (h : RMid q) : RMid (aMark q a d e) ∧ (aMark q a d e).next = q.next ∧ (aMark q a d e).data = q.data ∧ (aMark q a d e).ahead = q.ahead := by
  unfold aMark
  split
  · rename_i hc
    obtain ⟨c1, c2, c3, c4, c5⟩ := hc
    rw [window_eq h.len] at c4
    refine ⟨⟨h.len, h.num, h.un, seqAdd_u _ _, h.od, by simp, fun _ => ⟨c3, c4⟩, ?_⟩, rfl, rfl, rfl⟩
    show Gap q.next (recvB _) q.ahead 0
    unfold recvB
    simp only [if_true]
    refine gap_bound h.gap fun p hp => ?_
    obtain ⟨g1, g2, g3, g4⟩ := gap_mem (by omega) h.gap p hp
    have hb := h.bnd
    have hl := h.len
    unfold recvBeyond at c5
    rw [List.any_eq_false] at c5
    have c6 := c5 p hp
    simp only [decide_eq_true_eq] at c6
    have e1 := off_sub (n := q.next) (x := p.seq) (p := seqAdd a d.length) (k := p.data.length) g1 (by omega) (by omega) c3 (by omega)
    omega
  · exact ⟨h, rfl, rfl, rfl⟩
theorem aTo_eq {q : Recv} (a : Int) (d : List Int) (e : Bool) (hd : d.length ≤ 4096) (h : RMid q) :
    aTo q a d e ≤ seqDiff a q.next + d.length ∧ aTo q a d e ≤ recvB (aMark q a d e) := by
  obtain ⟨m1, m2, m3, m4⟩ := aMark_mid a d e hd h
  have r := off_range a q.next
  have e1 : IntKind.i64.wrap (seqDiff a q.next + d.length) = seqDiff a q.next + d.length := wi_of (by omega) (by omega)
  unfold aTo recvB
  rw [e1, window_eq h.len, m2, m3]
  split
  · rename_i hk
    have := m1.kt hk
    rw [m2, m3] at this
    constructor <;> unfold minI <;> (repeat' split) <;> omega
  · constructor <;> unfold minI <;> split <;> omega
theorem piece_good {q : Recv} (a : Int) (d : List Int) (e : Bool) (hd : d.length ≤ 4096) (h : RMid q) (hlt : accFrom q a < aTo q a d e) :
    0 ≤ accSkip q a ∧ accSkip q a ≤ aHi q a d e ∧ aHi q a d e ≤ d.length ∧ PGood q.next (recvB (aMark q a d e)) (aPiece q a d e) (-1) := by
  obtain ⟨t1, t2⟩ := aTo_eq a d e hd h
  obtain ⟨m1, m2, m3, m4⟩ := aMark_mid a d e hd h
  have b := m1.bnd
  have r := off_range a q.next
  have f1 : 0 ≤ accFrom q a ∧ seqDiff a q.next ≤ accFrom q a := by unfold accFrom maxI; constructor <;> split <;> omega
  have e1 : accSkip q a = accFrom q a - seqDiff a q.next := by unfold accSkip; exact wi_of (by omega) (by omega)
  have e2 : aHi q a d e = aTo q a d e - seqDiff a q.next := by
    unfold aHi
    rw [e1, wi_of (n := accFrom q a - seqDiff a q.next + aTo q a d e) (by omega) (by omega), wi_of (by omega) (by omega)]
    omega
  refine ⟨by omega, by omega, by omega, ?_⟩
  have hl : (aPiece q a d e).data.length = (aHi q a d e).toNat - (accSkip q a).toNat := by
    unfold aPiece; simp only [List.length_drop, List.length_take]; omega
  have hs : seqDiff (aPiece q a d e).seq q.next = accFrom q a := off_new _ _ f1.1 (by omega)
  refine ⟨by omega, seqAdd_u _ _, by omega, by omega⟩
theorem lay_pre {q : Recv} {p : Piece} (h : RMid q) (hp : PGood q.next (recvB q) p (-1)) : layPre q p := by
  have b := h.bnd
  obtain ⟨g1, g2, g3⟩ := layGo_gap (by omega) q.ahead p 0 (-1) (by omega) (by omega) h.gap hp
  refine ⟨h.sm, g2, ?_⟩
  rw [layAll_go]
  intro y hy
  obtain ⟨y1, y2, -⟩ := gap_mem (by omega) g1 y hy
  omega
theorem aOk_of {q : Recv} (a : Int) (d : List Int) (e : Bool) (hd : d.length ≤ 4096) (h : RecvOk q) : aOk q a d e := by
  refine ⟨h.sm, hd, fun h0 hlt => ?_⟩
  rcases h with h | ⟨h, -⟩
  · rw [h.2.2.2.1] at h0; cases h0
  · obtain ⟨p1, p2, p3, p4⟩ := piece_good a d e hd h hlt
    obtain ⟨m1, m2, m3, m4⟩ := aMark_mid a d e hd h
    exact ⟨p1, p2, p3, lay_pre m1 (by rw [m2]; exact p4)⟩
theorem lay_mid {q : Recv} {p : Piece} (h : RMid q) (hp : PGood q.next (recvB q) p (-1)) : RMid (lay q p) := by
  have b := h.bnd
  obtain ⟨g1, g2, g3⟩ := layGo_gap (by omega) q.ahead p 0 (-1) (by omega) (by omega) h.gap hp
  have hn := h.num
  unfold lay
  rw [layAll_go]
  unfold layEnd
  split
  · exact h
  · rename_i y r e
    rw [e] at g1 g3
    obtain ⟨⟨y1, y2, y3, y4⟩, hr⟩ := g1
    simp only [List.length_cons] at g3
    split
    · rename_i hy
      rw [hy, off_self] at y4 hr
      have hsh := gap_shift (k := y.data.length) (by omega) (by omega) (by omega) (by omega) hr
      have hl := h.len
      have hb : recvB { q with data := q.data ++ y.data, next := seqAdd q.next y.data.length } = recvB q - y.data.length := by
        unfold recvB
        simp only
        split
        · rename_i hk
          obtain ⟨k1, k2⟩ := h.kt hk
          exact off_next k1 (by omega) (by omega) (by omega)
        · simp only [List.length_append]; omega
      unfold layPut
      rw [if_pos (by omega)]
      refine ⟨by simp only [List.length_append]; omega, by simp only; omega, seqAdd_u _ _, h.uf, h.od, h.kf, fun hk => ?_, ?_⟩
      · obtain ⟨k1, k2⟩ := h.kt hk
        have hk' : q.known = true := hk
        have e3 := off_next (n := q.next) (x := q.fin) (k := y.data.length) k1 (by omega) (by omega) (by omega)
        have : recvB q = seqDiff q.fin q.next := by unfold recvB; rw [if_pos hk']
        simp only [List.length_append]
        omega
      · show Gap _ (recvB { q with data := q.data ++ y.data, next := seqAdd q.next y.data.length }) r 0
        rw [hb]
        have e4 : (0:Int) + y.data.length - y.data.length = 0 := by omega
        rw [e4] at hsh
        exact hsh
    · rename_i hy
      have hz : seqDiff y.seq q.next ≠ 0 := fun hz => hy (off_zero h.un y2 hz)
      unfold layPut
      split
      · rename_i h8
        refine ⟨h.len, by simp only; simp only [List.length_cons] at h8; simp only [List.length_cons]; omega, h.un, h.uf, h.od, h.kf, h.kt, ?_⟩
        have hy0 : 0 < seqDiff y.seq q.next := by omega
        exact ⟨⟨hy0, y2, y3, y4⟩, hr⟩
      · exact h
theorem acc_ok {q : Recv} (a : Int) (d : List Int) (e : Bool) (hd : d.length ≤ 4096) (h : RecvOk q) : RecvOk (recvAcc q a d e) := by
  unfold recvAcc
  split
  · exact h
  · rename_i h0
    rcases h with h | ⟨h, -⟩
    · exact absurd h.2.2.2.1 h0
    obtain ⟨m1, m2, m3, m4⟩ := aMark_mid a d e hd h
    have hm : RMid (aLay q a d e) := by
      unfold aLay
      split
      · rename_i hlt
        obtain ⟨p1, p2, p3, p4⟩ := piece_good a d e hd h hlt
        exact lay_mid m1 (by rw [m2]; exact p4)
      · exact m1
    generalize aLay q a d e = z at hm
    unfold aDone
    split
    · rename_i hc
      obtain ⟨c1, c2⟩ := hc
      refine .inl ⟨hm.len, seqAdd_u _ _, hm.uf, rfl, c1, ?_, ?_⟩
      · have hg := hm.gap
        have hb : recvB z = 0 := by unfold recvB; rw [if_pos c1, c2, off_self]
        rw [hb] at hg
        cases hz : z.ahead with
        | nil => rfl
        | cons p r =>
          rw [hz] at hg
          obtain ⟨⟨p1, p2, p3, p4⟩, -⟩ := hg
          omega
      · simp only; rw [← c2]
    · rename_i hc
      exact .inr ⟨hm, fun hk hz => hc ⟨hk, off_zero hm.un hm.uf hz⟩⟩
theorem read_ok {q : Recv} (n : Int) (h : RecvOk q) : RecvOk (recvRead q n).1 := by
  unfold recvRead
  rcases h with h | ⟨h, hne⟩
  · obtain ⟨h1, h2, h3, h4, h5, h6, h7⟩ := h
    exact .inl ⟨by simp only [List.length_drop]; omega, h2, h3, h4, h5, h6, h7⟩
  · refine .inr ⟨⟨?_, h.num, h.un, h.uf, h.od, h.kf, fun hk => ?_, ?_⟩, hne⟩
    · have := h.len
      simp only [List.length_drop]; omega
    · obtain ⟨k1, k2⟩ := h.kt hk
      refine ⟨k1, ?_⟩
      simp only [List.length_drop]; omega
    · refine gap_mono ?_ h.gap
      unfold recvB
      simp only [List.length_drop]
      split <;> omega
theorem new_ok (n : Int) (h : U32 n) : RecvOk (recvNew n) := by
  refine .inr ⟨⟨by simp [recvNew], by simp [recvNew], h, by simp [recvNew, U32], rfl, fun _ => rfl, by simp [recvNew], trivial⟩, by simp [recvNew]⟩
theorem recv0_ok : RecvOk ⟨0, [], [], false, 0, false⟩ := new_ok 0 (by simp [U32])
end Caw

/-! Layer tcb: what is right stays right. -/
set_option linter.unusedVariables false
namespace Caw
open Go

/-! ### sendq -/
/-- A queue that is right. -/
structure SendOk (q : Send) : Prop where
  len : q.data.length ≤ 256
  s0 : 0 ≤ q.sent
  s1 : q.sent ≤ q.data.length
  fs : q.finSent = true → q.fin = true ∧ q.sent = q.data.length
  fa : q.finAcked = true → q.finSent = true ∧ q.data.length = 0
theorem SendOk.sm {q : Send} (h : SendOk q) : q.sm := ⟨h.s0, h.s1, by have := h.len; omega⟩
theorem sendRight_of {q : Send} (h : SendOk q) : sendRight q = true := by
  obtain ⟨h1, h2, h3, h4, h5⟩ := h
  unfold sendRight
  simp only [Bool.and_eq_true, Bool.or_eq_true, Bool.not_eq_true', decide_eq_true_eq]
  refine ⟨⟨⟨⟨by omega, h2⟩, h3⟩, ?_⟩, ?_⟩
  · cases hf : q.finSent with
    | false => exact .inl rfl
    | true => exact .inr (h4 hf)
  · cases hf : q.finAcked with
    | false => exact .inl rfl
    | true => exact .inr (h5 hf)
theorem sendNew_ok (u : Int) : SendOk (sendNew u) := ⟨by simp [sendNew], by simp [sendNew], by simp [sendNew], by simp [sendNew], by simp [sendNew]⟩
theorem next_ok {q : Send} (w m : Int) (h : SendOk q) : SendOk (sendNext q w m).1 ∧ (sendNext q w m).1.finAcked = q.finAcked ∧ (sendNext q w m).1.una = q.una := by
  obtain ⟨a, b, c⟩ := nextN_le q w m h.sm
  unfold sendNext
  split
  · refine ⟨⟨h.len, by simp only; rw [c]; have := h.s0; omega, by simp only; rw [c]; exact b, fun hf => ?_, fun hf => ?_⟩, rfl, rfl⟩
    · simp only [Bool.or_eq_true] at hf
      rcases hf with hf | hf
      · obtain ⟨f1, f2⟩ := h.fs hf
        refine ⟨f1, ?_⟩
        simp only; rw [c]; omega
      · unfold nextF at hf
        simp only [Bool.and_eq_true, decide_eq_true_eq] at hf
        exact ⟨hf.1.1, hf.2⟩
    · obtain ⟨f1, f2⟩ := h.fa hf
      exact ⟨by simp only; rw [f1]; rfl, f2⟩
  · exact ⟨h, rfl, rfl⟩
theorem ack_ok {q : Send} (a : Int) (h : SendOk q) : SendOk (sendAck q a).1 := by
  rcases ack_facts q a h.sm with h2 | ⟨h2, h3, h4⟩
  · unfold sendAck; rw [if_pos h2]; exact h
  · unfold sendAck
    rw [if_neg h2]
    split
    · exact h
    · rename_i hfl
      obtain ⟨g1, g2, g3, g4, g5⟩ := h
      have h8 : minI (seqDiff a q.una) q.sent ≤ q.sent := by unfold minI; split <;> omega
      have h9 : IntKind.i64.wrap (q.sent - minI (seqDiff a q.una) q.sent) = q.sent - minI (seqDiff a q.una) q.sent := wi_of (by omega) (by omega)
      refine ⟨by simp only [List.length_drop]; omega, by simp only [h9]; omega, by simp only [h9, List.length_drop]; omega, fun hf => ?_, fun hf => ?_⟩
      · obtain ⟨f1, f2⟩ := g4 hf
        exact ⟨f1, by simp only [h9, List.length_drop]; omega⟩
      · simp only [Bool.or_eq_true, decide_eq_true_eq] at hf
        rcases hf with hf | hf
        · obtain ⟨f1, f2⟩ := g5 hf
          exact ⟨f1, by simp only [List.length_drop]; omega⟩
        · have hmin : minI (seqDiff a q.una) q.sent = q.sent := by
            by_cases hq : q.sent < seqDiff a q.una
            · unfold minI; rw [if_pos hq]
            · exfalso; unfold minI at hf; rw [if_neg hq] at hf; omega
          have hw : IntKind.i64.wrap (q.sent + 1) = q.sent + 1 := wi_of (by omega) (by omega)
          unfold sendFlight at hfl
          rw [hw] at hfl
          rw [hmin] at hf
          have hfs : q.finSent = true := by
            cases hfs : q.finSent with
            | true => rfl
            | false => rw [hfs] at hfl; simp at hfl; omega
          obtain ⟨f1, f2⟩ := g4 hfs
          refine ⟨hfs, ?_⟩
          simp only [List.length_drop, hmin]; omega
theorem write_ok {q : Send} (d : List Int) (h : SendOk q) (hf : q.fin = false) : SendOk (sendWrite q d).1 := by
  have hr : sendRoom q = 256 - q.data.length := by
    unfold sendRoom; rw [if_neg (by simp [hf])]; exact wi_of (by have := h.len; omega) (by omega)
  have hl : (sendWrite q d).1.data.length ≤ 256 ∧ q.data.length ≤ (sendWrite q d).1.data.length := by
    have hm : minI d.length (sendRoom q) ≤ 256 - q.data.length := by unfold minI; split <;> omega
    have := h.len
    simp only [sendWrite, List.length_append, List.length_take]; omega
  have hs : q.finSent = false := by
    cases hs : q.finSent with
    | false => rfl
    | true => have := (h.fs hs).1; rw [hf] at this; cases this
  refine ⟨hl.1, h.s0, ?_, fun h2 => ?_, fun h2 => ?_⟩
  · have := h.s1
    show q.sent ≤ _
    omega
  · have h3 : q.finSent = true := h2
    rw [hs] at h3; cases h3
  · have h3 : q.finAcked = true := h2
    have := (h.fa h3).1
    rw [hs] at this; cases this
theorem close_ok {q : Send} (h : SendOk q) : SendOk (sendClose q) :=
  ⟨h.len, h.s0, h.s1, fun hf => ⟨rfl, (h.fs hf).2⟩, h.fa⟩
theorem pushM_ok {q : Send} (h : SendOk q) : pushM q ≤ 257 := by
  obtain ⟨h1, h2, h3, -, -⟩ := h
  unfold pushM
  split <;> omega
/-! ### rto -/
def ClkOk (c : Clock) : Prop := 4 ≤ c.wait ∧ c.wait ≤ 240 ∧ (c.smooth = -1 ∧ c.spread = -1 ∨ (0 ≤ c.smooth ∧ c.smooth ≤ 1927 ∧ 0 ≤ c.spread ∧ c.spread ≤ 963))
theorem rtoRight_of {c : Clock} (h : ClkOk c) : rtoRight c = true := by
  obtain ⟨h1, h2, h3⟩ := h
  unfold rtoRight
  rw [if_neg (by omega)]
  simp only [Bool.or_eq_true, Bool.and_eq_true, decide_eq_true_eq]
  omega
theorem bound_ok (n : Int) : 4 ≤ rtoBound n ∧ rtoBound n ≤ 240 := by
  unfold rtoBound maxI minI
  constructor <;> (repeat' split) <;> omega
theorem double_ok {c : Clock} (h : ClkOk c) : ClkOk (rtoDouble c) := ⟨(bound_ok _).1, (bound_ok _).2, h.2.2⟩
theorem measure_ok {c : Clock} (t : Int) (ht : 0 ≤ t) (h : ClkOk c) : ClkOk (rtoMeasure c t) := by
  obtain ⟨h1, h2, h3⟩ := h
  have hm : 0 ≤ minI t 240 ∧ minI t 240 ≤ 240 := by unfold minI; constructor <;> split <;> omega
  unfold rtoMeasure
  simp only
  rw [wi_of (n := minI t 240) (by omega) (by omega)]
  generalize minI t 240 = r at hm
  obtain ⟨r1, r2⟩ := hm
  refine ⟨(bound_ok _).1, (bound_ok _).2, .inr ?_⟩
  simp only
  split
  · simp only
    rw [wi_of (n := 8 * r) (by omega) (by omega), wi_of (n := 2 * r) (by omega) (by omega)]
    omega
  · rename_i hc
    have h4 : 0 ≤ c.smooth ∧ c.smooth ≤ 1927 ∧ 0 ≤ c.spread ∧ c.spread ≤ 963 := by omega
    obtain ⟨k1, k2, k3, k4⟩ := h4
    simp only
    rw [Int.tdiv_eq_ediv_of_nonneg k1, Int.tdiv_eq_ediv_of_nonneg k3]
    have e1 : IntKind.i64.wrap (c.smooth / 8) = c.smooth / 8 := wi_of (by omega) (by omega)
    have e2 : IntKind.i64.wrap (c.spread / 4) = c.spread / 4 := wi_of (by omega) (by omega)
    rw [e1, e2]
    have e3 : IntKind.i64.wrap (c.smooth / 8 - r) = c.smooth / 8 - r := wi_of (by omega) (by omega)
    have e4 : IntKind.i64.wrap (r - c.smooth / 8) = r - c.smooth / 8 := wi_of (by omega) (by omega)
    rw [e3, e4]
    have e5 : IntKind.i64.wrap (0 - (c.smooth / 8 - r)) = 0 - (c.smooth / 8 - r) := wi_of (by omega) (by omega)
    rw [e5]
    have e6 : 0 ≤ maxI (c.smooth / 8 - r) (0 - (c.smooth / 8 - r)) ∧ maxI (c.smooth / 8 - r) (0 - (c.smooth / 8 - r)) ≤ 240 := by unfold maxI; constructor <;> split <;> omega
    generalize maxI (c.smooth / 8 - r) (0 - (c.smooth / 8 - r)) = m at e6
    obtain ⟨e7, e8⟩ := e6
    have e9 : IntKind.i64.wrap (m - c.spread / 4) = m - c.spread / 4 := wi_of (by omega) (by omega)
    rw [e9, wi_of (n := c.smooth + (r - c.smooth / 8)) (by omega) (by omega), wi_of (n := c.spread + (m - c.spread / 4)) (by omega) (by omega)]
    omega
/-! ### tcb -/
/-- The phases. -/
def Fine (c : Conn) : Prop :=
  (c.phase = 0 ∧ c.due = 0 ∧ c.timing = false) ∨
  ((c.phase = 1 ∨ c.phase = 2) ∧ c.send.una = seqAdd c.first 1 ∧ c.send.sent = 0 ∧ c.send.finSent = false ∧ c.due ≠ 0 ∧ c.err = 0) ∨
  (c.phase = 3 ∧ ¬ (c.recv.done = true ∧ c.send.finAcked = true) ∧ c.err = 0) ∨
  (c.phase = 4 ∧ c.recv.done = true ∧ c.send.finAcked = true ∧ c.ended = true ∧ c.due = 0 ∧ c.timing = false ∧ c.err = 0)
structure Base0 (c : Conn) : Prop where
  send : SendOk c.send
  recv : RecvOk c.recv
  clk : ClkOk c.clock
  win : 0 ≤ c.window ∧ c.window ≤ 65535
  mss : 1 ≤ c.mss ∧ c.mss ≤ 64
  tries : 0 ≤ c.tries ∧ c.tries ≤ 8
/-- An end that is right. -/
structure ConnOk (c : Conn) : Prop extends Base0 c where
  fine : Fine c
theorem connRight_of {c : Conn} (h : ConnOk c) : connRight c = true := by
  obtain ⟨⟨h1, h2, h3, h4, h5, h6⟩, h7⟩ := h
  have hodd : ¬ connOdd c := by
    unfold connOdd
    rw [sendRight_of h1, recvRight_of h2, rtoRight_of h3]
    simp only [Bool.true_eq_false, false_or]
    rcases h7 with h | h | h | h <;> omega
  unfold connRight
  rw [if_neg hodd]
  unfold connFine
  rcases h7 with ⟨p, d, t⟩ | ⟨p, a, b, c', d, e⟩ | ⟨p, a, b⟩ | ⟨p, a, b, c', d, e, f⟩
  · rw [if_neg (by omega), if_neg (by omega), if_neg (by omega)]; simp [d, t]
  · rw [if_pos p]; simp [a, b, c', d, e]
  · rw [if_neg (by omega), if_pos p]
    cases hd : c.recv.done <;> cases ha : c.send.finAcked <;> simp_all
  · rw [if_neg (by omega), if_neg (by omega), if_pos p]; simp_all
theorem ConnOk.sm {c : Conn} (h : ConnOk c) : c.sm := ⟨h.send.sm, h.recv.sm⟩
theorem hearPre_of {c : Conn} (s : Seg) (hd : s.data.length ≤ 4096) (h : ConnOk c) : hearPre c s :=
  ⟨h.sm, aOk_of _ _ _ hd h.recv, aOk_of _ _ _ (by simp) h.recv⟩
/-- A segment that is sent. -/
def SegSm (x : Seg) : Prop := x.data.length ≤ 256 ∧ (0 ≤ x.wnd ∧ x.wnd ≤ 65535) ∧ (0 ≤ x.mss ∧ x.mss ≤ 65535)
/-- Segments that are sent: few, and short. -/
def OutOk (n : Nat) (l : List Seg) : Prop := l.length ≤ n ∧ ∀ x ∈ l, SegSm x
theorem out_nil (n : Nat) : OutOk n [] := ⟨by simp, by simp⟩
theorem out_snoc {n : Nat} {l : List Seg} {x : Seg} (h : OutOk n l) (hx : SegSm x) : OutOk (n + 1) (l ++ [x]) := by
  refine ⟨by simp; exact h.1, fun y hy => ?_⟩
  rcases List.mem_append.1 hy with hy | hy
  · exact h.2 y hy
  · rw [List.mem_singleton.1 hy]; exact hx
theorem out_le {n m : Nat} {l : List Seg} (h : OutOk n l) (hm : n ≤ m) : OutOk m l := ⟨by have := h.1; omega, h.2⟩
/-- An end under way: right, at a time of no great size, with n segments to send. -/
structure EpOk (n : Nat) (e : Ep) : Prop where
  c : ConnOk e.conn
  t0 : 0 ≤ e.now
  t1 : e.now ≤ 1000000000000
  out : OutOk n e.out
theorem EpOk.le {n m : Nat} {e : Ep} (h : EpOk n e) (hm : n ≤ m) : EpOk m e := ⟨h.c, h.t0, h.t1, out_le h.out hm⟩
theorem tell_ok {n : Nat} {e : Ep} (f : Int) (p : Piece) (hp : p.data.length ≤ 256) (h : EpOk n e) : EpOk (n + 1) (epTell e f p) :=
  ⟨h.c, h.t0, h.t1, out_snoc h.out ⟨hp, by simp only; rw [IntKind.wrap_u16]; omega, by simp only; split <;> omega⟩⟩
theorem epAck_ok {n : Nat} {e : Ep} (h : EpOk n e) : EpOk (n + 1) (epAck e) := tell_ok _ _ (by simp) h
theorem hello_ok {n : Nat} {e : Ep} (h : EpOk n e) : EpOk (n + 1) (epHello e) := tell_ok _ _ (by simp) h
theorem due_ne {now wait : Int} (h0 : 0 ≤ now) (h1 : now ≤ 1000000000000) (h2 : 4 ≤ wait) (h3 : wait ≤ 240) : IntKind.u64.wrap (now + IntKind.u64.wrap wait) ≠ 0 ∧ 0 ≤ IntKind.u64.wrap (now + IntKind.u64.wrap wait) ∧ IntKind.u64.wrap (now + IntKind.u64.wrap wait) = now + wait := by
  rw [IntKind.wrap_u64, IntKind.wrap_u64]; omega
/-- The same end, but for numbers that aren't looked at. -/
theorem arm_ok {n : Nat} {e : Ep} (hp : e.conn.phase ≠ 0 ∧ e.conn.phase ≠ 4) (h : EpOk n e) : EpOk n (epArm e) := by
  obtain ⟨⟨hb, hf⟩, t0, t1, ho⟩ := h
  refine ⟨⟨⟨hb.1, hb.2, hb.3, hb.4, hb.5, hb.6⟩, ?_⟩, t0, t1, ho⟩
  have hd := (due_ne t0 t1 hb.3.1 hb.3.2.1).1
  rcases hf with h | ⟨p, a, b, c, d, e⟩ | h | h
  · exact absurd h.1 hp.1
  · exact .inr (.inl ⟨p, a, b, c, hd, e⟩)
  · exact .inr (.inr (.inl h))
  · exact absurd h.1 hp.2
theorem shut_ok {n : Nat} {e : Ep} (y : Int) (h : EpOk n e) : EpOk n (epShut e y) := by
  obtain ⟨⟨hb, hf⟩, t0, t1, ho⟩ := h
  exact ⟨⟨⟨hb.1, hb.2, hb.3, hb.4, hb.5, hb.6⟩, .inl ⟨rfl, rfl, rfl⟩⟩, t0, t1, ho⟩
theorem broken_ok {n : Nat} {e : Ep} (h : EpOk n e) : EpOk n (epBroken e) := by
  unfold epBroken; split <;> exact shut_ok _ h
theorem phase3 {c : Conn} (hp : c.phase = 3) : Fine c ↔ (¬ (c.recv.done = true ∧ c.send.finAcked = true) ∧ c.err = 0) := by
  unfold Fine
  simp [hp]
theorem step_ok {n : Nat} {e : Ep} (hp : e.conn.phase = 3) (h : EpOk n e) : EpOk (n + 1) (pushStep e) := by
  obtain ⟨⟨hb, hf⟩, t0, t1, ho⟩ := h
  obtain ⟨n1, n2, n3⟩ := next_ok (pushW e) e.conn.mss hb.send
  have hf' := (phase3 hp).1 hf
  have h1 : EpOk (n + 1) (pushTold e) := by
    refine tell_ok _ _ ?_ ⟨⟨⟨n1, hb.2, hb.3, hb.4, hb.5, hb.6⟩, ?_⟩, t0, t1, ho⟩
    · unfold pushN sendNext
      have := hb.send.len
      split
      · simp only [List.length_drop, List.length_take]; omega
      · simp
    · refine (phase3 (by exact hp)).2 ?_
      show ¬(e.conn.recv.done = true ∧ (pushN e).1.finAcked = true) ∧ e.conn.err = 0
      unfold pushN
      rw [n2]
      exact hf'
  have p1 : (pushTold e).conn.phase = 3 := hp
  rw [pushStep_eq]
  have h2 : EpOk (n + 1) (pushTimed e) ∧ (pushTimed e).conn.phase = 3 := by
    unfold pushTimed
    split
    · obtain ⟨⟨hb, hf⟩, t0, t1, ho⟩ := h1
      exact ⟨⟨⟨⟨hb.1, hb.2, hb.3, hb.4, hb.5, hb.6⟩, (phase3 (by exact hp)).2 ((phase3 p1).1 hf)⟩, t0, t1, ho⟩, hp⟩
    · exact ⟨h1, p1⟩
  split
  · exact arm_ok (by omega) h2.1
  · exact h2.1
theorem step_phase (e : Ep) : (pushStep e).conn.phase = e.conn.phase := by
  rw [pushStep_eq]
  unfold pushTimed epArm
  split <;> split <;> rfl
theorem loop_ok : ∀ (k : Nat) {n : Nat} {e : Ep}, EpOk n e → EpOk (n + k) (pushLoop k e)
  | 0, n, e, h => h
  | k + 1, n, e, h => by
    simp only [pushLoop]
    split
    · rename_i hc
      have := loop_ok k (step_ok hc.1 h)
      exact this.le (by omega)
    · exact h.le (by omega)
theorem push_ok {n : Nat} {e : Ep} (h : EpOk n e) : EpOk (n + 257) (epPush e) := by
  have := loop_ok (pushM e.conn.send) h
  exact this.le (by have := pushM_ok h.c.send; omega)
theorem push_else {e : Ep} (h : e.conn.phase ≠ 3) : epPush e = e := pushLoop_stop (fun hc => h hc.1) _
theorem mini_le (a b : Int) : minI a b ≤ a := by unfold minI; split <;> omega
theorem clk_keeps {e : Ep} (a : Int) (h0 : ClkOk e.conn.clock) : ClkOk (epMeasure e a).conn.clock := by
  unfold epMeasure
  split
  · exact measure_ok _ (by rw [IntKind.wrap_u64]; omega) h0
  · exact h0
/-- A segment that may come. -/
structure SegOk (s : Seg) : Prop where
  w0 : 0 ≤ s.wnd ∧ s.wnd ≤ 65535
  m0 : 0 ≤ s.mss ∧ s.mss ≤ 65535
  d0 : s.data.length ≤ 4096
theorem meet_ok {n : Nat} {e : Ep} {s : Seg} (hp : e.conn.phase = 1 ∨ e.conn.phase = 2) (hs : SegOk s) (h : EpOk n e) : EpOk n (epMeet e s) := by
  obtain ⟨⟨hb, hf⟩, t0, t1, ho⟩ := h
  refine ⟨⟨⟨hb.1, new_ok _ (seqAdd_u _ _), hb.3, ?_, ?_, hb.6⟩, ?_⟩, t0, t1, ho⟩
  · show 0 ≤ IntKind.i64.wrap s.wnd ∧ IntKind.i64.wrap s.wnd ≤ 65535
    have := hs.w0
    rw [wi_of (by omega) (by omega)]; exact this
  · show 1 ≤ (if s.mss = 0 then e.conn.mss else maxI 1 (minI (IntKind.i64.wrap s.mss) 64)) ∧ (if s.mss = 0 then e.conn.mss else maxI 1 (minI (IntKind.i64.wrap s.mss) 64)) ≤ 64
    have := hb.mss
    unfold maxI minI
    constructor <;> (repeat' split) <;> omega
  · rcases hf with h | ⟨p, a, b, c, d, e⟩ | h | h
    · have := h.1; omega
    · exact .inr (.inl ⟨p, a, b, c, d, e⟩)
    · have := h.1; omega
    · have := h.1; omega
theorem opened_ok {n : Nat} {e : Ep} {s : Seg} (hp : e.conn.phase = 1 ∨ e.conn.phase = 2) (h : EpOk n e) : EpOk n (epOpened e s) ∧ (epOpened e s).conn.phase = 3 := by
  obtain ⟨⟨hb, hf⟩, t0, t1, ho⟩ := h
  unfold epOpened
  have hk := epMeasure_keeps { e with conn := { e.conn with phase := 3, tries := 0, due := 0 } } s.ack
  have hc := clk_keeps (e := { e with conn := { e.conn with phase := 3, tries := 0, due := 0 } }) s.ack hb.clk
  generalize epMeasure { e with conn := { e.conn with phase := 3, tries := 0, due := 0 } } s.ack = z at hk hc
  obtain ⟨k1, k2, k3, k4, k5, k6, k7, k8, k9, k10, k11, k12, k13, k14, k15⟩ := hk
  simp only at k1 k2 k3 k4 k5 k6 k7 k8 k9 k10 k11 k12
  refine ⟨⟨⟨⟨by rw [k1]; exact hb.1, by rw [k2]; exact hb.2, hc, by rw [k6]; exact hb.4, by rw [k7]; exact hb.5, by rw [k8]; omega⟩, ?_⟩, by rw [k12]; exact t0, by rw [k12]; exact t1, by rw [k3]; exact ho⟩, k4⟩
  refine (phase3 k4).2 ?_
  rw [k1, k2, k10]
  rcases hf with h | ⟨p, a, b, c, d, e⟩ | h | h
  · have := h.1; omega
  · refine ⟨fun hc => ?_, e⟩
    have := (hb.send.fa hc.2).1
    rw [c] at this; cases this
  · have := h.1; omega
  · have := h.1; omega
/-- What is between 'takes' and 'over'. -/
structure Mid (n : Nat) (e : Ep) : Prop where
  b : Base0 e.conn
  t0 : 0 ≤ e.now
  t1 : e.now ≤ 1000000000000
  out : OutOk n e.out
theorem tk9_ok {n : Nat} {e : Ep} {s : Seg} (hp : e.conn.phase = 3) (hs : SegOk s) (h : EpOk n e) : EpOk n (tk9 e s) := by
  obtain ⟨⟨hb, hf⟩, t0, t1, ho⟩ := h
  have hf' := (phase3 hp).1 hf
  have hack : SendOk (tkR e s).1 := ack_ok _ hb.send
  have hk := epMeasure_keeps (tk1 e s) s.ack
  have hc := clk_keeps (e := tk1 e s) s.ack hb.clk
  have m4 : Mid n (tk4 e s) ∧ (tk4 e s).conn.phase = 3 ∧ (tk4 e s).conn.err = 0 := by
    unfold tk4
    split
    · have hz : tkM e s = epMeasure (tk1 e s) s.ack := rfl
      rw [← hz] at hk hc
      unfold tk3 tk2 epArm
      generalize tkM e s = z at hk hc
      obtain ⟨k1, k2, k3, k4, k5, k6, k7, k8, k9, k10, k11, k12, k13, k14, k15⟩ := hk
      simp only [tk1] at k1 k2 k3 k4 k5 k6 k7 k8 k9 k10 k11 k12
      have b : Base0 { z.conn with tries := 0, due := 0 } := ⟨by simp only; rw [k1]; exact hack, by simp only; rw [k2]; exact hb.2, hc, by simp only; rw [k6]; exact hb.4, by simp only; rw [k7]; exact hb.5, by simp⟩
      split
      · exact ⟨⟨⟨b.1, b.2, b.3, b.4, b.5, b.6⟩, by simp only; rw [k12]; exact t0, by simp only; rw [k12]; exact t1, by simp only; rw [k3]; exact ho⟩, by simp only; rw [k4]; exact hp, by simp only; rw [k10]; exact hf'.2⟩
      · exact ⟨⟨b, by simp only; rw [k12]; exact t0, by simp only; rw [k12]; exact t1, by simp only; rw [k3]; exact ho⟩, by simp only; rw [k4]; exact hp, by simp only; rw [k10]; exact hf'.2⟩
    · exact ⟨⟨⟨hack, hb.2, hb.3, hb.4, hb.5, hb.6⟩, t0, t1, ho⟩, hp, hf'.2⟩
  have m7 : Mid n (tk7 e s) ∧ (tk7 e s).conn.phase = 3 ∧ (tk7 e s).conn.err = 0 := by
    obtain ⟨⟨b, t0, t1, ho⟩, p, y⟩ := m4
    have hw : 0 ≤ IntKind.i64.wrap s.wnd ∧ IntKind.i64.wrap s.wnd ≤ 65535 := by
      have := hs.w0
      rw [wi_of (by omega) (by omega)]; exact this
    unfold tk7
    split
    · unfold tk6
      split
      · exact ⟨⟨⟨b.1, b.2, b.3, hw, b.5, by simp⟩, t0, t1, ho⟩, p, y⟩
      · exact ⟨⟨⟨b.1, b.2, b.3, hw, b.5, b.6⟩, t0, t1, ho⟩, p, y⟩
    · exact ⟨⟨b, t0, t1, ho⟩, p, y⟩
  have m8 : Mid n (tk8 e s) ∧ (tk8 e s).conn.phase = 3 ∧ (tk8 e s).conn.err = 0 := by
    obtain ⟨⟨b, t0, t1, ho⟩, p, y⟩ := m7
    exact ⟨⟨⟨b.1, acc_ok _ _ _ hs.d0 b.2, b.3, b.4, b.5, b.6⟩, t0, t1, ho⟩, p, y⟩
  obtain ⟨⟨b, t0, t1, ho⟩, p, y⟩ := m8
  unfold tk9 epOver
  split
  · rename_i hc
    refine ⟨⟨b, (phase3 p).2 ⟨fun hd => ?_, y⟩⟩, t0, t1, ho⟩
    rcases hc with hc | hc | hc
    · exact hc p
    · rw [hd.1] at hc; cases hc
    · rw [hd.2] at hc; cases hc
  · rename_i hc
    have hd : (tk8 e s).conn.recv.done = true ∧ (tk8 e s).conn.send.finAcked = true := by
      cases h1 : (tk8 e s).conn.recv.done <;> cases h2 : (tk8 e s).conn.send.finAcked <;> simp_all
    split
    · rename_i he
      exact ⟨⟨⟨b.1, b.2, b.3, b.4, b.5, b.6⟩, .inr (.inr (.inr ⟨rfl, hd.1, hd.2, he, rfl, rfl, y⟩))⟩, t0, t1, ho⟩
    · exact ⟨⟨⟨b.1, b.2, b.3, b.4, b.5, b.6⟩, .inl ⟨rfl, rfl, rfl⟩⟩, t0, t1, ho⟩
theorem tk9_ok4 {n : Nat} {e : Ep} {s : Seg} (hp : e.conn.phase = 4) (hs : SegOk s) (h : EpOk n e) (hr : (tkR e s).2.2 = 0) : EpOk n (tk9 e s) := by
  obtain ⟨⟨hb, hf⟩, t0, t1, ho⟩ := h
  have hf' : e.conn.recv.done = true ∧ e.conn.send.finAcked = true ∧ e.conn.ended = true ∧ e.conn.due = 0 ∧ e.conn.timing = false ∧ e.conn.err = 0 := by
    rcases hf with h | h | h | h
    · have := h.1; omega
    · have := h.1; omega
    · have := h.1; omega
    · exact h.2
  obtain ⟨f1, f2, f3, f4, f5, f6⟩ := hf'
  obtain ⟨g1, g2⟩ := hb.send.fa f2
  have hsent : e.conn.send.sent = 0 := by have := hb.send.s0; have := hb.send.s1; omega
  have hfl : sendFlight e.conn.send = 0 := by unfold sendFlight; rw [f2]; simp [hsent]
  have hR : tkR e s = (e.conn.send, 0, 0) := by
    unfold tkR sendAck at hr ⊢
    rw [hfl] at hr ⊢
    by_cases h1 : seqDiff s.ack e.conn.send.una ≤ 0
    · rw [if_pos h1]
    · rw [if_neg h1, if_pos (by omega)] at hr; simp at hr
  have h1 : tk1 e s = e := by unfold tk1; rw [hR]
  have h4 : tk4 e s = e := by unfold tk4; rw [hR, h1]; simp
  have hw : 0 ≤ IntKind.i64.wrap s.wnd ∧ IntKind.i64.wrap s.wnd ≤ 65535 := by
    have := hs.w0
    rw [wi_of (by omega) (by omega)]; exact this
  have m7 : Mid n (tk7 e s) ∧ (tk7 e s).conn.phase = 4 ∧ (tk7 e s).conn.recv.done = true ∧ (tk7 e s).conn.send.finAcked = true ∧ (tk7 e s).conn.ended = true ∧ (tk7 e s).conn.due = 0 ∧ (tk7 e s).conn.timing = false ∧ (tk7 e s).conn.err = 0 := by
    unfold tk7 tk6 tk5
    rw [h4]
    (repeat' split)
    · exact ⟨⟨⟨hb.1, hb.2, hb.3, hw, hb.5, by simp⟩, t0, t1, ho⟩, hp, f1, f2, f3, f4, f5, f6⟩
    · exact ⟨⟨⟨hb.1, hb.2, hb.3, hw, hb.5, hb.6⟩, t0, t1, ho⟩, hp, f1, f2, f3, f4, f5, f6⟩
    · exact ⟨⟨hb, t0, t1, ho⟩, hp, f1, f2, f3, f4, f5, f6⟩
  obtain ⟨⟨b, t0, t1, ho⟩, p, f1, f2, f3, f4, f5, f6⟩ := m7
  have h8 : tk8 e s = tk7 e s := by
    unfold tk8 recvAcc
    rw [if_pos f1]
  unfold tk9 epOver
  rw [h8, if_pos (by omega)]
  exact ⟨⟨b, .inr (.inr (.inr ⟨p, f1, f2, f3, f4, f5, f6⟩))⟩, t0, t1, ho⟩
theorem takesC_ok {n : Nat} {e : Ep} {s : Seg} (h : EpOk n e) : EpOk (n + 258) (takesC e s) := by
  have := push_ok h
  unfold takesC
  split
  · exact epAck_ok this
  · exact this.le (by omega)
theorem refuse_len (s : Seg) : SegSm (refuse s) := by unfold refuse SegSm; split <;> simp
theorem takes_ok {n : Nat} {e : Ep} {s : Seg} (hp : e.conn.phase ≠ 0 ∧ e.conn.phase ≠ 1) (hs : SegOk s) (h : EpOk n e) : EpOk (n + 258) (takes e s) := by
  unfold takes
  split
  · exact ⟨h.c, h.t0, h.t1, out_le (out_snoc h.out (refuse_len s)) (by omega)⟩
  · have hph : e.conn.phase = 2 ∨ e.conn.phase = 3 ∨ e.conn.phase = 4 := by
      rcases h.c.fine with h | h | h | h
      · exact absurd h.1 hp.1
      · rcases h.1 with h | h
        · exact absurd h hp.2
        · exact .inl h
      · exact .inr (.inl h.1)
      · exact .inr (.inr h.1)
    unfold takesB
    have h0 : EpOk n (tk0 e s) ∧ ((tk0 e s).conn.phase = 3 ∨ (tk0 e s).conn.phase = 4) := by
      unfold tk0
      split
      · rename_i h2
        obtain ⟨a, b⟩ := opened_ok (s := s) (.inr h2) h
        exact ⟨a, .inl b⟩
      · rename_i h2
        exact ⟨h, by omega⟩
    split
    · rename_i hr
      rcases h0.2 with h3 | h4
      · exact takesC_ok (tk9_ok h3 hs h0.1)
      · exact takesC_ok (tk9_ok4 h4 hs h0.1 hr)
    · exact (epAck_ok h0.1).le (by omega)
theorem bare_ok {s : Seg} (h : SegOk s) : SegOk (bare s) := ⟨h.w0, h.m0, by simp [bare]⟩
theorem late_ok {n : Nat} {e : Ep} {s : Seg} (hp : e.conn.phase ≠ 0 ∧ e.conn.phase ≠ 1) (hs : SegOk s) (h : EpOk n e) : EpOk (n + 259) (late e s) := by
  have h1 : EpOk (n + 258) (lateB e s) := by
    unfold lateB
    split
    · exact takes_ok hp (bare_ok hs) h
    · exact h.le (by omega)
  unfold late
  split
  · exact epAck_ok h1
  · exact h1.le (by omega)
theorem dialling_ok {n : Nat} {e : Ep} {s : Seg} (hp : e.conn.phase = 1) (hs : SegOk s) (h : EpOk n e) : EpOk (n + 258) (epDialling e s) := by
  unfold epDialling
  split
  · split
    · exact (shut_ok _ h).le (by omega)
    · exact h.le (by omega)
  · split
    · exact ⟨h.c, h.t0, h.t1, out_le (out_snoc h.out (refuse_len s)) (by omega)⟩
    · split
      · obtain ⟨a, b⟩ := opened_ok (s := s) (by exact .inl hp) (meet_ok (.inl hp) hs h)
        exact (push_ok (epAck_ok a)).le (by omega)
      · split
        · have h2 : EpOk n { e with conn := { e.conn with phase := 2 } } := by
            obtain ⟨⟨hb, hf⟩, t0, t1, ho⟩ := h
            refine ⟨⟨⟨hb.1, hb.2, hb.3, hb.4, hb.5, hb.6⟩, ?_⟩, t0, t1, ho⟩
            rcases hf with h | ⟨p, a, b, c, d, e⟩ | h | h
            · have := h.1; omega
            · exact .inr (.inl ⟨.inr rfl, a, b, c, d, e⟩)
            · have := h.1; omega
            · have := h.1; omega
          exact (hello_ok (meet_ok (.inr rfl) hs h2)).le (by omega)
        · exact h.le (by omega)
theorem hear_ok {c : Conn} {s : Seg} {now : Int} (hs : SegOk s) (h0 : 0 ≤ now) (h1 : now ≤ 1000000000000) (h : ConnOk c) : EpOk 260 (hear c s now) := by
  have h : EpOk 0 ⟨c, now, []⟩ := ⟨h, h0, h1, out_nil 0⟩
  unfold hear
  split
  · exact h.le (by omega)
  · rename_i p0
    split
    · rename_i p1
      exact (dialling_ok p1 hs h).le (by omega)
    · rename_i p1
      (repeat' split)
      · exact (broken_ok h).le (by omega)
      · exact h.le (by omega)
      · exact (epAck_ok h).le (by omega)
      · exact (late_ok ⟨p0, p1⟩ hs h).le (by omega)
      · exact (takes_ok ⟨p0, p1⟩ hs h).le (by omega)
      · exact h.le (by omega)
theorem write_okc {c : Conn} {d : List Int} {now : Int} (h0 : 0 ≤ now) (h1 : now ≤ 1000000000000) (h : ConnOk c) : ConnOk (epWrite c d now).1 ∧ OutOk 260 (epWrite c d now).2.2.1 := by
  unfold epWrite
  split
  · exact ⟨h, out_nil _⟩
  · split
    · exact ⟨h, out_nil _⟩
    · split
      · exact ⟨h, out_nil _⟩
      · rename_i p1 p2 p3
        have hfin : c.send.fin = false := by
          cases hf : c.send.fin with
          | false => rfl
          | true => exact absurd (.inr (.inr hf)) p2
        have hw : EpOk 0 { epAt c now with conn := { c with send := (sendWrite c.send d).1 } } := by
          refine ⟨⟨⟨write_ok d h.send hfin, h.recv, h.clk, h.win, h.mss, h.tries⟩, ?_⟩, h0, h1, out_nil 0⟩
          exact h.fine
        have := push_ok hw
        exact ⟨this.c, out_le this.out (by omega)⟩
theorem read_okc {c : Conn} {n now : Int} (h0 : 0 ≤ now) (h1 : now ≤ 1000000000000) (h : ConnOk c) : ConnOk (epRead c n now).1 ∧ OutOk 1 (epRead c n now).2.2.1 := by
  unfold epRead
  split
  · exact ⟨h, out_nil _⟩
  · split
    · have hw : EpOk 0 { epAt c now with conn := { c with recv := (recvRead c.recv n).1 } } := by
        refine ⟨⟨⟨h.send, read_ok n h.recv, h.clk, h.win, h.mss, h.tries⟩, ?_⟩, h0, h1, out_nil 0⟩
        exact h.fine
      simp only
      split
      · have := epAck_ok hw
        exact ⟨this.c, this.out⟩
      · exact ⟨hw.c, out_le hw.out (by omega)⟩
    · split
      · exact ⟨h, out_nil _⟩
      · split
        · exact ⟨h, out_nil _⟩
        · split <;> exact ⟨h, out_nil _⟩
theorem close_okc {c : Conn} {now : Int} (h0 : 0 ≤ now) (h1 : now ≤ 1000000000000) (h : ConnOk c) : EpOk 260 (epClose c now) := by
  have hE : EpOk 0 (epAt c now) := ⟨h, h0, h1, out_nil 0⟩
  unfold epClose
  simp only
  split
  · exact (shut_ok _ hE).le (by omega)
  · split
    · rename_i hp
      have hw : EpOk 0 { epAt c now with conn := { (epAt c now).conn with send := sendClose c.send, ended := !c.recv.done } } := by
        refine ⟨⟨⟨close_ok h.send, h.recv, h.clk, h.win, h.mss, h.tries⟩, ?_⟩, h0, h1, out_nil 0⟩
        rcases h.fine with h | h | h | h
        · have := h.1; omega
        · exact .inr (.inl h)
        · exact .inr (.inr (.inl h))
        · have := h.1; omega
      exact (push_ok hw).le (by omega)
    · exact hE.le (by omega)
theorem abort_okc {c : Conn} {why : Int} (h : ConnOk c) : EpOk 1 (epAbort c why) := by
  have hE : EpOk 0 (epAt c 0) := ⟨h, by simp [epAt], by simp [epAt], out_nil 0⟩
  unfold epAbort
  simp only
  have h2 : EpOk 1 (if c.phase = 2 ∨ c.phase = 3 then { epAt c 0 with out := [⟨c.self.port, c.peer.port, seqAdd c.send.una (sendFlight c.send), c.recv.next, 20, 0, 0, []⟩] } else epAt c 0) := by
    split
    · exact ⟨h, by simp [epAt], by simp [epAt], ⟨by simp, by simp [SegSm]⟩⟩
    · exact hE.le (by omega)
  split
  · exact shut_ok _ h2
  · exact h2
theorem tick_okc {c : Conn} {now : Int} (h0 : 0 ≤ now) (h1 : now ≤ 1000000000000) (h : ConnOk c) : EpOk 1 (epTick c now) := by
  have hE : EpOk 0 (epAt c now) := ⟨h, h0, h1, out_nil 0⟩
  unfold epTick
  simp only
  split
  · exact (shut_ok _ hE).le (by omega)
  · split
    · exact hE.le (by omega)
    · rename_i p1 p2
      split
      · exact (shut_ok _ hE).le (by omega)
      · rename_i p3
        have hph : c.phase ≠ 0 ∧ c.phase ≠ 4 := by
          rcases h.fine with h | h | h | h
          · exact absurd (.inl h.2.1) p2
          · have := h.1; omega
          · have := h.1; omega
          · exact absurd (.inl h.2.2.2.2.1) p2
        have ht := h.tries
        have hw : EpOk 0 { epAt c now with conn := { (epAt c now).conn with tries := IntKind.i64.wrap (c.tries + 1), clock := rtoDouble c.clock, timing := false } } := by
          refine ⟨⟨⟨h.send, h.recv, double_ok h.clk, h.win, h.mss, ?_⟩, ?_⟩, h0, h1, out_nil 0⟩
          · show 0 ≤ IntKind.i64.wrap (c.tries + 1) ∧ IntKind.i64.wrap (c.tries + 1) ≤ 8
            rw [wi_of (by omega) (by omega)]; omega
          · rcases h.fine with h | h | h | h
            · exact absurd h.1 hph.1
            · exact .inr (.inl h)
            · exact .inr (.inr (.inl h))
            · exact absurd h.1 hph.2
        have ha := arm_ok (by exact hph) hw
        have hq : (epArm { epAt c now with conn := { (epAt c now).conn with tries := IntKind.i64.wrap (c.tries + 1), clock := rtoDouble c.clock, timing := false } }).conn.phase = c.phase := rfl
        generalize epArm { epAt c now with conn := { (epAt c now).conn with tries := IntKind.i64.wrap (c.tries + 1), clock := rtoDouble c.clock, timing := false } } = z at ha hq
        unfold epAgain
        split
        · exact hello_ok ha
        · rename_i hp3
          have hp3' : z.conn.phase = 3 := by
            by_cases h : z.conn.phase = 3
            · exact h
            · exact absurd h hp3
          split
          · refine tell_ok _ _ ?_ ha
            unfold sendAgain
            have := ha.c.send.len
            split
            · simp
            · simp only [List.length_take]; omega
          · obtain ⟨⟨hb, hf⟩, t0, t1, ho⟩ := ha
            exact ⟨⟨⟨hb.1, hb.2, hb.3, hb.4, hb.5, hb.6⟩, (phase3 (by exact hp3')).2 ((phase3 hp3').1 hf)⟩, t0, t1, out_le ho (by omega)⟩
theorem rtoNew_ok : ClkOk rtoNew := by unfold ClkOk rtoNew; simp
theorem begin_ok {phase first now : Int} {self peer : Addr} (hp : phase = 1 ∨ phase = 2) (h0 : 0 ≤ now) (h1 : now ≤ 1000000000000) : EpOk 0 (epBegin phase self peer first now) := by
  refine ⟨⟨⟨sendNew_ok _, recv0_ok, rtoNew_ok, by simp [epBegin, epArm], by simp [epBegin, epArm], by simp [epBegin, epArm]⟩, ?_⟩, h0, h1, out_nil 0⟩
  refine .inr (.inl ⟨hp, rfl, rfl, rfl, ?_, rfl⟩)
  exact (due_ne (wait := 10) h0 h1 (by omega) (by omega)).1
theorem dial_okc {first now : Int} {self peer : Addr} (h0 : 0 ≤ now) (h1 : now ≤ 1000000000000) : EpOk 1 (epDial self peer first now) := hello_ok (begin_ok (.inl rfl) h0 h1)
theorem answer_okc {first now : Int} {self peer : Addr} {s : Seg} (hs : SegOk s) (h0 : 0 ≤ now) (h1 : now ≤ 1000000000000) : EpOk 1 (epAnswer self peer s first now) :=
  hello_ok (meet_ok (.inr rfl) hs (begin_ok (.inr rfl) h0 h1))
end Caw

/-! Two ends: what is right stays right. -/
set_option linter.unusedVariables false
namespace Caw
open Go
theorem connZ_sm : connZ.recv.sm := recv0_sm
theorem segOk_of {x : Seg} (h : SegSm x) : SegOk x := ⟨h.2.1, h.2.2, by have := h.1; omega⟩
structure TalkOk (k : Nat) (t : Talk) : Prop where
  i0 : t.is0 = true
  c0 : ConnOk t.c0
  c1 : t.is1 = true → ConnOk t.c1
  z1 : t.is1 = false → t.c1 = connZ
  t0 : 0 ≤ t.now
  t1 : t.now ≤ 1000 * k
  w0 : ∀ x ∈ t.way0, SegOk x
  w1 : ∀ x ∈ t.way1, SegOk x
  l0 : t.way0.length ≤ 600 * k
  l1 : t.way1.length ≤ 600 * k
  sz : (t.written0.size ≤ 600 * k ∧ t.written1.size ≤ 600 * k) ∧ (t.read0.size ≤ 600 * k ∧ t.read1.size ≤ 600 * k)
theorem TalkOk.sm {k : Nat} {t : Talk} (h : TalkOk k t) : t.c0.recv.sm ∧ t.c1.recv.sm := by
  refine ⟨h.c0.recv.sm, ?_⟩
  cases hi : t.is1 with
  | true => exact (h.c1 hi).recv.sm
  | false => rw [h.z1 hi]; exact connZ_sm
theorem TalkOk.le {k m : Nat} {t : Talk} (h : TalkOk k t) (hm : k ≤ m) : TalkOk m t :=
  ⟨h.i0, h.c0, h.c1, h.z1, h.t0, by have := h.t1; omega, h.w0, h.w1, by have := h.l0; omega, by have := h.l1; omega, by have := h.sz; omega⟩
theorem sends0_eq (t : Talk) (l : List Seg) : sends 0 t l = { t with way1 := t.way1 ++ l, wrong := (sends 0 t l).wrong } := by
  unfold sends sendEnd
  rw [if_pos rfl, sendOne_keeps]
theorem sends1_eq (t : Talk) (l : List Seg) : sends 1 t l = { t with way0 := t.way0 ++ l, wrong := (sends 1 t l).wrong } := by
  unfold sends sendEnd
  rw [if_neg (by omega), sendOne_keeps]
theorem sends0_ok {k : Nat} {t : Talk} {l : List Seg} (hk : k ≤ 1000) (h : TalkOk k t) (ho : OutOk 300 l) : sendsPre 0 t l ∧ TalkOk (k + 1) (sends 0 t l) := by
  have l0 := h.l0
  have l1 := h.l1
  have l2 := ho.1
  have t1 := h.t1
  refine ⟨⟨.inl rfl, ⟨by omega, by omega, by omega⟩, h.sm, fun x hx => by have := (ho.2 x hx).1; omega⟩, ?_⟩
  rw [sends0_eq]
  refine ⟨h.i0, h.c0, h.c1, h.z1, h.t0, by simp only; omega, h.w0, fun x hx => ?_, by simp only; omega, by simp only [List.length_append]; omega, by have := h.sz; simp only; omega⟩
  rcases List.mem_append.1 hx with hx | hx
  · exact h.w1 x hx
  · exact segOk_of (ho.2 x hx)
theorem sends1_ok {k : Nat} {t : Talk} {l : List Seg} (hk : k ≤ 1000) (h : TalkOk k t) (ho : OutOk 300 l) : sendsPre 1 t l ∧ TalkOk (k + 1) (sends 1 t l) := by
  have l0 := h.l0
  have l1 := h.l1
  have l2 := ho.1
  have t1 := h.t1
  refine ⟨⟨.inr rfl, ⟨by omega, by omega, by omega⟩, h.sm, fun x hx => by have := (ho.2 x hx).1; omega⟩, ?_⟩
  rw [sends1_eq]
  refine ⟨h.i0, h.c0, h.c1, h.z1, h.t0, by simp only; omega, fun x hx => ?_, h.w1, by simp only [List.length_append]; omega, by simp only; omega, by have := h.sz; simp only; omega⟩
  rcases List.mem_append.1 hx with hx | hx
  · exact h.w0 x hx
  · exact segOk_of (ho.2 x hx)
/-- An end is put. -/
theorem TalkOk.put0 {k : Nat} {t : Talk} (h : TalkOk k t) {c : Conn} (hc : ConnOk c) : TalkOk k { t with c0 := c } :=
  ⟨h.i0, hc, h.c1, h.z1, h.t0, h.t1, h.w0, h.w1, h.l0, h.l1, h.sz⟩
theorem TalkOk.put1 {k : Nat} {t : Talk} (h : TalkOk k t) (hi : t.is1 = true) {c : Conn} (hc : ConnOk c) : TalkOk k { t with c1 := c } :=
  ⟨h.i0, h.c0, fun _ => hc, fun h2 => (by rw [hi] at h2; cases h2), h.t0, h.t1, h.w0, h.w1, h.l0, h.l1, h.sz⟩
theorem now_le {k : Nat} {t : Talk} (hk : k ≤ 1000) (h : TalkOk k t) : t.now ≤ 1000000000000 := by have := h.t1; omega
theorem begins_ok (f0 f1 : Int) : sendsPre 0 { talk0 f0 f1 with c0 := (epDial addrX addrY f0 0).conn, is0 := true } (epDial addrX addrY f0 0).out ∧ TalkOk 1 (begins f0 f1) := by
  have hd := dial_okc (first := f0) (now := 0) (self := addrX) (peer := addrY) (by omega) (by omega)
  exact sends0_ok (k := 0) (by omega) ⟨rfl, hd.c, fun h => (by cases h), fun _ => rfl, Int.le_refl 0, by simp [talk0], fun x hx => by simp [talk0] at hx, fun x hx => by simp [talk0] at hx, by simp [talk0], by simp [talk0], by simp [talk0, ByteArray.size]⟩ (out_le hd.out (by omega))
theorem comes_ok {k : Nat} {t : Talk} {s : Seg} {side : Int} (hk : k ≤ 1000) (h : TalkOk k t) (hs : SegOk s) (hside : side = 0 ∨ side = 1) : comesPre t side s ∧ TalkOk (k + 1) (comes t side s) := by
  have hn := now_le hk h
  rcases hside with rfl | rfl
  · have hh := hear_ok hs h.t0 hn h.c0
    obtain ⟨p1, p2⟩ := sends0_ok hk (h.put0 hh.c) (out_le hh.out (by omega))
    refine ⟨.inl ⟨rfl, hearPre_of s hs.d0 h.c0, p1⟩, ?_⟩
    unfold comes
    rw [if_neg (by simp), if_pos rfl]
    exact p2
  · cases hi : t.is1 with
    | true =>
      have hh := hear_ok hs h.t0 hn (h.c1 hi)
      obtain ⟨p1, p2⟩ := sends1_ok hk (h.put1 hi hh.c) (out_le hh.out (by omega))
      refine ⟨.inr (.inl ⟨rfl, hi, hearPre_of s hs.d0 (h.c1 hi), p1⟩), ?_⟩
      unfold comes
      rw [if_neg (by simp [hi]), if_neg (by omega)]
      exact p2
    | false =>
      by_cases hf : s.flags = 2
      · have hh := answer_okc (first := t.first1) (now := t.now) (self := addrY) (peer := addrX) hs h.t0 hn
        obtain ⟨p1, p2⟩ := sends1_ok (t := { t with c1 := (epAnswer addrY addrX s t.first1 t.now).conn, is1 := true }) hk ⟨h.i0, h.c0, fun _ => hh.c, fun h2 => (by cases h2), h.t0, h.t1, h.w0, h.w1, h.l0, h.l1, h.sz⟩ (out_le hh.out (by omega))
        refine ⟨.inr (.inr (.inr ⟨rfl, hi, hf, p1⟩)), ?_⟩
        unfold comes
        rw [if_pos ⟨rfl, hi⟩, if_pos hf]
        exact p2
      · refine ⟨.inr (.inr (.inl ⟨rfl, hi, hf⟩)), ?_⟩
        unfold comes
        rw [if_pos ⟨rfl, hi⟩, if_neg hf]
        exact h.le (by omega)
theorem wrote_ok (c : Conn) (d : List Int) (now : Int) (h : ConnOk c) : wroteOk (epWrite c d now) d := by
  have hl := h.send.len
  unfold epWrite wroteOk
  (repeat' split)
  · rename_i hc; simp [hc.2]
  · simp
  · simp
  · obtain ⟨a, b, -⟩ := write_facts c.send d hl
    exact ⟨a, b, .inl rfl⟩
theorem wrote_len (c : Conn) (d : List Int) (now : Int) (h : ConnOk c) : (d.take (epWrite c d now).2.1.toNat).length ≤ 256 := by
  have hl := h.send.len
  unfold epWrite
  rw [List.length_take]
  (repeat' split)
  · simp
  · simp
  · simp
  · have hr : sendRoom c.send ≤ 256 := by
      unfold sendRoom
      split
      · omega
      · rw [wi_of (by omega) (by omega)]; omega
    have hm : minI d.length (sendRoom c.send) ≤ 256 := by unfold minI; split <;> omega
    simp only [sendWrite]
    omega
theorem read_len (c : Conn) (n now : Int) (h : ConnOk c) : (epRead c n now).2.1.length ≤ 256 := by
  have hl : c.recv.data.length ≤ 256 := by
    rcases h.recv with h | ⟨h, -⟩
    · exact h.1
    · exact h.len
  unfold epRead
  (repeat' split)
  all_goals first | (simp; done) | (simp only [recvRead, List.length_take]; omega)
theorem writes_ok {k : Nat} {t : Talk} {d : List Int} {side : Int} (hk : k ≤ 900) (h : TalkOk k t) (hd : d.length ≤ 1000) (hside : side = 0 ∨ side = 1) : writesPre t side d ∧ TalkOk (k + 2) (writes t side d) := by
  have hn := now_le (by omega) h
  rcases hside with rfl | rfl
  · obtain ⟨p, q⟩ := write_okc (d := d) h.t0 hn h.c0
    have hs := h.sz
    have ht1 := h.t1
    have hl0 := h.l0
    have hl1 := h.l1
    have hq := wrote_len t.c0 d t.now h.c0
    have hw : TalkOk (k + 1) (write0 t d) := ⟨h.i0, p, h.c1, h.z1, h.t0, by show t.now ≤ _; omega, h.w0, h.w1, by show t.way0.length ≤ _; omega, by show t.way1.length ≤ _; omega, by simp only [write0, ByteArray.size_append, bytes_size]; omega⟩
    obtain ⟨p1, p2⟩ := sends0_ok (by omega) hw (out_le q (by omega))
    refine ⟨.inr (.inr (.inl ⟨rfl, h.i0, ⟨by omega, hd⟩, ⟨h.c0.sm, by have := h.c0.send.len; omega⟩, wrote_ok _ _ _ h.c0, p1⟩)), ?_⟩
    unfold writes
    rw [if_pos rfl, if_neg (by simp [h.i0])]
    exact p2
  · cases hi : t.is1 with
    | false =>
      refine ⟨.inr (.inl ⟨rfl, hi⟩), ?_⟩
      unfold writes
      rw [if_neg (by omega), if_pos hi]
      exact h.le (by omega)
    | true =>
      have hc := h.c1 hi
      obtain ⟨p, q⟩ := write_okc (d := d) h.t0 hn hc
      have hs := h.sz
      have ht1 := h.t1
      have hl0 := h.l0
      have hl1 := h.l1
      have hq := wrote_len t.c1 d t.now hc
      have hw : TalkOk (k + 1) (write1 t d) := ⟨h.i0, h.c0, fun _ => p, fun h2 => (by rw [show (write1 t d).is1 = t.is1 from rfl, hi] at h2; cases h2), h.t0, by show t.now ≤ _; omega, h.w0, h.w1, by show t.way0.length ≤ _; omega, by show t.way1.length ≤ _; omega, by simp only [write1, ByteArray.size_append, bytes_size]; omega⟩
      obtain ⟨p1, p2⟩ := sends1_ok (by omega) hw (out_le q (by omega))
      refine ⟨.inr (.inr (.inr ⟨rfl, hi, ⟨by omega, hd⟩, ⟨hc.sm, by have := hc.send.len; omega⟩, wrote_ok _ _ _ hc, p1⟩)), ?_⟩
      unfold writes
      rw [if_neg (by omega), if_neg (by simp [hi])]
      exact p2
theorem tick0_ok {k : Nat} {t : Talk} (hk : k ≤ 1000) (h : TalkOk k t) : tick0Pre t ∧ TalkOk (k + 1) (tick0 t) := by
  have hn := now_le hk h
  have hh := tick_okc h.t0 hn h.c0
  obtain ⟨p1, p2⟩ := sends0_ok hk (h.put0 hh.c) (out_le hh.out (by omega))
  refine ⟨.inr ⟨h.i0, h.c0.sm, p1⟩, ?_⟩
  unfold tick0
  rw [if_pos h.i0]
  exact p2
theorem tick1_ok {k : Nat} {t : Talk} (hk : k ≤ 1000) (h : TalkOk k t) : tick1Pre t ∧ TalkOk (k + 1) (tick1 t) := by
  have hn := now_le hk h
  cases hi : t.is1 with
  | false =>
    refine ⟨.inl hi, ?_⟩
    unfold tick1
    rw [if_neg (by simp [hi])]
    exact h.le (by omega)
  | true =>
    have hh := tick_okc h.t0 hn (h.c1 hi)
    obtain ⟨p1, p2⟩ := sends1_ok hk (h.put1 hi hh.c) (out_le hh.out (by omega))
    refine ⟨.inr ⟨hi, (h.c1 hi).sm, p1⟩, ?_⟩
    unfold tick1
    rw [if_pos hi]
    exact p2
theorem ticks_ok {k : Nat} {t : Talk} {n : Int} (hk : k ≤ 900) (h : TalkOk k t) (h0 : 0 ≤ n) (h1 : n ≤ 1000) : ticksPre t n ∧ TalkOk (k + 3) (ticks t n) := by
  have hn := now_le (by omega) h
  have ht := h.t0
  have ht1 := h.t1
  have hw : IntKind.u64.wrap (t.now + n) = t.now + n := by rw [IntKind.wrap_u64]; omega
  have hl : TalkOk (k + 1) (later t n) := ⟨h.i0, h.c0, h.c1, h.z1, by show 0 ≤ IntKind.u64.wrap (t.now + n); rw [hw]; omega, by show IntKind.u64.wrap (t.now + n) ≤ _; rw [hw]; omega, h.w0, h.w1, by have := h.l0; show t.way0.length ≤ _; omega, by have := h.l1; show t.way1.length ≤ _; omega, by have := h.sz; simp only [later]; omega⟩
  obtain ⟨p1, p2⟩ := tick0_ok (by omega) hl
  obtain ⟨q1, q2⟩ := tick1_ok (by omega) p2
  exact ⟨⟨p1, q1⟩, q2⟩
theorem closes_ok {k : Nat} {t : Talk} {side : Int} (hk : k ≤ 1000) (h : TalkOk k t) (hside : side = 0 ∨ side = 1) : closesPre t side ∧ TalkOk (k + 1) (closes t side) := by
  have hn := now_le hk h
  rcases hside with rfl | rfl
  · by_cases hp : t.c0.phase = 1
    · refine ⟨.inr (.inl ⟨rfl, h.i0, hp⟩), ?_⟩
      unfold closes
      rw [if_pos rfl, if_neg (by simp [hp])]
      exact h.le (by omega)
    · have hh := close_okc h.t0 hn h.c0
      have hw : TalkOk k (close0 t) := ⟨h.i0, hh.c, h.c1, h.z1, h.t0, h.t1, h.w0, h.w1, h.l0, h.l1, h.sz⟩
      obtain ⟨p1, p2⟩ := sends0_ok hk hw (out_le hh.out (by omega))
      refine ⟨.inr (.inr (.inl ⟨rfl, h.i0, hp, h.c0.sm, p1⟩)), ?_⟩
      unfold closes
      rw [if_pos rfl, if_pos ⟨h.i0, hp⟩]
      exact p2
  · cases hi : t.is1 with
    | false =>
      refine ⟨.inr (.inr (.inr (.inl ⟨rfl, hi⟩))), ?_⟩
      unfold closes
      rw [if_neg (by omega), if_neg (by simp [hi])]
      exact h.le (by omega)
    | true =>
      by_cases hp : t.c1.phase = 1
      · refine ⟨.inr (.inr (.inr (.inr (.inl ⟨rfl, hi, hp⟩)))), ?_⟩
        unfold closes
        rw [if_neg (by omega), if_neg (by simp [hp])]
        exact h.le (by omega)
      · have hc := h.c1 hi
        have hh := close_okc h.t0 hn hc
        have hw : TalkOk k (close1 t) := ⟨h.i0, h.c0, fun _ => hh.c, fun h2 => (by rw [show (close1 t).is1 = t.is1 from rfl, hi] at h2; cases h2), h.t0, h.t1, h.w0, h.w1, h.l0, h.l1, h.sz⟩
        obtain ⟨p1, p2⟩ := sends1_ok hk hw (out_le hh.out (by omega))
        refine ⟨.inr (.inr (.inr (.inr (.inr ⟨rfl, hi, hp, hc.sm, p1⟩)))), ?_⟩
        unfold closes
        rw [if_neg (by omega), if_pos ⟨hi, hp⟩]
        exact p2
theorem read0E_ok {k : Nat} {t : Talk} (h : TalkOk k t) : TalkOk k (read0E t) := by
  unfold read0E
  split
  · exact ⟨h.i0, h.c0, h.c1, h.z1, h.t0, h.t1, h.w0, h.w1, h.l0, h.l1, h.sz⟩
  · exact h
theorem read1E_ok {k : Nat} {t : Talk} (h : TalkOk k t) : TalkOk k (read1E t) := by
  unfold read1E
  split
  · exact ⟨h.i0, h.c0, h.c1, h.z1, h.t0, h.t1, h.w0, h.w1, h.l0, h.l1, h.sz⟩
  · exact h
theorem reads_ok {k : Nat} {t : Talk} {side n : Int} (hk : k ≤ 900) (h : TalkOk k t) (hside : side = 0 ∨ (side = 1 ∧ t.is1 = true)) : readsPre t side n ∧ TalkOk (k + 2) (reads t side n) := by
  have hn := now_le (by omega) h
  have hs := h.sz
  have ht1 := h.t1
  have hl0 := h.l0
  have hl1 := h.l1
  rcases hside with rfl | ⟨rfl, hi⟩
  · obtain ⟨p, q⟩ := read_okc (n := n) h.t0 hn h.c0
    have hq := read_len t.c0 n t.now h.c0
    have hw : TalkOk (k + 1) (read0T t n) := ⟨h.i0, p, h.c1, h.z1, h.t0, by show t.now ≤ _; omega, h.w0, h.w1, by show t.way0.length ≤ _; omega, by show t.way1.length ≤ _; omega, by simp only [read0T, ByteArray.size_append, bytes_size]; omega⟩
    obtain ⟨p1, p2⟩ := sends0_ok (by omega) hw (out_le q (by omega))
    refine ⟨.inl ⟨rfl, h.c0.sm, ⟨by omega, by omega⟩, p1⟩, ?_⟩
    unfold reads
    rw [if_pos rfl]
    exact read0E_ok p2
  · obtain ⟨p, q⟩ := read_okc (n := n) h.t0 hn (h.c1 hi)
    have hq := read_len t.c1 n t.now (h.c1 hi)
    have hw : TalkOk (k + 1) (read1T t n) := ⟨h.i0, h.c0, fun _ => p, fun h2 => (by rw [show (read1T t n).is1 = t.is1 from rfl, hi] at h2; cases h2), h.t0, by show t.now ≤ _; omega, h.w0, h.w1, by show t.way0.length ≤ _; omega, by show t.way1.length ≤ _; omega, by simp only [read1T, ByteArray.size_append, bytes_size]; omega⟩
    obtain ⟨p1, p2⟩ := sends1_ok (by omega) hw (out_le q (by omega))
    refine ⟨.inr ⟨rfl, (h.c1 hi).sm, ⟨by omega, by omega⟩, p1⟩, ?_⟩
    unfold reads
    rw [if_neg (by omega)]
    exact read1E_ok p2
end Caw

/-! A step of two ends, as a plain function. -/
set_option linter.unusedVariables false
namespace Caw
open Go
theorem le_s2 {N : Nat} {ss : List (Nat × AV)} {cs ds : List AV} {n : Nm} {t2 : Talk} (h : cs.map s0 = talkCells t2) (h2 : ds.map s0 = ds) : Le N (mkSt ss [((0,1,0), cs), (n, ds)]) (mkSt ss [((0,1,0), talkCells t2), (n, ds)]) := by
  have := le_s0 (N := N) (ss := ss) (oo := [((0,1,0), cs), (n, ds)])
  simp only [List.map_cons, List.map_nil, h, h2] at this
  exact this
theorem not_yes {b : Bool} (h : b = false) : ¬ b = true := by rw [h]; simp
def sideOf (s : Stp) : Int := IntKind.i64.wrap ((IntKind.u64.wrap s.side).tmod 2)
def kindOf (s : Stp) : Int := (IntKind.u64.wrap s.kind).tmod 10
def tickN (s : Stp) : Int := IntKind.u64.wrap (1 + (IntKind.u64.wrap s.num).tmod 30)
def readN2 (s : Stp) : Int := IntKind.i64.wrap (1 + IntKind.i64.wrap ((IntKind.u64.wrap s.num).tmod 300))
def pickI (s : Stp) (n : Nat) : Int := IntKind.i64.wrap ((IntKind.u64.wrap s.idx).tmod (IntKind.u64.wrap (n : Int)))
def without (l : List Seg) (i : Nat) : List Seg := l.take i ++ l.drop (i + 1)
/-- A segment comes, is lost, or is doubled. -/
def way0T (t : Talk) (s : Stp) : Talk :=
  match t.way0[(pickI s t.way0.length).toNat]? with
  | none => t
  | some x =>
    if kindOf s = 8 then comes t 0 x
    else if kindOf s = 7 then { t with way0 := without t.way0 (pickI s t.way0.length).toNat }
    else comes { t with way0 := without t.way0 (pickI s t.way0.length).toNat } 0 x
def way1T (t : Talk) (s : Stp) : Talk :=
  match t.way1[(pickI s t.way1.length).toNat]? with
  | none => t
  | some x =>
    if kindOf s = 8 then comes t 1 x
    else if kindOf s = 7 then { t with way1 := without t.way1 (pickI s t.way1.length).toNat }
    else comes { t with way1 := without t.way1 (pickI s t.way1.length).toNat } 1 x
def wayK (k : Int) : Prop := 4 ≤ k ∧ k ≤ 8
instance (k : Int) : Decidable (wayK k) := by unfold wayK; infer_instance
def talkStep (t : Talk) (s : Stp) : Talk :=
  if wayK (kindOf s) then (if sideOf s = 0 then way0T t s else way1T t s)
  else if kindOf s = 9 then ticks t (tickN s)
  else if kindOf s = 2 then
    (if sideOf s = 0 then (if t.is0 = true then reads t 0 (readN2 s) else t) else (if t.is1 = true then reads t 1 (readN2 s) else t))
  else if kindOf s = 3 then closes t (sideOf s)
  else writes t (sideOf s) s.data
/-- What a piece that is under way is, and where it lies. -/
structure InWay (l : List Seg) (s : Stp) (i : Nat) (x : Seg) : Prop where
  hn : ((l.length : Int) == 0) = false
  hw : IntKind.u64.wrap (l.length : Int) = l.length
  hi : IntKind.i64.wrap ((IntKind.u64.wrap s.idx).tmod (l.length : Int)) = (i : Int)
  hlt : i < l.length
  hs : IntKind.i64.wrap ((i : Int) + 1) = ((i + 1 : Nat) : Int)
  get : l[i]? = some x
  le : l.length ≤ 900000
  ne : l ≠ []
theorem inWay (l : List Seg) (s : Stp) (hl : l.length ≤ 900000) (h : l ≠ []) : ∃ i x, InWay l s i x ∧ pickI s l.length = (i : Int) ∧ x ∈ l := by
  have h0 : 0 < l.length := List.length_pos_iff.2 h
  have hw : IntKind.u64.wrap (l.length : Int) = l.length := by rw [IntKind.wrap_u64]; omega
  have hu : 0 ≤ IntKind.u64.wrap s.idx := by rw [IntKind.wrap_u64]; omega
  have h1 := Int.tmod_nonneg (l.length : Int) hu
  have h2 := Int.tmod_lt_of_pos (IntKind.u64.wrap s.idx) (b := (l.length : Int)) (by omega)
  have hi : IntKind.i64.wrap ((IntKind.u64.wrap s.idx).tmod (l.length : Int)) = (((IntKind.u64.wrap s.idx).tmod (l.length : Int)).toNat : Int) := by
    rw [wi_of (by omega) (by omega)]; omega
  have hlt : ((IntKind.u64.wrap s.idx).tmod (l.length : Int)).toNat < l.length := by omega
  refine ⟨_, l[((IntKind.u64.wrap s.idx).tmod (l.length : Int)).toNat], ⟨by simp; omega, hw, hi, hlt, ?_, List.getElem?_eq_getElem hlt, hl, h⟩, ?_, List.getElem_mem _⟩
  · rw [wi_of (by omega) (by omega)]; omega
  · unfold pickI; rw [hw]; exact hi
theorem kind_range (s : Stp) : kindOf s = 0 ∨ kindOf s = 1 ∨ kindOf s = 2 ∨ kindOf s = 3 ∨ (wayK (kindOf s) ∧ kindOf s ≠ 7 ∧ kindOf s ≠ 8) ∨ kindOf s = 7 ∨ kindOf s = 8 ∨ kindOf s = 9 := by
  have hu : 0 ≤ IntKind.u64.wrap s.kind := by rw [IntKind.wrap_u64]; omega
  have h1 := Int.tmod_nonneg 10 hu
  have h2 := Int.tmod_lt_of_pos (IntKind.u64.wrap s.kind) (b := 10) (by omega)
  unfold kindOf wayK
  omega
theorem side_range (s : Stp) : sideOf s = 0 ∨ sideOf s = 1 := by
  have hu : 0 ≤ IntKind.u64.wrap s.side := by rw [IntKind.wrap_u64]; omega
  have h1 := Int.tmod_nonneg 2 hu
  have h2 := Int.tmod_lt_of_pos (IntKind.u64.wrap s.side) (b := 2) (by omega)
  unfold sideOf
  rw [wi_of (by omega) (by omega)]
  omega
/-! What the cases ask. -/
def stepE (t : Talk) (s : Stp) : Prop := kindOf s = 9 ∧ ticksPre t (tickN s)
def stepH (t : Talk) (s : Stp) : Prop := (kindOf s = 0 ∨ kindOf s = 1) ∧ writesPre t (sideOf s) s.data
def stepR0 (t : Talk) (s : Stp) : Prop := sideOf s = 0 ∧ kindOf s = 2 ∧ t.is0 = true ∧ readsPre t 0 (readN2 s)
def stepR1 (t : Talk) (s : Stp) : Prop := sideOf s = 1 ∧ kindOf s = 2 ∧ (t.is1 = false ∨ (t.is1 = true ∧ readsPre t 1 (readN2 s)))
def stepC0 (t : Talk) (s : Stp) : Prop := sideOf s = 0 ∧ kindOf s = 3 ∧ closesPre t 0
def stepC1 (t : Talk) (s : Stp) : Prop := sideOf s = 1 ∧ kindOf s = 3 ∧ closesPre t 1
def stepW0 (t : Talk) (s : Stp) : Prop := sideOf s = 0 ∧ ((wayK (kindOf s) ∧ t.way0 = []) ∨ ∃ i x, InWay t.way0 s i x ∧ pickI s t.way0.length = (i : Int) ∧
  (kindOf s = 7 ∨ (kindOf s = 8 ∧ comesPre t 0 x) ∨ ((wayK (kindOf s) ∧ kindOf s ≠ 7 ∧ kindOf s ≠ 8) ∧ comesPre { t with way0 := without t.way0 i } 0 x)))
def stepW1 (t : Talk) (s : Stp) : Prop := sideOf s = 1 ∧ ((wayK (kindOf s) ∧ t.way1 = []) ∨ ∃ i x, InWay t.way1 s i x ∧ pickI s t.way1.length = (i : Int) ∧
  (kindOf s = 7 ∨ (kindOf s = 8 ∧ comesPre t 1 x) ∨ ((wayK (kindOf s) ∧ kindOf s ≠ 7 ∧ kindOf s ≠ 8) ∧ comesPre { t with way1 := without t.way1 i } 1 x)))
def stepPre (t : Talk) (s : Stp) : Prop := stepE t s ∨ stepH t s ∨ stepR0 t s ∨ stepR1 t s ∨ stepC0 t s ∨ stepC1 t s ∨ stepW0 t s ∨ stepW1 t s
section
variable {t : Talk} {s : Stp}
theorem stepE_eq (h : stepE t s) : talkStep t s = ticks t (tickN s) := by
  have h1 := h.1
  have hk : ¬ wayK (kindOf s) := by unfold wayK; omega
  unfold talkStep
  rw [if_neg hk, if_pos h1]
theorem stepH_eq (h : stepH t s) : talkStep t s = writes t (sideOf s) s.data := by
  have h1 := h.1
  have hk : ¬ wayK (kindOf s) := by unfold wayK; omega
  have k1 : kindOf s ≠ 9 := by omega
  have k2 : kindOf s ≠ 2 := by omega
  have k3 : kindOf s ≠ 3 := by omega
  unfold talkStep
  rw [if_neg hk, if_neg k1, if_neg k2, if_neg k3]
theorem stepR0_eq (h : stepR0 t s) : talkStep t s = reads t 0 (readN2 s) := by
  obtain ⟨a, b, c, d⟩ := h
  have hk : ¬ wayK (kindOf s) := by unfold wayK; omega
  have k1 : kindOf s ≠ 9 := by omega
  unfold talkStep
  rw [if_neg hk, if_neg k1, if_pos b, if_pos a, if_pos c]
theorem stepR1_eq (h : stepR1 t s) : talkStep t s = if t.is1 = true then reads t 1 (readN2 s) else t := by
  obtain ⟨a, b, c⟩ := h
  have hk : ¬ wayK (kindOf s) := by unfold wayK; omega
  have k1 : kindOf s ≠ 9 := by omega
  unfold talkStep
  rw [if_neg hk, if_neg k1, if_pos b, if_neg (show ¬ sideOf s = 0 by omega)]
theorem stepC0_eq (h : stepC0 t s) : talkStep t s = closes t 0 := by
  obtain ⟨a, b, c⟩ := h
  have hk : ¬ wayK (kindOf s) := by unfold wayK; omega
  have k1 : kindOf s ≠ 9 := by omega
  have k2 : kindOf s ≠ 2 := by omega
  unfold talkStep
  rw [if_neg hk, if_neg k1, if_neg k2, if_pos b, a]
theorem stepC1_eq (h : stepC1 t s) : talkStep t s = closes t 1 := by
  obtain ⟨a, b, c⟩ := h
  have hk : ¬ wayK (kindOf s) := by unfold wayK; omega
  have k1 : kindOf s ≠ 9 := by omega
  have k2 : kindOf s ≠ 2 := by omega
  unfold talkStep
  rw [if_neg hk, if_neg k1, if_neg k2, if_pos b, a]
theorem stepW0_eq (h : stepW0 t s) : talkStep t s = way0T t s := by
  obtain ⟨a, b⟩ := h
  have hk : wayK (kindOf s) := by
    rcases b with b | ⟨i, x, h1, h2, h3⟩
    · exact b.1
    · unfold wayK at *; omega
  unfold talkStep
  rw [if_pos hk, if_pos a]
theorem stepW1_eq (h : stepW1 t s) : talkStep t s = way1T t s := by
  obtain ⟨a, b⟩ := h
  have hk : wayK (kindOf s) := by
    rcases b with b | ⟨i, x, h1, h2, h3⟩
    · exact b.1
    · unfold wayK at *; omega
  unfold talkStep
  rw [if_pos hk, if_neg (show ¬ sideOf s = 0 by omega)]
end
theorem without_mem {l : List Seg} {i : Nat} {x : Seg} (h : x ∈ without l i) : x ∈ l := by
  rcases List.mem_append.1 h with h | h
  · exact List.mem_of_mem_take h
  · exact List.mem_of_mem_drop h
theorem without_len (l : List Seg) (i : Nat) : (without l i).length ≤ l.length := by
  unfold without
  simp only [List.length_append, List.length_take, List.length_drop]; omega
theorem tickN_ok (s : Stp) : 0 ≤ tickN s ∧ tickN s ≤ 1000 := by
  have hu : 0 ≤ IntKind.u64.wrap s.num := by rw [IntKind.wrap_u64]; omega
  have h1 := Int.tmod_nonneg 30 hu
  have h2 := Int.tmod_lt_of_pos (IntKind.u64.wrap s.num) (b := 30) (by omega)
  unfold tickN
  rw [IntKind.wrap_u64]
  omega
theorem step_okT {k : Nat} {t : Talk} {s : Stp} (hk : k ≤ 900) (h : TalkOk k t) (hd : s.data.length ≤ 1000) : stepPre t s ∧ TalkOk (k + 3) (talkStep t s) := by
  have hl0 := h.l0
  have hl1 := h.l1
  rcases kind_range s with e | e | e | e | e | e | e | e
  · obtain ⟨p, q⟩ := writes_ok hk h hd (side_range s)
    have hp : stepH t s := ⟨.inl e, p⟩
    exact ⟨.inr (.inl hp), by rw [stepH_eq hp]; exact q.le (by omega)⟩
  · obtain ⟨p, q⟩ := writes_ok hk h hd (side_range s)
    have hp : stepH t s := ⟨.inr e, p⟩
    exact ⟨.inr (.inl hp), by rw [stepH_eq hp]; exact q.le (by omega)⟩
  · rcases side_range s with e2 | e2
    · obtain ⟨p, q⟩ := reads_ok (n := readN2 s) hk h (.inl rfl)
      have hp : stepR0 t s := ⟨e2, e, h.i0, p⟩
      exact ⟨.inr (.inr (.inl hp)), by rw [stepR0_eq hp]; exact q.le (by omega)⟩
    · cases hi : t.is1 with
      | false =>
        have hp : stepR1 t s := ⟨e2, e, .inl hi⟩
        exact ⟨.inr (.inr (.inr (.inl hp))), by rw [stepR1_eq hp, if_neg (by simp [hi])]; exact h.le (by omega)⟩
      | true =>
        obtain ⟨p, q⟩ := reads_ok (n := readN2 s) hk h (.inr ⟨rfl, hi⟩)
        have hp : stepR1 t s := ⟨e2, e, .inr ⟨hi, p⟩⟩
        exact ⟨.inr (.inr (.inr (.inl hp))), by rw [stepR1_eq hp, if_pos hi]; exact q.le (by omega)⟩
  · rcases side_range s with e2 | e2
    · obtain ⟨p, q⟩ := closes_ok (by omega) h (.inl rfl)
      have hp : stepC0 t s := ⟨e2, e, p⟩
      exact ⟨.inr (.inr (.inr (.inr (.inl hp)))), by rw [stepC0_eq hp]; exact q.le (by omega)⟩
    · obtain ⟨p, q⟩ := closes_ok (by omega) h (.inr rfl)
      have hp : stepC1 t s := ⟨e2, e, p⟩
      exact ⟨.inr (.inr (.inr (.inr (.inr (.inl hp))))), by rw [stepC1_eq hp]; exact q.le (by omega)⟩
  all_goals try have hwk : wayK (kindOf s) := by unfold wayK at *; omega
  case inr.inr.inr.inr.inr.inr.inr =>
    obtain ⟨p, q⟩ := ticks_ok (n := tickN s) hk h (tickN_ok s).1 (tickN_ok s).2
    have hp : stepE t s := ⟨e, p⟩
    exact ⟨.inl hp, by rw [stepE_eq hp]; exact q⟩
  all_goals
    rcases side_range s with e2 | e2
    · suffices hs : stepW0 t s ∧ TalkOk (k + 3) (way0T t s) from ⟨.inr (.inr (.inr (.inr (.inr (.inr (.inl hs.1)))))), by rw [stepW0_eq hs.1]; exact hs.2⟩
      by_cases hw : t.way0 = []
      · refine ⟨⟨e2, .inl ⟨hwk, hw⟩⟩, ?_⟩
        unfold way0T
        rw [hw]
        exact h.le (by omega)
      · obtain ⟨i, x, h1, h2, h3⟩ := inWay t.way0 s (by omega) hw
        have hdr : TalkOk k { t with way0 := without t.way0 i } := ⟨h.i0, h.c0, h.c1, h.z1, h.t0, h.t1, fun y hy => h.w0 y (without_mem hy), h.w1, by have := without_len t.way0 i; simp only; omega, h.l1, h.sz⟩
        obtain ⟨a1, a2⟩ := comes_ok (by omega) hdr (h.w0 x h3) (.inl rfl)
        obtain ⟨b1, b2⟩ := comes_ok (by omega) h (h.w0 x h3) (.inl rfl)
        refine ⟨⟨e2, .inr ⟨i, x, h1, h2, ?_⟩⟩, ?_⟩
        · first | exact .inl e | exact .inr (.inl ⟨e, b1⟩) | exact .inr (.inr ⟨e, a1⟩)
        · unfold way0T
          rw [h2]
          simp only [Int.toNat_natCast, h1.get]
          (repeat' split)
          all_goals first | exact b2.le (by omega) | exact hdr.le (by omega) | exact a2.le (by omega)
    · suffices hs : stepW1 t s ∧ TalkOk (k + 3) (way1T t s) from ⟨.inr (.inr (.inr (.inr (.inr (.inr (.inr hs.1)))))), by rw [stepW1_eq hs.1]; exact hs.2⟩
      by_cases hw : t.way1 = []
      · refine ⟨⟨e2, .inl ⟨hwk, hw⟩⟩, ?_⟩
        unfold way1T
        rw [hw]
        exact h.le (by omega)
      · obtain ⟨i, x, h1, h2, h3⟩ := inWay t.way1 s (by omega) hw
        have hdr : TalkOk k { t with way1 := without t.way1 i } := ⟨h.i0, h.c0, h.c1, h.z1, h.t0, h.t1, h.w0, fun y hy => h.w1 y (without_mem hy), h.l0, by have := without_len t.way1 i; simp only; omega, h.sz⟩
        obtain ⟨a1, a2⟩ := comes_ok (by omega) hdr (h.w1 x h3) (.inr rfl)
        obtain ⟨b1, b2⟩ := comes_ok (by omega) h (h.w1 x h3) (.inr rfl)
        refine ⟨⟨e2, .inr ⟨i, x, h1, h2, ?_⟩⟩, ?_⟩
        · first | exact .inl e | exact .inr (.inl ⟨e, b1⟩) | exact .inr (.inr ⟨e, a1⟩)
        · unfold way1T
          rw [h2]
          simp only [Int.toNat_natCast, h1.get]
          (repeat' split)
          all_goals first | exact b2.le (by omega) | exact hdr.le (by omega) | exact a2.le (by omega)
end Caw

/-! The chapter's example, at its numbers. -/
set_option linter.unusedVariables false
namespace Caw
open Go Go.RowKit
@[simp] theorem decS_stp (l : List Stp) (tg : Tg) : decS 5 pStp stpCells (.sl 5 (encS stpCells l) tg) = some l := decS_enc pStp_all l tg
theorem fits_len {l : List Stp} (h : fitsL l = true) : l.length ≤ 80 ∧ ∀ x ∈ l, x.data.length ≤ 1000 := by
  unfold fitsL at h
  simp only [Bool.and_eq_true, decide_eq_true_eq, List.all_eq_true] at h
  exact ⟨by omega, fun x hx => by have := h.1 x hx; omega⟩
def exA : Ep := epDial addrX addrY 100 0
def exSA : Seg := ⟨7, 80, 100, 0, 2, 256, 64, []⟩
def exB : Ep := epAnswer addrY addrX exSA 300 0
def exSB : Seg := ⟨80, 7, 300, 101, 18, 256, 64, []⟩
def exA2 : Ep := hear exA.conn exSB 1
def exSC : Seg := ⟨7, 80, 101, 301, 16, 256, 0, []⟩
def exB2 : Ep := hear exB.conn exSC 2
theorem exA_out : exA.out = [exSA] := by kernel_rfl
theorem exB_out : exB.out = [exSB] := by kernel_rfl
theorem exA2_out : exA2.out = [exSC] := by kernel_rfl
theorem exA2_st : stName exA2.conn = ⟨#[69, 83, 84, 65, 66, 76, 73, 83, 72, 69, 68]⟩ := by decide +kernel
theorem exB2_st : stName exB2.conn = ⟨#[69, 83, 84, 65, 66, 76, 73, 83, 72, 69, 68]⟩ := by decide +kernel
theorem exA_ok : ConnOk exA.conn := (dial_okc (by omega) (by omega)).c
theorem exSA_ok : SegOk exSA := ⟨by simp [exSA], by simp [exSA], by simp [exSA]⟩
theorem exSB_ok : SegOk exSB := ⟨by simp [exSB], by simp [exSB], by simp [exSB]⟩
theorem exSC_ok : SegOk exSC := ⟨by simp [exSC], by simp [exSC], by simp [exSC]⟩
theorem exB_ok : ConnOk exB.conn := (answer_okc exSA_ok (by omega) (by omega)).c
theorem exA_pre : hearPre exA.conn exSB := hearPre_of _ exSB_ok.d0 exA_ok
theorem exB_pre : hearPre exB.conn exSC := hearPre_of _ exSC_ok.d0 exB_ok
end Caw

/-! TcbResets: the plain law. -/
set_option linter.unusedVariables false
namespace Caw
open Go
theorem le_eq {N : Nat} {a b c : St} (h : Le N a b) (e : b = c) : Le N a c := by subst e; exact h
theorem refMod_emod (n : Int) (h : -4294967296 ≤ n) (k : n ≤ 4294967296) : refMod n = n % 4294967296 := by
  unfold refMod
  have h2 : n.tmod 4294967296 = if 0 ≤ n then n % 4294967296 else -((-n) % 4294967296) := by
    split
    · rw [Int.tmod_eq_emod_of_nonneg (by omega)]
    · have := Int.tmod_eq_emod_of_nonneg (a := -n) (b := 4294967296) (by omega)
      rw [Int.neg_tmod] at this
      omega
  rw [h2]
  split <;> split <;> first | omega | (rw [wi_of (by omega) (by omega)]; omega)
theorem fits_same (a s w : Int) (ha : U32 a) (hs : U32 s) (h0 : 0 ≤ w) (h1 : w ≤ 256) : seqFits a 0 s w = refFits a 0 s w := by
  unfold U32 at *
  have e1 : IntKind.i64.wrap (IntKind.i64.wrap a - IntKind.i64.wrap s) = a - s := by
    rw [wi_of (n := a) (by omega) (by omega), wi_of (n := s) (by omega) (by omega), wi_of (by omega) (by omega)]
  have e2 : maxI w 0 = w := by unfold maxI; split <;> omega
  have e3 : maxI 0 0 = 0 := by unfold maxI; simp
  unfold seqFits refFits
  rw [e1, refMod_emod _ (by omega) (by omega), e2, e3]
  have e4 : IntKind.u64.wrap (IntKind.u32.wrap (a - s)) = (a - s) % 4294967296 := by rw [IntKind.wrap_u64, IntKind.wrap_u32]; omega
  have e5 : IntKind.u64.wrap w = w := by rw [IntKind.wrap_u64]; omega
  by_cases hw : w = 0
  · rw [if_pos (by omega), if_pos ⟨rfl, hw⟩]
    rw [show (a == s) = decide (a = s) from rfl]
    apply decide_eq_decide.2
    omega
  · rw [if_neg (by omega), if_pos (by omega), if_neg (by omega), if_pos rfl]
    unfold seqIn
    rw [e4, e5]
    rw [show decide (0 < w) = true from decide_eq_true (by omega), Bool.true_and]
def resetSeg (c : Conn) (off : Int) : Seg := ⟨0, 0, IntKind.u32.wrap (c.recv.next + IntKind.u32.wrap off), IntKind.u32.wrap off, 4, 0, 0, []⟩
theorem hasF_44 : hasF 4 4 = true := by decide
theorem hasF_416 : hasF 4 16 = false := by decide
theorem RecvOk.un {q : Recv} (h : RecvOk q) : U32 q.next := by
  rcases h with h | ⟨h, -⟩
  · exact h.2.1
  · exact h.un
theorem RecvOk.len {q : Recv} (h : RecvOk q) : q.data.length ≤ 256 := by
  rcases h with h | ⟨h, -⟩
  · exact h.1
  · exact h.len
theorem reset_cases (c : Conn) (h : ConnOk c) (off now : Int) : (hear c (resetSeg c off) now).out = [] ∧
    ((refFits (resetSeg c off).seq 0 c.recv.next (IntKind.i64.wrap (256 - c.recv.data.length)) = false ∧ (hear c (resetSeg c off) now).conn.phase = c.phase) ∨
     (refFits (resetSeg c off).seq 0 c.recv.next (IntKind.i64.wrap (256 - c.recv.data.length)) = true ∧ c.phase = 0 ∧ (hear c (resetSeg c off) now).conn.phase = 0) ∨
     (refFits (resetSeg c off).seq 0 c.recv.next (IntKind.i64.wrap (256 - c.recv.data.length)) = true ∧ c.phase = 1 ∧ (hear c (resetSeg c off) now).conn.phase = 1) ∨
     (refFits (resetSeg c off).seq 0 c.recv.next (IntKind.i64.wrap (256 - c.recv.data.length)) = true ∧ c.phase = 2 ∧ (hear c (resetSeg c off) now).conn.phase = 0 ∧ (hear c (resetSeg c off) now).conn.err = 12) ∨
     (refFits (resetSeg c off).seq 0 c.recv.next (IntKind.i64.wrap (256 - c.recv.data.length)) = true ∧ c.phase = 3 ∧ (hear c (resetSeg c off) now).conn.phase = 0 ∧ (hear c (resetSeg c off) now).conn.err = 12) ∨
     (refFits (resetSeg c off).seq 0 c.recv.next (IntKind.i64.wrap (256 - c.recv.data.length)) = true ∧ c.phase = 4 ∧ (hear c (resetSeg c off) now).conn.phase = 0 ∧ (hear c (resetSeg c off) now).conn.err = 0)) := by
  have hl := h.recv.len
  have hw := window_eq hl
  have hU : U32 (resetSeg c off).seq := by unfold resetSeg U32; simp only; rw [IntKind.wrap_u32]; omega
  have hf := fits_same (resetSeg c off).seq c.recv.next (256 - c.recv.data.length) hU h.recv.un (by omega) (by omega)
  have hw2 : IntKind.i64.wrap (256 - c.recv.data.length) = 256 - c.recv.data.length := wi_of (by omega) (by omega)
  have hfl : (resetSeg c off).flags = 4 := rfl
  rw [hw2, ← hf]
  unfold hear
  simp only
  by_cases p0 : c.phase = 0
  · rw [if_pos p0]
    cases hb : seqFits (resetSeg c off).seq 0 c.recv.next (256 - c.recv.data.length)
    · exact ⟨rfl, .inl ⟨rfl, rfl⟩⟩
    · exact ⟨rfl, .inr (.inl ⟨rfl, p0, p0⟩)⟩
  · rw [if_neg p0]
    by_cases p1 : c.phase = 1
    · rw [if_pos p1]
      have hd : epDialling ⟨c, now, []⟩ (resetSeg c off) = ⟨c, now, []⟩ := by
        unfold epDialling isMine
        rw [hfl, hasF_44, hasF_416]
        simp
      rw [hd]
      cases hb : seqFits (resetSeg c off).seq 0 c.recv.next (256 - c.recv.data.length)
      · exact ⟨rfl, .inl ⟨rfl, rfl⟩⟩
      · exact ⟨rfl, .inr (.inr (.inl ⟨rfl, p1, p1⟩))⟩
    · rw [if_neg p1, hfl, if_pos hasF_44, hw]
      cases hb : seqFits (resetSeg c off).seq 0 c.recv.next (256 - c.recv.data.length)
      · exact ⟨rfl, .inl ⟨rfl, rfl⟩⟩
      · rw [if_pos rfl]
        unfold epBroken
        have hph : c.phase = 2 ∨ c.phase = 3 ∨ c.phase = 4 := by
          rcases h.fine with g | g | g | g
          · exact absurd g.1 p0
          · rcases g.1 with g | g
            · exact absurd g p1
            · exact .inl g
          · exact .inr (.inl g.1)
          · exact .inr (.inr g.1)
        rcases hph with p | p | p
        · rw [if_neg (by simp only; omega)]
          exact ⟨rfl, .inr (.inr (.inr (.inl ⟨rfl, p, rfl, rfl⟩)))⟩
        · rw [if_neg (by simp only; omega)]
          exact ⟨rfl, .inr (.inr (.inr (.inr (.inl ⟨rfl, p, rfl, rfl⟩))))⟩
        · rw [if_pos (by exact p)]
          exact ⟨rfl, .inr (.inr (.inr (.inr (.inr ⟨rfl, p, rfl, rfl⟩))))⟩
end Caw
namespace Caw
open Go
def RefOk (s : Seg) (off : Int) : Prop := s.src = 0 ∧ s.dst = 0 ∧ s.data = [97, 98] ∧ s.flags = bAnd .u8 (IntKind.u8.wrap off) 31
theorem refOk_of (c : Conn) (off : Int) : RefOk { resetSeg c off with flags := bAnd .u8 (IntKind.u8.wrap off) 31, data := [97, 98] } off := ⟨rfl, rfl, rfl, rfl⟩
theorem low31 (x : Int) : ∃ k : Fin 32, bAnd .u8 x 31 = (k.val : Int) := by
  unfold bAnd
  have h : (BitVec.ofInt IntKind.u8.bits x &&& BitVec.ofInt IntKind.u8.bits 31).toNat ≤ 31 := by
    rw [BitVec.toNat_and]
    exact Nat.and_le_right
  refine ⟨⟨(BitVec.ofInt IntKind.u8.bits x &&& BitVec.ofInt IntKind.u8.bits 31).toNat, by omega⟩, ?_⟩
  rw [IntKind.wrap_u8]
  simp only
  omega
theorem bits_low : ∀ k : Fin 32, IntKind.u32.wrap (bAnd .u8 (k.val : Int) 1) = (if hasF (k.val : Int) 1 then 1 else 0) ∧ IntKind.u32.wrap (bAnd .u8 (((k.val : Int)).fdiv (2 ^ min 1 IntKind.u8.bits)) 1) = (if hasF (k.val : Int) 2 then 1 else 0) := by decide +kernel
theorem refuse_no {s : Seg} {off : Int} (h : RefOk s off) (p : (bAnd IntKind.u8 s.flags 16 == 0) = true) :
    refuse s = ⟨0, 0, 0, IntKind.u32.wrap (IntKind.u32.wrap (IntKind.u32.wrap (s.seq + 2) + IntKind.u32.wrap (bAnd IntKind.u8 s.flags 1)) + IntKind.u32.wrap (bAnd IntKind.u8 (s.flags.fdiv (2 ^ min 1 IntKind.u8.bits)) 1)), 20, 0, 0, []⟩ := by
  obtain ⟨h1, h2, h3, h4⟩ := h
  have hf : hasF s.flags 16 = false := by unfold hasF; simp at p; simp [p]
  obtain ⟨k, hk⟩ := low31 (IntKind.u8.wrap off)
  rw [hk] at h4
  obtain ⟨b1, b2⟩ := bits_low k
  unfold refuse
  rw [hf, h1, h2, if_neg (by simp)]
  have hl : segLen s = 2 + (if hasF s.flags 2 then 1 else 0) + (if hasF s.flags 1 then 1 else 0) := by
    unfold segLen
    rw [h3]
    cases hasF s.flags 2 <;> cases hasF s.flags 1 <;> simp [IntKind.wrap_i64]
  have hx : seqAdd s.seq (segLen s) = IntKind.u32.wrap (IntKind.u32.wrap (IntKind.u32.wrap (s.seq + 2) + IntKind.u32.wrap (bAnd IntKind.u8 s.flags 1)) + IntKind.u32.wrap (bAnd IntKind.u8 (s.flags.fdiv (2 ^ min 1 IntKind.u8.bits)) 1)) := by
    rw [hl, seqAdd_eq]
    rw [h4, b1, b2]
    simp only [IntKind.wrap_u32]
    cases hasF (k.val : Int) 2 <;> cases hasF (k.val : Int) 1 <;> simp only [if_true, if_false, Bool.false_eq_true] <;> omega
  rw [hx]
theorem refuse_ack {s : Seg} {off : Int} (h : RefOk s off) (p : (bAnd IntKind.u8 s.flags 16 == 0) = false) : refuse s = ⟨0, 0, s.ack, 0, 4, 0, 0, []⟩ := by
  obtain ⟨h1, h2, h3, h4⟩ := h
  have hf : hasF s.flags 16 = true := by unfold hasF; simp at p; simp [p]
  unfold refuse
  rw [if_pos hf, h1, h2]
end Caw
namespace Caw
/-- A word that simp does not open. -/
def IsReset (s : Seg) (c : Conn) (off : Int) : Prop := s = resetSeg c off
theorem refOk_is {s s2 : Seg} {c : Conn} {off : Int} (h : IsReset s c off) (h2 : s2 = { s with flags := bAnd .u8 (Go.IntKind.u8.wrap off) 31, data := [97, 98] }) : RefOk s2 off := by
  unfold IsReset at h
  rw [h2, h]
  exact refOk_of _ _
end Caw

