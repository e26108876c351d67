import Derived.Test.YtkjodjaamjnejaaK10
import Derived.Test.YtkjodjaamjnejaaK11
import Derived.Test.YtkjodjaamjnejaaK13
import Derived.Test.YtkjodjaamjnejaaK14
set_option linter.all false

namespace Caw
open Go Go.RowKit
theorem prun_bind {P : Program} {α β : Type} : ∀ (s : Sem α) (f : α → Sem β), prun P (s >>= f) = (prun P s).bind fun x => prun P (f x)
  | .pure a, f => rfl
  | .program k, f => by
    show prun P (k P >>= f) = _
    rw [prun_bind]
    rfl
  | .load .., f => rfl
  | .store .., f => rfl
  | .new .., f => rfl
  | .shape .., f => rfl
  | .freeze .., f => rfl
  | .frozen .., f => rfl
  | .getObj .., f => rfl
  | .setObj .., f => rfl
  | .choose .., f => rfl
  | .sys .., f => rfl
  | .mark .., f => rfl
  | .halt .., f => rfl
theorem prun_pure {P : Program} {α : Type} (a : α) : prun P (pure a : Sem α) = some a := rfl
theorem prun_und {P : Program} {t : TypeId} {u : TypeDesc} (h : P.underlying t = some u) : prun P (underlying t) = some u := by
  unfold underlying
  simp [prun_bind, program, prun, h]
  try rfl
theorem eq_int {P : Program} {t : TypeId} {k0 : IntKind} (hu : P.underlying t = some (.int k0)) (d : Nat) (k : IntKind) (a : Int) : prun P (Op.equalIn (d + 1) t (.int k a) (.int k a)) = some true := by
  rw [Op.equalIn, prun_bind, prun_und hu]
  simp [prun_pure]
end Caw

/-! TcbAny: the segments that anybody may send. -/
set_option linter.unusedVariables false
namespace Caw
open Go
def farSeg (c : Conn) (x : Far) : Seg :=
  ⟨c.peer.port, c.self.port, IntKind.u32.wrap (c.recv.next + IntKind.u32.wrap x.seq), IntKind.u32.wrap (c.send.una + IntKind.u32.wrap x.ack), bAnd .u8 x.flags 31, x.wnd, x.mss, x.data⟩
theorem farSeg_ok (c : Conn) {x : Far} (h : FarOk x) (hl : ¬ (300 : Int) < x.data.length) : SegOk (farSeg c x) :=
  ⟨h.1, h.2, by simp only [farSeg]; omega⟩
theorem tmod_two (i : Nat) : ((i : Int).tmod 2 = 0) ∨ ((i : Int).tmod 2 = 1) := by
  rw [Int.tmod_eq_emod_of_nonneg (by omega)]; omega
theorem out_300 {n : Nat} {l : List Seg} (h : OutOk n l) (hn : n ≤ 300) : decide ((300 : Int) < l.length) = false := by
  have := h.1
  simp; omega
end Caw

/-! Two ends: what their steps leave as it was. -/
set_option linter.unusedVariables false
namespace Caw
open Go
theorem sends0_f (t : Talk) (l : List Seg) : (sends 0 t l).c0 = t.c0 ∧ (sends 0 t l).c1 = t.c1 ∧ (sends 0 t l).is0 = t.is0 ∧ (sends 0 t l).is1 = t.is1 ∧ (sends 0 t l).first0 = t.first0 ∧ (sends 0 t l).first1 = t.first1 ∧ (sends 0 t l).way0 = t.way0 ∧ (sends 0 t l).way1 = t.way1 ++ l ∧ (sends 0 t l).written0 = t.written0 ∧ (sends 0 t l).written1 = t.written1 ∧ (sends 0 t l).read0 = t.read0 ∧ (sends 0 t l).read1 = t.read1 ∧ (sends 0 t l).now = t.now := by
  rw [sends0_eq]
  exact ⟨rfl, rfl, rfl, rfl, rfl, rfl, rfl, rfl, rfl, rfl, rfl, rfl, rfl⟩
theorem sends1_f (t : Talk) (l : List Seg) : (sends 1 t l).c0 = t.c0 ∧ (sends 1 t l).c1 = t.c1 ∧ (sends 1 t l).is0 = t.is0 ∧ (sends 1 t l).is1 = t.is1 ∧ (sends 1 t l).first0 = t.first0 ∧ (sends 1 t l).first1 = t.first1 ∧ (sends 1 t l).way0 = t.way0 ++ l ∧ (sends 1 t l).way1 = t.way1 ∧ (sends 1 t l).written0 = t.written0 ∧ (sends 1 t l).written1 = t.written1 ∧ (sends 1 t l).read0 = t.read0 ∧ (sends 1 t l).read1 = t.read1 ∧ (sends 1 t l).now = t.now := by
  rw [sends1_eq]
  exact ⟨rfl, rfl, rfl, rfl, rfl, rfl, rfl, rfl, rfl, rfl, rfl, rfl, rfl⟩
theorem read0E_f (t : Talk) : ∃ w, read0E t = { t with wrong := w } := by
  unfold read0E; split
  · exact ⟨true, rfl⟩
  · exact ⟨t.wrong, rfl⟩
theorem read1E_f (t : Talk) : ∃ w, read1E t = { t with wrong := w } := by
  unfold read1E; split
  · exact ⟨true, rfl⟩
  · exact ⟨t.wrong, rfl⟩
theorem comes_0 (t : Talk) (x : Seg) : comes t 0 x = sends 0 { t with c0 := (hear t.c0 x t.now).conn } (hear t.c0 x t.now).out := by
  have q : ¬ ((0 : Int) = 1 ∧ t.is1 = false) := fun h => absurd h.1 (by decide)
  unfold comes
  rw [if_neg q, if_pos rfl]
theorem comes_1 (t : Talk) (x : Seg) (hi : t.is1 = true) : comes t 1 x = sends 1 { t with c1 := (hear t.c1 x t.now).conn } (hear t.c1 x t.now).out := by
  have q : ¬ ((1 : Int) = 1 ∧ t.is1 = false) := fun h => absurd (hi.symm.trans h.2) (by decide)
  have q2 : ¬ (1 : Int) = 0 := by decide
  unfold comes
  rw [if_neg q, if_neg q2]
theorem comes_2 (t : Talk) (x : Seg) (hi : t.is1 = false) : comes t 1 x = if x.flags = 2 then sends 1 { t with c1 := (epAnswer addrY addrX x t.first1 t.now).conn, is1 := true } (epAnswer addrY addrX x t.first1 t.now).out else t := by
  unfold comes
  rw [if_pos ⟨rfl, hi⟩]
end Caw

/-! Where nothing is lost: an end's calls. -/
set_option linter.unusedVariables false
namespace Caw
open Go
abbrev nm (F : Int) (k : Nat) : Int := num (str0 F) k
/-- An open end: so many bytes were written, acknowledged and sent there; so many came, and were read. -/
structure QC (F G : Int) (W a h r p : Nat) (c : Conn) : Prop where
  ph : c.phase = 3
  err : c.err = 0
  una : c.send.una = nm F a
  len : c.send.data.length = W - a
  ah : a ≤ h
  hW : h ≤ W
  Wa : W ≤ a + 256
  sent : c.send.sent = ((h - a : Nat) : Int)
  f1 : c.send.fin = false
  f2 : c.send.finSent = false
  f3 : c.send.finAcked = false
  nx : c.recv.next = nm G r
  rl : c.recv.data.length = r - p
  pr : p ≤ r
  rp : r ≤ p + 256
  ahd : c.recv.ahead = []
  kn : c.recv.known = false
  dn : c.recv.done = false
  mss : c.mss = 64
  tries : c.tries = 0
  w0 : 0 ≤ c.window
  w1 : c.window ≤ 65535
  bW : W ≤ 1000
  br : r ≤ 1000
/-- Segments of an end on their way: what they bear begins at k and ends at h; what they acknowledge goes from a to r; each tells of room up to B. -/
def Flow (F G : Int) (B : Nat) : List Seg → Nat → Nat → Nat → Nat → Prop
  | [], k, h, a, r => k = h ∧ a = r
  | x :: l, k, h, a, r => x.seq = nm F k ∧ (x.flags = 16 ∨ x.flags = 24) ∧ x.data.length ≤ 64 ∧ ∃ m w : Nat, x.ack = nm G m ∧ x.wnd = w ∧ w ≤ 256 ∧ a ≤ m ∧ m ≤ r ∧ B ≤ m + w ∧ Flow F G B l (k + x.data.length) h m r
section
variable {F G : Int} {B : Nat}
theorem Flow.le : ∀ {l : List Seg} {k h a r : Nat}, Flow F G B l k h a r → k ≤ h ∧ a ≤ r
  | [], k, h, a, r, q => ⟨by rw [q.1]; exact Nat.le_refl _, by rw [q.2]; exact Nat.le_refl _⟩
  | x :: l, k, h, a, r, ⟨_, _, _, m, w, _, _, _, q1, q2, _, q⟩ => by
    have := Flow.le q
    omega
theorem Flow.app : ∀ {l l2 : List Seg} {k h a r h2 r2 : Nat}, Flow F G B l k h a r → Flow F G B l2 h h2 r r2 → Flow F G B (l ++ l2) k h2 a r2
  | [], l2, k, h, a, r, h2, r2, q, q2 => by rw [q.1, q.2]; exact q2
  | x :: l, l2, k, h, a, r, h2, r2, ⟨e1, e2, e3, m, w, e4, e5, e6, e7, e8, e9, q⟩, q2 =>
    ⟨e1, e2, e3, m, w, e4, e5, e6, e7, Nat.le_trans e8 (Flow.le q2).2, e9, Flow.app q q2⟩
theorem Flow.low {l : List Seg} {k h a a' r : Nat} (hn : l ≠ []) (ha : a' ≤ a) (q : Flow F G B l k h a r) : Flow F G B l k h a' r := by
  cases l with
  | nil => exact absurd rfl hn
  | cons x l =>
    obtain ⟨e1, e2, e3, m, w, e4, e5, e6, e7, q⟩ := q
    exact ⟨e1, e2, e3, m, w, e4, e5, e6, by omega, q⟩
theorem Flow.mono {B' : Nat} (hB : B' ≤ B) : ∀ {l : List Seg} {k h a r : Nat}, Flow F G B l k h a r → Flow F G B' l k h a r
  | [], _, _, _, _, q => q
  | x :: l, k, h, a, r, ⟨e1, e2, e3, m, w, e4, e5, e6, e7, e8, e9, q⟩ => ⟨e1, e2, e3, m, w, e4, e5, e6, e7, e8, by omega, Flow.mono hB q⟩
end
section
variable {F G : Int} {W a h r p : Nat} {c : Conn}
theorem QC.flight (hc : QC F G W a h r p c) : sendFlight c.send = ((h - a : Nat) : Int) := by
  unfold sendFlight
  rw [hc.f2]
  exact hc.sent
theorem QC.wnd (hc : QC F G W a h r p c) : recvWindow c.recv = ((p + 256 - r : Nat) : Int) ∧ IntKind.u16.wrap (recvWindow c.recv) = ((p + 256 - r : Nat) : Int) := by
  have h1 := hc.rl
  have h2 := hc.pr
  have h3 := hc.rp
  have e : recvWindow c.recv = ((p + 256 - r : Nat) : Int) := by rw [window_eq (by omega)]; omega
  refine ⟨e, ?_⟩
  rw [e, IntKind.wrap_u16]; omega
theorem f16_16 : hasF 16 16 = true ∧ hasF 16 4 = false ∧ hasF 16 2 = false ∧ hasF 16 1 = false := by decide
theorem f24_16 : hasF 24 16 = true ∧ hasF 24 4 = false ∧ hasF 24 2 = false ∧ hasF 24 1 = false := by decide
/-- A segment that an open end tells. -/
theorem tell_q {e : Ep} (hc : QC F G W a h r p e.conn) {f : Int} (hf : f = 16 ∨ f = 24) {k : Nat} {d : List Int} {l : List Seg} {h2 : Nat} (hd : d.length ≤ 64) (hl : Flow F G (p + 256) l (k + d.length) h2 r r) :
    ∃ x, (epTell e f ⟨nm F k, d⟩).out = e.out ++ [x] ∧ x.data = d ∧ Flow F G (p + 256) (x :: l) k h2 r r := by
  have h16 : hasF f 16 = true := by rcases hf with rfl | rfl; exact f16_16.1; exact f24_16.1
  have h3 := hc.rp
  have h4 := hc.pr
  refine ⟨_, rfl, rfl, rfl, hf, hd, r, p + 256 - r, ?_, ?_, by omega, Nat.le_refl _, Nat.le_refl _, by omega, hl⟩
  · simp only [h16, if_true]; exact hc.nx
  · exact hc.wnd.2
theorem QC.other {c2 : Conn} (hc : QC F G W a h r p c) (e1 : c2.phase = c.phase) (e2 : c2.err = c.err) (e3 : c2.send = c.send) (e4 : c2.recv = c.recv) (e5 : c2.mss = c.mss) (e6 : c2.tries = c.tries) (e7 : c2.window = c.window) : QC F G W a h r p c2 := by
  obtain ⟨q1, q2, q3, q4, q5, q6, q7, q8, q9, q10, q11, q12, q13, q14, q15, q16, q17, q18, q19, q20, q21, q22, q23, q24⟩ := hc
  exact ⟨by rw [e1]; exact q1, by rw [e2]; exact q2, by rw [e3]; exact q3, by rw [e3]; exact q4, q5, q6, q7, by rw [e3]; exact q8, by rw [e3]; exact q9, by rw [e3]; exact q10, by rw [e3]; exact q11, by rw [e4]; exact q12, by rw [e4]; exact q13, q14, q15, by rw [e4]; exact q16, by rw [e4]; exact q17, by rw [e4]; exact q18, by rw [e5]; exact q19, by rw [e6]; exact q20, by rw [e7]; exact q21, by rw [e7]; exact q22, q23, q24⟩
/-- The end tells what came. -/
theorem ack_q {e : Ep} (hc : QC F G W a h r p e.conn) : (epAck e).conn = e.conn ∧ ∃ x, (epAck e).out = e.out ++ [x] ∧ x.data = [] ∧ Flow F G (p + 256) [x] h h r r := by
  refine ⟨rfl, ?_⟩
  have e1 : seqAdd e.conn.send.una (sendFlight e.conn.send) = nm F h := by
    rw [hc.una, hc.flight, num_addN]
    have := hc.ah
    congr 1; omega
  unfold epAck
  rw [e1]
  exact tell_q hc (.inl rfl) (by simp) ⟨rfl, rfl⟩
/-! ### push -/
theorem step_more (e : Ep) : (pushStep e).conn.mss = (pushTold e).conn.mss ∧ (pushStep e).conn.tries = (pushTold e).conn.tries ∧ (pushStep e).now = (pushTold e).now := by
  rw [pushStep_eq]
  have ht : (pushTimed e).conn.mss = (pushTold e).conn.mss ∧ (pushTimed e).conn.tries = (pushTold e).conn.tries ∧ (pushTimed e).now = (pushTold e).now := by
    unfold pushTimed; split <;> exact ⟨rfl, rfl, rfl⟩
  split
  · exact ht
  · exact ht
theorem pushW_ge (e : Ep) (h0 : 0 ≤ e.conn.window) : e.conn.window ≤ pushW e ∧ 0 ≤ pushW e ∧ (0 < sendFlight e.conn.send → pushW e = e.conn.window) := by
  unfold pushW
  split
  · rename_i q; omega
  · exact ⟨Int.le_refl _, h0, fun _ => rfl⟩
theorem nextN_q {e : Ep} (hc : QC F G W a h r p e.conn) (hw : pushW e ≤ 100000) : nextN e.conn.send (pushW e) e.conn.mss = maxI 0 (minI (minI ((W - h : Nat) : Int) 64) (pushW e - ((h - a : Nat) : Int))) := by
  have h1 := hc.hW
  have h2 := hc.ah
  have h3 := hc.Wa
  have hg := (pushW_ge e hc.w0).2.1
  unfold nextN
  rw [hc.len, hc.sent, hc.mss]
  have e1 : ((W - a : Nat) : Int) - ((h - a : Nat) : Int) = ((W - h : Nat) : Int) := by omega
  have e2 : maxI (pushW e) 0 = pushW e := by unfold maxI; split <;> omega
  rw [e1, e2, wi_of (n := ((W - h : Nat) : Int)) (by omega) (by omega), wi_of (n := pushW e - ((h - a : Nat) : Int)) (by omega) (by omega)]
theorem pushW_le {e : Ep} (hc : QC F G W a h r p e.conn) : pushW e ≤ 100000 := by
  have := hc.w1
  unfold pushW; split <;> omega
theorem pushOk_q {e : Ep} (hc : QC F G W a h r p e.conn) : (pushN e).2.2.2 = decide (nextN e.conn.send (pushW e) e.conn.mss ≠ 0) := by
  have hf : nextF e.conn.send (pushW e) e.conn.mss = false := by unfold nextF; rw [hc.f1]; rfl
  unfold pushN sendNext
  have ho : nextOk e.conn.send (pushW e) e.conn.mss = decide (nextN e.conn.send (pushW e) e.conn.mss ≠ 0) := by
    unfold nextOk
    rw [hf]
    by_cases h0 : nextN e.conn.send (pushW e) e.conn.mss = 0 <;> simp [h0]
  rw [ho]
  split
  · rename_i q; rw [q]
  · rename_i q; simp only [Bool.not_eq_true] at q; rw [q]
/-- One piece goes. -/
theorem pushStep_q {e : Ep} (hc : QC F G W a h r p e.conn) {m : Nat} (hm : nextN e.conn.send (pushW e) e.conn.mss = (m : Int)) (h0 : 0 < m) (h1 : m ≤ W - h) (hm64 : m ≤ 64) :
    QC F G W a (h + m) r p (pushStep e).conn ∧ (pushStep e).conn.window = e.conn.window ∧ (pushStep e).now = e.now ∧
    ∀ {l : List Seg} {h2 : Nat}, Flow F G (p + 256) l (h + m) h2 r r → ∃ x, (pushStep e).out = e.out ++ [x] ∧ Flow F G (p + 256) (x :: l) h h2 r r := by
  have hW := hc.hW
  have hah := hc.ah
  have hWa := hc.Wa
  have hf : nextF e.conn.send (pushW e) e.conn.mss = false := by unfold nextF; rw [hc.f1]; rfl
  have ho : nextOk e.conn.send (pushW e) e.conn.mss = true := by
    unfold nextOk
    rw [hf, hm]
    simp; omega
  have es : IntKind.i64.wrap (((h - a : Nat) : Int) + (m : Int)) = ((h + m - a : Nat) : Int) := by rw [wi_of (by omega) (by omega)]; omega
  have hN : pushN e = ({ e.conn.send with sent := ((h + m - a : Nat) : Int), finSent := false }, ⟨nm F h, (e.conn.send.data.take (h + m - a)).drop (h - a)⟩, false, true) := by
    unfold pushN sendNext
    rw [if_pos ho, hf, hm, hc.sent, es, hc.f2, hc.una]
    have e1 : seqAdd (nm F a) ((h - a : Nat) : Int) = nm F h := by rw [num_addN]; congr 1; omega
    rw [e1]
    simp [hc.una]
  have hdl : ((e.conn.send.data.take (h + m - a)).drop (h - a)).length = m := by
    rw [List.length_drop, List.length_take, hc.len]; omega
  obtain ⟨-, s2, s3, s4, s5, s6, s7⟩ := step_same e
  obtain ⟨t1, t2, t3⟩ := step_more e
  have hpsh : pshF (pushN e).2.1 (pushN e).2.2.1 = 24 := by
    rw [hN]
    unfold pshF
    simp only
    rw [hdl, if_pos h0]
    simp; decide
  have hT : pushTold e = epTell { e with conn := { e.conn with send := { e.conn.send with sent := ((h + m - a : Nat) : Int), finSent := false } } } 24 ⟨nm F h, (e.conn.send.data.take (h + m - a)).drop (h - a)⟩ := by
    unfold pushTold
    rw [hpsh, hN]
  have hq : QC F G W a (h + m) r p (pushTold e).conn := by
    rw [hT]
    exact ⟨hc.ph, hc.err, hc.una, hc.len, by omega, by omega, hc.Wa, rfl, hc.f1, rfl, hc.f3, hc.nx, hc.rl, hc.pr, hc.rp, hc.ahd, hc.kn, hc.dn, hc.mss, hc.tries, hc.w0, hc.w1, hc.bW, hc.br⟩
  refine ⟨hq.other s4 s6 s2 s3 t1 t2 s5, by rw [s5, hT]; rfl, by rw [t3, hT]; rfl, fun {l h2} hl => ?_⟩
  rw [s7, hT]
  have hq2 : QC F G W a (h + m) r p ({ e with conn := { e.conn with send := { e.conn.send with sent := ((h + m - a : Nat) : Int), finSent := false } } } : Ep).conn := by
    rw [hT] at hq; exact hq
  obtain ⟨x, x1, x2, x3⟩ := tell_q hq2 (f := 24) (.inr rfl) (k := h) (d := (e.conn.send.data.take (h + m - a)).drop (h - a)) (by rw [hdl]; exact hm64) (by rw [hdl]; exact hl)
  exact ⟨x, x1, x3⟩
/-- How many pieces go, at most. -/
def upM (u : Nat) : Nat := if u = 0 then 0 else u / 64 + 1
/-- All that may go. -/
theorem push_q : ∀ (n : Nat) (e : Ep) (h : Nat), QC F G W a h r p e.conn → W - h ≤ n → ∃ h2 l, QC F G W a h2 r p (pushLoop n e).conn ∧ (pushLoop n e).conn.window = e.conn.window ∧ (pushLoop n e).now = e.now ∧ (pushLoop n e).out = e.out ++ l ∧ h ≤ h2 ∧ Flow F G (p + 256) l h h2 r r ∧ (l = [] → h2 = h) ∧ (l ≠ [] → 64 * (l.length - 1) < h2 - h) ∧ (h2 = W ∨ (e.conn.window ≤ ((h2 - a : Nat) : Int) ∧ a < h2))
  | 0, e, h, hc, hn => by
    have := hc.hW
    exact ⟨h, [], hc, rfl, rfl, by simp [pushLoop], Nat.le_refl _, ⟨rfl, rfl⟩, fun _ => rfl, fun q => absurd rfl q, .inl (by omega)⟩
  | n + 1, e, h, hc, hn => by
    have hW := hc.hW
    have hah := hc.ah
    have hN := nextN_q hc (pushW_le hc)
    obtain ⟨g1, g2, g3⟩ := pushW_ge e hc.w0
    have hok := pushOk_q hc
    by_cases h0 : nextN e.conn.send (pushW e) e.conn.mss = 0
    · have hst : pushLoop (n + 1) e = e := pushLoop_stop (fun q => by rw [hok, h0] at q; simp at q) _
      rw [hst]
      refine ⟨h, [], hc, rfl, rfl, by simp, Nat.le_refl _, ⟨rfl, rfl⟩, fun _ => rfl, fun q => absurd rfl q, ?_⟩
      rw [h0] at hN
      unfold maxI minI at hN
      by_cases hu : W - h = 0
      · left; omega
      · right
        have hge : pushW e ≤ ((h - a : Nat) : Int) := by (repeat' split at hN) <;> omega
        refine ⟨by omega, ?_⟩
        rcases Nat.lt_or_ge a h with q | q
        · exact q
        · exfalso
          have hfl := hc.flight
          have hz : ((h - a : Nat) : Int) = 0 := by omega
          rw [hz] at hfl hge
          unfold pushW at hge
          by_cases hw0 : e.conn.window = 0
          · rw [if_pos ⟨hw0, hfl⟩] at hge; omega
          · rw [if_neg (fun q => hw0 q.1)] at hge
            have := hc.w0
            omega
    · obtain ⟨m, hm, m0, m1, m2, m3⟩ : ∃ m : Nat, nextN e.conn.send (pushW e) e.conn.mss = (m : Int) ∧ 0 < m ∧ m ≤ W - h ∧ m ≤ 64 ∧ (m < 64 → m = W - h ∨ (m : Int) = pushW e - ((h - a : Nat) : Int)) := by
        rw [hN] at h0
        refine ⟨(maxI 0 (minI (minI ((W - h : Nat) : Int) 64) (pushW e - ((h - a : Nat) : Int)))).toNat, ?_, ?_, ?_, ?_, ?_⟩
        · rw [hN]; unfold maxI at h0 ⊢; split at h0 <;> split <;> omega
        all_goals
          unfold maxI minI at h0 ⊢
          (repeat' split at h0) <;> (repeat' split) <;> omega
      obtain ⟨k1, k2, k3, k4⟩ := pushStep_q hc hm m0 m1 m2
      have hloop : pushLoop (n + 1) e = pushLoop n (pushStep e) := by
        simp only [pushLoop]
        rw [if_pos ⟨hc.ph, by rw [hok]; simpa using h0⟩]
      obtain ⟨h2, l, i1, i2, i3, i4, i5, i6, i7, i8, i9⟩ := push_q n (pushStep e) (h + m) k1 (by omega)
      obtain ⟨x, x1, x2⟩ := k4 i6
      rw [hloop]
      refine ⟨h2, x :: l, i1, i2.trans k2, i3.trans k3, by rw [i4, x1]; simp, by omega, x2, fun q => (by cases q), fun _ => ?_, by rw [k2] at i9; exact i9⟩
      by_cases hl : l = []
      · subst hl
        simp only [List.length_cons, List.length_nil]
        omega
      · have i8' := i8 hl
        have hlen : l.length ≠ 0 := fun q => hl (List.length_eq_zero_iff.1 q)
        simp only [List.length_cons]
        by_cases hm64 : m < 64
        · -- nothing more can go
          exfalso
          have hN2 := nextN_q k1 (pushW_le k1)
          obtain ⟨j1, j2, j3⟩ := pushW_ge (pushStep e) k1.w0
          have hfl := k1.flight
          rw [j3 (by rw [hfl]; omega), k2] at hN2
          have hz : nextN (pushStep e).conn.send (pushW (pushStep e)) (pushStep e).conn.mss = 0 := by
            rw [j3 (by rw [hfl]; omega), k2, hN2]
            unfold maxI minI
            rcases m3 hm64 with q | q
            · (repeat' split) <;> omega
            · (repeat' split) <;> omega
          have hst : pushLoop n (pushStep e) = pushStep e := pushLoop_stop (fun q => by rw [pushOk_q k1, hz] at q; simp at q) _
          rw [hst] at i4
          exact hl (by simpa using i4)
        · omega
end
end Caw

/-! Where nothing is lost: what comes, what is written and read, and how it begins. -/
set_option linter.unusedVariables false
namespace Caw
open Go
section
variable {F G : Int} {W a h r p : Nat} {c : Conn}
theorem epPush_q {e : Ep} (hc : QC F G W a h r p e.conn) : ∃ h2 l, QC F G W a h2 r p (epPush e).conn ∧ (epPush e).out = e.out ++ l ∧ h ≤ h2 ∧ Flow F G (p + 256) l h h2 r r ∧ (l = [] → h2 = h) ∧ (l ≠ [] → 64 * (l.length - 1) < h2 - h) ∧ (h2 = W ∨ (e.conn.window ≤ ((h2 - a : Nat) : Int) ∧ a < h2)) := by
  have h1 := hc.hW
  have h2 := hc.ah
  have hM : pushM e.conn.send = W - h := by unfold pushM; rw [hc.f1, hc.len, hc.sent]; simp; omega
  unfold epPush
  rw [hM]
  obtain ⟨h2, l, i1, i2, i3, i4, i5, i6, i7, i8, i9⟩ := push_q _ e h hc (Nat.le_refl _)
  exact ⟨h2, l, i1, i4, i5, i6, i7, i8, i9⟩
theorem seqAdd_0 {n : Int} (hn : U32 n) : seqAdd n 0 = n := by unfold U32 at hn; rw [seqAdd_eq]; omega
/-- Bytes that are awaited come. -/
theorem recv_q {q : Recv} {d : List Int} (hn : U32 q.next) (h1 : q.ahead = []) (h2 : q.known = false) (h3 : q.done = false) (hl : q.data.length + d.length ≤ 256) : recvAcc q q.next d false = { q with data := q.data ++ d, next := seqAdd q.next d.length } := by
  have hm : aMark q q.next d false = q := by unfold aMark; rw [if_neg (by simp)]
  have hf : accFrom q q.next = 0 := by unfold accFrom; rw [off_self]; unfold maxI; simp
  have ht : aTo q q.next d false = d.length := by
    unfold aTo
    rw [hm, if_neg (by rw [h2]; simp), off_self, window_eq (by omega), wi_of (by omega) (by omega)]
    unfold minI; split <;> omega
  have hs : accSkip q q.next = 0 := by unfold accSkip; rw [hf, off_self]; exact wi_of (by omega) (by omega)
  have hz := seqAdd_0 hn
  have hlay : aLay q q.next d false = { q with data := q.data ++ d, next := seqAdd q.next d.length } := by
    unfold aLay
    rw [hf, ht, hm]
    by_cases h0 : d = []
    · subst h0
      rw [if_neg (by simp)]
      simp [hz]
    · have hd : 0 < d.length := List.length_pos_iff.2 h0
      rw [if_pos (by omega)]
      have hp : aPiece q q.next d false = ⟨q.next, d⟩ := by
        unfold aPiece aHi
        rw [hf, hs, ht, hz, wi_of (n := 0 + (d.length : Int)) (by omega) (by omega), wi_of (by omega) (by omega)]
        have : ((0 : Int) + (d.length : Int) - 0).toNat = d.length := by omega
        rw [this]
        simp
      rw [hp]
      unfold lay layAll
      rw [h1]
      simp only [layLoop, List.nil_append, layEnd, if_true]
      unfold layPut
      simp [h1]
  unfold recvAcc
  rw [if_neg (by rw [h3]; simp), hlay]
  unfold aDone
  rw [if_neg (by simp [h2])]
theorem send_mk {q : Send} {u s : Int} (h1 : q.una = u) (h2 : q.sent = s) (h3 : q.fin = false) (h4 : q.finSent = false) (h5 : q.finAcked = false) : q = ⟨u, q.data, s, false, false, false⟩ := by
  obtain ⟨q1, q2, q3, q4, q5, q6⟩ := q
  simp only at h1 h2 h3 h4 h5 ⊢
  rw [h1, h2, h3, h4, h5]
theorem tkR_q {e : Ep} (hc : QC F G W a h r p e.conn) {x : Seg} {m : Nat} (hx : x.ack = nm F m) (h1 : a ≤ m) (h2 : m ≤ h) : ∃ d, tkR e x = (⟨nm F m, e.conn.send.data.drop (m - a), ((h - m : Nat) : Int), false, false, false⟩, d, 0) := by
  have hW := hc.hW
  have hb := hc.bW
  have hd : seqDiff (nm F m) (nm F a) = (m : Int) - a := num_diff _ (by omega) (by omega)
  have hfl := hc.flight
  have hf1 := hc.f1
  have hf2 := hc.f2
  have hf3 := hc.f3
  have hu := hc.una
  have hs := hc.sent
  unfold tkR sendAck
  rw [hx, hu, hd, hfl]
  by_cases hma : m = a
  · subst hma
    refine ⟨0, ?_⟩
    rw [if_pos (by omega)]
    have e0 : m - m = 0 := Nat.sub_self m
    rw [e0, List.drop_zero, ← send_mk hu hs hf1 hf2 hf3]
  · refine ⟨(m : Int) - a, ?_⟩
    rw [if_neg (by omega), if_neg (by omega)]
    have hm : minI ((m : Int) - a) e.conn.send.sent = ((m - a : Nat) : Int) := by rw [hs]; unfold minI; split <;> omega
    rw [hm, hs, hf1, hf2, hf3]
    have e1 : IntKind.i64.wrap (((h - a : Nat) : Int) - ((m - a : Nat) : Int)) = ((h - m : Nat) : Int) := by rw [wi_of (by omega) (by omega)]; omega
    have e2 : decide (((m - a : Nat) : Int) < (m : Int) - a) = false := by simp; omega
    simp only [e1, e2, Bool.or_false, Int.toNat_natCast]
theorem tk7_more (e : Ep) (s : Seg) : (tk7 e s).conn.mss = e.conn.mss ∧ (e.conn.tries = 0 → (tk7 e s).conn.tries = 0) := by
  have hk := epMeasure_keeps (tk1 e s) s.ack
  have h4 : (tk4 e s).conn.mss = e.conn.mss ∧ (e.conn.tries = 0 → (tk4 e s).conn.tries = 0) := by
    unfold tk4
    split
    · have hz : tkM e s = epMeasure (tk1 e s) s.ack := rfl
      rw [← hz] at hk
      unfold tk3 tk2 epArm
      generalize tkM e s = z at hk
      obtain ⟨k1, k2, k3, k4, k5, k6, k7, k8, k9, k10, k11, k12, k13, k14, k15⟩ := hk
      split <;> exact ⟨k7, fun _ => rfl⟩
    · exact ⟨rfl, fun q => q⟩
  unfold tk7
  split
  · unfold tk6
    split
    · exact ⟨h4.1, fun _ => rfl⟩
    · exact h4
  · exact h4
/-- How many of some segments bear bytes. -/
def bear (l : List Seg) : Nat := (l.filter fun x => decide (x.data ≠ [])).length
theorem bear_le (l : List Seg) : bear l ≤ l.length := List.length_filter_le ..
theorem bear_app (l l2 : List Seg) : bear (l ++ l2) = bear l + bear l2 := by unfold bear; rw [List.filter_append, List.length_append]
theorem bear_cons (x : Seg) (l : List Seg) : bear (x :: l) = (if x.data = [] then 0 else 1) + bear l := by
  unfold bear
  rw [List.filter_cons]
  by_cases h : x.data = []
  · simp [h]
  · simp [h]; omega
/-- A segment is taken. -/
theorem takesB_q {e : Ep} (hc : QC F G W a h r p e.conn) (ho : e.out = []) {x : Seg} {m w : Nat} (x1 : x.flags = 16 ∨ x.flags = 24) (x2 : x.seq = nm G r) (x3 : x.ack = nm F m) (x4 : x.wnd = w) (x5 : w ≤ 256) (x6 : a ≤ m) (x7 : m ≤ h) (x8 : W ≤ m + w) (x9 : r + x.data.length ≤ p + 256) (x10 : r + x.data.length ≤ 1000) :
    QC F G W m W (r + x.data.length) p (takesB e x).conn ∧ Flow F G (p + 256) (takesB e x).out h W (r + x.data.length) (r + x.data.length) ∧ (x.data ≠ [] → (takesB e x).out ≠ []) ∧
    (takesB e x).out.length + bear (takesB e x).out ≤ 2 * upM (W - h) + (if x.data = [] then 0 else 1) := by
  obtain ⟨d, hd⟩ := tkR_q hc x3 x6 x7
  have hb := hc.bW
  have hW := hc.hW
  have hf1 : hasF x.flags 1 = false ∧ hasF x.flags 2 = false := by rcases x1 with q | q <;> rw [q]; exact ⟨f16_16.2.2.2, f16_16.2.2.1⟩; exact ⟨f24_16.2.2.2, f24_16.2.2.1⟩
  obtain ⟨k1, k2, k3⟩ := tk7_keeps e x
  obtain ⟨k4, k5, k6, k7⟩ := tk7_fields e x
  obtain ⟨k8, k9⟩ := tk7_more e x
  have hrl := hc.rl
  have hrc : recvAcc e.conn.recv x.seq x.data (hasF x.flags 1) = { e.conn.recv with data := e.conn.recv.data ++ x.data, next := seqAdd e.conn.recv.next x.data.length } := by
    rw [hf1.1, x2, ← hc.nx]
    have := hc.pr
    exact recv_q (by rw [hc.nx]; exact num_u _ _) hc.ahd hc.kn hc.dn (by omega)
  have h8 : (tk8 e x).conn.recv = { e.conn.recv with data := e.conn.recv.data ++ x.data, next := seqAdd e.conn.recv.next x.data.length } := by
    show recvAcc (tk7 e x).conn.recv x.seq x.data (hasF x.flags 1) = _
    rw [k2]; exact hrc
  have h9 : tk9 e x = tk8 e x := by
    unfold tk9 epOver
    rw [if_pos (.inr (.inl (by rw [h8]; exact hc.dn)))]
  have hwin : (tk7 e x).conn.window = (w : Int) := by
    rw [k7, hd, if_pos x3, x4, wi_of (by omega) (by omega)]
  have hq : QC F G W m h (r + x.data.length) p (tk9 e x).conn := by
    rw [h9]
    have hs : (tk8 e x).conn.send = ⟨nm F m, e.conn.send.data.drop (m - a), ((h - m : Nat) : Int), false, false, false⟩ := by
      show (tk7 e x).conn.send = _
      rw [k1, hd]
    have hlen := hc.len
    have hWa := hc.Wa
    have hpr := hc.pr
    refine ⟨k4.trans hc.ph, k6.trans hc.err, by rw [hs], by rw [hs]; simp only [List.length_drop]; omega, x7, hW, by omega, by rw [hs], by rw [hs], by rw [hs], by rw [hs], ?_, ?_, by omega, x9, by rw [h8]; exact hc.ahd, by rw [h8]; exact hc.kn, by rw [h8]; exact hc.dn, k8.trans hc.mss, k9 hc.tries, ?_, ?_, hb, x10⟩
    · rw [h8]; simp only; rw [hc.nx, num_addN]
    · rw [h8]; simp only [List.length_append]; omega
    · show 0 ≤ (tk7 e x).conn.window; rw [hwin]; omega
    · show (tk7 e x).conn.window ≤ 65535; rw [hwin]; omega
  have hout : (tk9 e x).out = [] := by rw [h9]; show (tk7 e x).out = []; rw [k3, ho]
  have hw9 : (tk9 e x).conn.window = (w : Int) := by rw [h9]; exact hwin
  obtain ⟨h2, l, i1, i2, i3, i4, i5, i6, i7⟩ := epPush_q hq
  rw [hout, List.nil_append] at i2
  have h2W : h2 = W := by
    rcases i7 with q | q
    · exact q
    · rw [hw9] at q
      have := q.1
      have := i1.hW
      have := i1.ah
      omega
  subst h2W
  have hsl : segLen x = (x.data.length : Int) := by unfold segLen; rw [hf1.1, hf1.2]; simp
  have hB : takesB e x = takesC (tk9 e x) x := by unfold takesB; rw [hd]; simp
  rw [hB]
  unfold takesC
  rw [i2, hout, hsl]
  by_cases hl : l = []
  · subst hl
    have hh := i5 rfl
    subst hh
    by_cases hx : x.data = []
    · rw [if_neg (by rw [hx]; simp)]
      refine ⟨i1, by rw [i2]; exact i4, fun q => absurd hx q, ?_⟩
      rw [i2]; simp [bear]
    · have hx0 : 0 < x.data.length := List.length_pos_iff.2 hx
      rw [if_pos ⟨rfl, by omega⟩]
      obtain ⟨a1, y, a2, a3, a4⟩ := ack_q i1
      rw [i2, List.nil_append] at a2
      refine ⟨by rw [a1]; exact i1, by rw [a2]; exact a4, fun _ => by rw [a2]; simp, ?_⟩
      rw [a2, bear_cons, if_pos a3, if_neg hx]
      simp [bear]
  · have hl0 : l.length ≠ 0 := fun q => hl (List.length_eq_zero_iff.1 q)
    have i6' := i6 hl
    rw [if_neg (by simp only [List.length_nil]; omega)]
    refine ⟨i1, by rw [i2]; exact i4, fun _ => by rw [i2]; exact hl, ?_⟩
    rw [i2]
    have := bear_le l
    have hu : l.length ≤ upM (h2 - h) := by unfold upM; rw [if_neg (by omega)]; omega
    omega
theorem fits_q {G : Int} {r : Nat} {n w : Int} (hn : 0 ≤ n) (hw : 0 ≤ w) (hnw : 0 < n → 0 < w) (hl : w ≤ 256) : seqFits (nm G r) n (nm G r) w = true := by
  have hin : 0 < w → seqIn (nm G r) (nm G r) w = true := by
    intro h0
    unfold seqIn
    have e : IntKind.u64.wrap (IntKind.u32.wrap (nm G r - nm G r)) = 0 := by rw [Int.sub_self, IntKind.wrap_u64, IntKind.wrap_u32]; omega
    rw [e, IntKind.wrap_u64]
    simp; omega
  unfold seqFits
  by_cases h1 : n ≤ 0
  · by_cases h2 : w ≤ 0
    · rw [if_pos ⟨h1, h2⟩]; simp
    · rw [if_neg (fun q => h2 q.2), if_pos h1]; exact hin (by omega)
  · have h2 : 0 < w := hnw (by omega)
    rw [if_neg (fun q => h1 q.1), if_neg h1, if_neg (by omega), hin h2]
    simp
/-- A segment comes to an open end. -/
theorem hear_q (hc : QC F G W a h r p c) (now : Int) {x : Seg} {m w : Nat} (x1 : x.flags = 16 ∨ x.flags = 24) (x2 : x.seq = nm G r) (x3 : x.ack = nm F m) (x4 : x.wnd = w) (x5 : w ≤ 256) (x6 : a ≤ m) (x7 : m ≤ h) (x8 : W ≤ m + w) (x9 : r + x.data.length ≤ p + 256) (x10 : r + x.data.length ≤ 1000) :
    QC F G W m W (r + x.data.length) p (hear c x now).conn ∧ Flow F G (p + 256) (hear c x now).out h W (r + x.data.length) (r + x.data.length) ∧ (x.data ≠ [] → (hear c x now).out ≠ []) ∧
    (hear c x now).out.length + bear (hear c x now).out ≤ 2 * upM (W - h) + (if x.data = [] then 0 else 1) := by
  have hf : hasF x.flags 16 = true ∧ hasF x.flags 4 = false ∧ hasF x.flags 2 = false ∧ hasF x.flags 1 = false := by rcases x1 with q | q <;> rw [q]; exact f16_16; exact f24_16
  have hsl : segLen x = (x.data.length : Int) := by unfold segLen; rw [hf.2.2.1, hf.2.2.2]; simp
  have hrp := hc.rp
  have hfit : seqFits x.seq (segLen x) c.recv.next (recvWindow c.recv) = true := by
    rw [x2, hc.nx, hsl, hc.wnd.1]
    exact fits_q (by omega) (by omega) (by omega) (by have := hc.pr; omega)
  have hp := hc.ph
  have e : hear c x now = takesB ⟨c, now, []⟩ x := by
    unfold hear
    simp only
    rw [if_neg (by omega), if_neg (by omega), hf.2.1, hf.2.2.1, hfit, hf.1]
    simp only [Bool.false_eq_true, if_false, Bool.true_eq_false, if_true]
    unfold takes
    have h0 : tk0 ⟨c, now, []⟩ x = ⟨c, now, []⟩ := by unfold tk0; rw [if_neg (by simp only; omega)]
    rw [if_neg (by simp only; omega), h0]
  rw [e]
  exact takesB_q (e := ⟨c, now, []⟩) hc rfl x1 x2 x3 x4 x5 x6 x7 x8 x9 x10
/-- Bytes are written. -/
theorem write_q (hc : QC F G W a h r p c) (hst : h = W ∨ a < h) (d : List Int) (now : Int) (hW : W + d.length ≤ 1000) : ∃ n h2, n = min d.length (256 - (W - a)) ∧ (epWrite c d now).2.1 = (n : Int) ∧ QC F G (W + n) a h2 r p (epWrite c d now).1 ∧ h ≤ h2 ∧
    Flow F G (p + 256) (epWrite c d now).2.2.1 h h2 r r ∧ ((epWrite c d now).2.2.1 = [] → h2 = h) ∧ ((epWrite c d now).2.2.1 ≠ [] → 64 * ((epWrite c d now).2.2.1.length - 1) < h2 - h) ∧ (h2 = W + n ∨ a < h2) := by
  have hp := hc.ph
  have hlen := hc.len
  have hWa := hc.Wa
  have hah := hc.ah
  have hhW := hc.hW
  have hroom : sendRoom c.send = ((256 - (W - a) : Nat) : Int) := by
    unfold sendRoom
    rw [hc.f1, hlen]
    simp only [Bool.false_eq_true, if_false]
    rw [wi_of (by omega) (by omega)]; omega
  unfold epWrite
  rw [if_neg (by omega), if_neg (by rw [hc.f1]; simp; omega), hroom]
  by_cases h0 : ((256 - (W - a) : Nat) : Int) = 0 ∧ 0 < d.length
  · rw [if_pos h0]
    refine ⟨0, h, by omega, rfl, hc, Nat.le_refl _, ⟨rfl, rfl⟩, fun _ => rfl, fun q => absurd rfl q, hst⟩
  · rw [if_neg h0]
    have hn : (sendWrite c.send d).2 = ((min d.length (256 - (W - a)) : Nat) : Int) := by
      unfold sendWrite
      simp only
      rw [hroom]; unfold minI; split <;> omega
    have hsd : (sendWrite c.send d).1 = { c.send with data := c.send.data ++ d.take (min d.length (256 - (W - a))) } := by
      have h1 : (sendWrite c.send d).1 = { c.send with data := c.send.data ++ d.take ((sendWrite c.send d).2).toNat } := rfl
      rw [h1, hn, Int.toNat_natCast]
    have hq : QC F G (W + min d.length (256 - (W - a))) a h r p ({ epAt c now with conn := { c with send := (sendWrite c.send d).1 } } : Ep).conn := by
      rw [hsd]
      refine ⟨hc.ph, hc.err, hc.una, ?_, hc.ah, by omega, by omega, hc.sent, hc.f1, hc.f2, hc.f3, hc.nx, hc.rl, hc.pr, hc.rp, hc.ahd, hc.kn, hc.dn, hc.mss, hc.tries, hc.w0, hc.w1, by omega, hc.br⟩
      simp only [List.length_append, List.length_take]
      omega
    obtain ⟨h2, l, i1, i2, i3, i4, i5, i6, i7⟩ := epPush_q hq
    have i2' : (epPush { epAt c now with conn := { c with send := (sendWrite c.send d).1 } }).out = l := by rw [i2]; rfl
    refine ⟨_, h2, rfl, hn, i1, i3, ?_, ?_, ?_, i7.imp id (fun q => q.2)⟩
    · simp only [i2']; exact i4
    · simp only [i2']; exact i5
    · simp only [i2']; exact i6
theorem recvRead_1 (q : Recv) (n : Int) : (recvRead q n).1 = { q with data := q.data.drop (readN q n).toNat } := rfl
theorem recvRead_2 (q : Recv) (n : Int) : (recvRead q n).2 = q.data.take (readN q n).toNat := rfl
/-- What came is read. -/
theorem read_q (hc : QC F G W a h r p c) (now : Int) : QC F G W a h r r (epRead c 300 now).1 ∧ (epRead c 300 now).2.1.length = r - p ∧ Flow F G (r + 256) (epRead c 300 now).2.2.1 h h r r ∧ (epRead c 300 now).2.2.1.length ≤ 1 ∧ bear (epRead c 300 now).2.2.1 = 0 := by
  have hp := hc.ph
  have hrl := hc.rl
  have hpr := hc.pr
  have hrp := hc.rp
  unfold epRead
  rw [if_neg (by omega)]
  by_cases h0 : 0 < c.recv.data.length
  · rw [if_pos h0]
    have hN : readN c.recv 300 = (c.recv.data.length : Int) := by
      have h256 : (c.recv.data.length : Int) ≤ 256 := by omega
      have h00 : (0 : Int) ≤ c.recv.data.length := by omega
      clear hrl hpr hrp
      unfold readN
      generalize (c.recv.data.length : Int) = z at h256 h00
      unfold maxI minI
      (repeat' split) <;> omega
    have hq : QC F G W a h r r ({ epAt c now with conn := { c with recv := (recvRead c.recv 300).1 } } : Ep).conn := by
      rw [recvRead_1, hN]
      refine ⟨hc.ph, hc.err, hc.una, hc.len, hc.ah, hc.hW, hc.Wa, hc.sent, hc.f1, hc.f2, hc.f3, hc.nx, ?_, Nat.le_refl _, by omega, hc.ahd, hc.kn, hc.dn, hc.mss, hc.tries, hc.w0, hc.w1, hc.bW, hc.br⟩
      simp
    have hl : (recvRead c.recv 300).2.length = r - p := by
      rw [recvRead_2, hN]; simp; omega
    simp only
    by_cases hw : c.phase = 3 ∧ recvWindow c.recv < 64
    · rw [if_pos hw]
      obtain ⟨a1, y, a2, a3, a4⟩ := ack_q hq
      have a2' : (epAck { epAt c now with conn := { c with recv := (recvRead c.recv 300).1 } }).out = [y] := by rw [a2]; rfl
      refine ⟨by rw [a1]; exact hq, hl, by rw [a2']; exact a4, by rw [a2']; simp, ?_⟩
      rw [a2', bear_cons, if_pos a3]; rfl
    · rw [if_neg hw]
      exact ⟨hq, hl, ⟨rfl, rfl⟩, by simp [epAt], rfl⟩
  · rw [if_neg h0, hc.dn]
    simp only [Bool.false_eq_true, if_false]
    rw [if_neg (by omega), if_neg (by omega)]
    have hrp2 : r = p := by omega
    subst hrp2
    exact ⟨hc, by simp, ⟨rfl, rfl⟩, by simp, rfl⟩
end
end Caw

/-! Where nothing is lost: two ends. -/
set_option linter.unusedVariables false
namespace Caw
open Go
/-- Two open ends, between which nothing is lost. -/
structure QT (F0 F1 : Int) (W0 a0 h0 r0 p0 W1 a1 h1 r1 p1 : Nat) (t : Talk) : Prop where
  q0 : QC F0 F1 W0 a0 h0 r0 p0 t.c0
  q1 : QC F1 F0 W1 a1 h1 r1 p1 t.c1
  y1 : Flow F0 F1 (p0 + 256) t.way1 r1 h0 a1 r0
  y0 : Flow F1 F0 (p1 + 256) t.way0 r0 h1 a0 r1
  b0 : W0 ≤ p1 + 256
  b1 : W1 ≤ p0 + 256
  s0 : h0 = W0 ∨ a0 < h0
  s1 : h1 = W1 ∨ a1 < h1
  i0 : t.is0 = true
  i1 : t.is1 = true
  now : t.now = 0
  w0 : t.written0.size = W0
  w1 : t.written1.size = W1
  d0 : t.read0.size = p0
  d1 : t.read1.size = p1
/-- How much is left to do. -/
def pot (t : Talk) (u0 u1 : Nat) : Nat := t.way0.length + bear t.way0 + (t.way1.length + bear t.way1) + 2 * upM u0 + 2 * upM u1
theorem upM_0 : upM 0 = 0 := rfl
section
variable {F0 F1 : Int} {W0 a0 h0 r0 p0 W1 a1 h1 r1 p1 : Nat} {t : Talk}
theorem come0 (q : QT F0 F1 W0 a0 h0 r0 p0 W1 a1 h1 r1 p1 t) {x : Seg} {l : List Seg} (hw : t.way0 = x :: l) :
    ∃ m, QT F0 F1 W0 m W0 (r0 + x.data.length) p0 W1 a1 h1 r1 p1 (comes { t with way0 := l } 0 x) ∧ pot (comes { t with way0 := l } 0 x) 0 (W1 - h1) + 1 ≤ pot t (W0 - h0) (W1 - h1) := by
  have hy := q.y0
  rw [hw] at hy
  obtain ⟨x2, x1, x3, m, w, x4, x5, x6, x7, x8, x9, hl⟩ := hy
  have l1 := hl.le
  have l2 := q.y1.le
  have e1 := q.q1.hW
  have e2 := q.b1
  have e3 := q.q0.bW
  have e4 := q.q1.bW
  have e5 := q.b0
  obtain ⟨k1, k2, k3, k4⟩ := hear_q q.q0 t.now x1 x2 x4 x5 x6 x7 (by omega) (by omega) (by omega) (by omega)
  rw [comes_0]
  obtain ⟨f1, f2, f3, f4, f5, f6, f7, f8, f9, f10, f11, f12, f13⟩ := sends0_f { { t with way0 := l } with c0 := (hear t.c0 x t.now).conn } (hear t.c0 x t.now).out
  have hflow : Flow F0 F1 (p0 + 256) (t.way1 ++ (hear t.c0 x t.now).out) r1 W0 a1 (r0 + x.data.length) := by
    refine Flow.app q.y1 ?_
    by_cases ho : (hear t.c0 x t.now).out = []
    · have hd : x.data = [] := by
        by_cases hd : x.data = []
        · exact hd
        · exact absurd ho (k3 hd)
      rw [hd] at k2
      rw [hd]
      exact k2
    · exact k2.low ho (by omega)
  refine ⟨m, ⟨by rw [f1]; exact k1, by rw [f2]; exact q.q1, by rw [f8]; exact hflow, by rw [f7]; exact hl, q.b0, q.b1, .inl rfl, q.s1, by rw [f3]; exact q.i0, by rw [f4]; exact q.i1, by rw [f13]; exact q.now, by rw [f9]; exact q.w0, by rw [f10]; exact q.w1, by rw [f11]; exact q.d0, by rw [f12]; exact q.d1⟩, ?_⟩
  unfold pot
  rw [f7, f8, hw, bear_app, bear_cons, upM_0]
  simp only [List.length_append, List.length_cons]
  split at k4 <;> rename_i hd
  · rw [if_pos hd]; omega
  · rw [if_neg hd]; omega
theorem come1 (q : QT F0 F1 W0 a0 h0 r0 p0 W1 a1 h1 r1 p1 t) {x : Seg} {l : List Seg} (hw : t.way1 = x :: l) :
    ∃ m, QT F0 F1 W0 a0 h0 r0 p0 W1 m W1 (r1 + x.data.length) p1 (comes { t with way1 := l } 1 x) ∧ pot (comes { t with way1 := l } 1 x) (W0 - h0) 0 + 1 ≤ pot t (W0 - h0) (W1 - h1) := by
  have hy := q.y1
  rw [hw] at hy
  obtain ⟨x2, x1, x3, m, w, x4, x5, x6, x7, x8, x9, hl⟩ := hy
  have l1 := hl.le
  have l2 := q.y0.le
  have e1 := q.q0.hW
  have e2 := q.b0
  have e3 := q.q0.bW
  have e4 := q.q1.bW
  have e5 := q.b1
  obtain ⟨k1, k2, k3, k4⟩ := hear_q q.q1 t.now x1 x2 x4 x5 x6 x7 (by omega) (by omega) (by omega) (by omega)
  rw [comes_1 { t with way1 := l } x q.i1]
  obtain ⟨f1, f2, f3, f4, f5, f6, f7, f8, f9, f10, f11, f12, f13⟩ := sends1_f { { t with way1 := l } with c1 := (hear t.c1 x t.now).conn } (hear t.c1 x t.now).out
  have hflow : Flow F1 F0 (p1 + 256) (t.way0 ++ (hear t.c1 x t.now).out) r0 W1 a0 (r1 + x.data.length) := by
    refine Flow.app q.y0 ?_
    by_cases ho : (hear t.c1 x t.now).out = []
    · have hd : x.data = [] := by
        by_cases hd : x.data = []
        · exact hd
        · exact absurd ho (k3 hd)
      rw [hd] at k2
      rw [hd]
      exact k2
    · exact k2.low ho (by omega)
  refine ⟨m, ⟨by rw [f1]; exact q.q0, by rw [f2]; exact k1, by rw [f8]; exact hl, by rw [f7]; exact hflow, q.b0, q.b1, q.s0, .inl rfl, by rw [f3]; exact q.i0, by rw [f4]; exact q.i1, by rw [f13]; exact q.now, by rw [f9]; exact q.w0, by rw [f10]; exact q.w1, by rw [f11]; exact q.d0, by rw [f12]; exact q.d1⟩, ?_⟩
  unfold pot
  rw [f7, f8, hw, bear_app, bear_cons, upM_0]
  simp only [List.length_append, List.length_cons]
  split at k4 <;> rename_i hd
  · rw [if_pos hd]; omega
  · rw [if_neg hd]; omega
/-- Nothing is under way: all came. -/
theorem QT.still (q : QT F0 F1 W0 a0 h0 r0 p0 W1 a1 h1 r1 p1 t) (e0 : t.way0 = []) (e1 : t.way1 = []) : r0 = W1 ∧ h1 = W1 ∧ a1 = W1 ∧ r1 = W0 ∧ h0 = W0 ∧ a0 = W0 := by
  have y0 := q.y0
  have y1 := q.y1
  rw [e0] at y0
  rw [e1] at y1
  obtain ⟨k1, k2⟩ := y0
  obtain ⟨k3, k4⟩ := y1
  have := q.s0
  have := q.s1
  omega
/-! ### Turns -/
theorem write0_qt (q : QT F0 F1 W0 W0 W0 r0 p0 W1 a1 h1 r1 p1 t) (hr : r1 ≤ W0) (hp1 : p1 = W0) {d : List Int} (hd : W0 + d.length ≤ 1000) (hn : t.way1.length ≤ 1 ∧ bear t.way1 = 0) :
    ∃ n h2, n = min d.length 256 ∧ QT F0 F1 (W0 + n) W0 h2 r0 p0 W1 a1 h1 r1 p1 (writes t 0 d) ∧ (writes t 0 d).way0 = t.way0 ∧ (writes t 0 d).way1.length + bear (writes t 0 d).way1 + 2 * upM (W0 + n - h2) ≤ 14 ∧ (writes t 0 d).written0 = t.written0 ++ bytesS (d.take n) ∧ (writes t 0 d).written1 = t.written1 := by
  obtain ⟨n, h2, i1, i2, i3, i4, i5, i6, i7, i8⟩ := write_q q.q0 q.s0 d t.now hd
  have e0 : writes t 0 d = sends 0 (write0 t d) (epWrite t.c0 d t.now).2.2.1 := by
    unfold writes
    rw [if_pos rfl, if_neg (by rw [q.i0]; simp)]
  obtain ⟨f1, f2, f3, f4, f5, f6, f7, f8, f9, f10, f11, f12, f13⟩ := sends0_f (write0 t d) (epWrite t.c0 d t.now).2.2.1
  rw [e0]
  have hn' : n = min d.length 256 := by omega
  have hsz : (t.written0 ++ bytesS (d.take (epWrite t.c0 d t.now).2.1.toNat)).size = W0 + n := by
    rw [i2, ByteArray.size_append, bytes_size, q.w0, Int.toNat_natCast, List.length_take]; omega
  refine ⟨n, h2, hn', ⟨by rw [f1]; exact i3, by rw [f2]; exact q.q1, by rw [f8]; exact Flow.app q.y1 i5, by rw [f7]; exact q.y0, by omega, q.b1, i8, q.s1, by rw [f3]; exact q.i0, by rw [f4]; exact q.i1, by rw [f13]; exact q.now, by rw [f9]; exact hsz, by rw [f10]; exact q.w1, by rw [f11]; exact q.d0, by rw [f12]; exact q.d1⟩, by rw [f7]; rfl, ?_, ?_, by rw [f10]; rfl⟩
  · rw [f8]
    show (t.way1 ++ (epWrite t.c0 d t.now).2.2.1).length + bear (t.way1 ++ (epWrite t.c0 d t.now).2.2.1) + 2 * upM (W0 + n - h2) ≤ 14
    rw [List.length_append, bear_app]
    have hb := bear_le (epWrite t.c0 d t.now).2.2.1
    have hW := i3.hW
    by_cases hl : (epWrite t.c0 d t.now).2.2.1 = []
    · rw [hl] at hb ⊢
      simp only [List.length_nil] at hb ⊢
      unfold upM; split <;> omega
    · have := i7 hl
      have hl0 : (epWrite t.c0 d t.now).2.2.1.length ≠ 0 := fun z => hl (List.length_eq_zero_iff.1 z)
      unfold upM; split <;> omega
  · rw [f9]
    show t.written0 ++ bytesS (d.take (epWrite t.c0 d t.now).2.1.toNat) = _
    rw [i2, Int.toNat_natCast]
theorem write1_qt (q : QT F0 F1 W0 a0 h0 r0 p0 W1 W1 W1 r1 p1 t) (hp0 : p0 = W1) {d : List Int} (hd : W1 + d.length ≤ 1000) (hn : t.way0.length ≤ 1 ∧ bear t.way0 = 0) :
    ∃ n h2, n = min d.length 256 ∧ QT F0 F1 W0 a0 h0 r0 p0 (W1 + n) W1 h2 r1 p1 (writes t 1 d) ∧ (writes t 1 d).way1 = t.way1 ∧ (writes t 1 d).way0.length + bear (writes t 1 d).way0 + 2 * upM (W1 + n - h2) ≤ 14 ∧ (writes t 1 d).written1 = t.written1 ++ bytesS (d.take n) ∧ (writes t 1 d).written0 = t.written0 := by
  obtain ⟨n, h2, i1, i2, i3, i4, i5, i6, i7, i8⟩ := write_q q.q1 q.s1 d t.now hd
  have e0 : writes t 1 d = sends 1 (write1 t d) (epWrite t.c1 d t.now).2.2.1 := by
    unfold writes
    rw [if_neg (by decide), if_neg (by rw [q.i1]; simp)]
  obtain ⟨f1, f2, f3, f4, f5, f6, f7, f8, f9, f10, f11, f12, f13⟩ := sends1_f (write1 t d) (epWrite t.c1 d t.now).2.2.1
  rw [e0]
  have hn' : n = min d.length 256 := by omega
  have hsz : (t.written1 ++ bytesS (d.take (epWrite t.c1 d t.now).2.1.toNat)).size = W1 + n := by
    rw [i2, ByteArray.size_append, bytes_size, q.w1, Int.toNat_natCast, List.length_take]; omega
  refine ⟨n, h2, hn', ⟨by rw [f1]; exact q.q0, by rw [f2]; exact i3, by rw [f8]; exact q.y1, by rw [f7]; exact Flow.app q.y0 i5, q.b0, by omega, q.s0, i8, by rw [f3]; exact q.i0, by rw [f4]; exact q.i1, by rw [f13]; exact q.now, by rw [f9]; exact q.w0, by rw [f10]; exact hsz, by rw [f11]; exact q.d0, by rw [f12]; exact q.d1⟩, by rw [f8]; rfl, ?_, ?_, by rw [f9]; rfl⟩
  · rw [f7]
    show (t.way0 ++ (epWrite t.c1 d t.now).2.2.1).length + bear (t.way0 ++ (epWrite t.c1 d t.now).2.2.1) + 2 * upM (W1 + n - h2) ≤ 14
    rw [List.length_append, bear_app]
    have hb := bear_le (epWrite t.c1 d t.now).2.2.1
    have hW := i3.hW
    by_cases hl : (epWrite t.c1 d t.now).2.2.1 = []
    · rw [hl] at hb ⊢
      simp only [List.length_nil] at hb ⊢
      unfold upM; split <;> omega
    · have := i7 hl
      have hl0 : (epWrite t.c1 d t.now).2.2.1.length ≠ 0 := fun z => hl (List.length_eq_zero_iff.1 z)
      unfold upM; split <;> omega
  · rw [f10]
    show t.written1 ++ bytesS (d.take (epWrite t.c1 d t.now).2.1.toNat) = _
    rw [i2, Int.toNat_natCast]
theorem reads0_f (t : Talk) (n : Int) : (reads t 0 n).c0 = (epRead t.c0 n t.now).1 ∧ (reads t 0 n).c1 = t.c1 ∧ (reads t 0 n).is0 = t.is0 ∧ (reads t 0 n).is1 = t.is1 ∧ (reads t 0 n).first1 = t.first1 ∧ (reads t 0 n).way0 = t.way0 ∧ (reads t 0 n).way1 = t.way1 ++ (epRead t.c0 n t.now).2.2.1 ∧ (reads t 0 n).written0 = t.written0 ∧ (reads t 0 n).written1 = t.written1 ∧ (reads t 0 n).read0 = t.read0 ++ bytesS (epRead t.c0 n t.now).2.1 ∧ (reads t 0 n).read1 = t.read1 ∧ (reads t 0 n).now = t.now := by
  rw [reads_0]
  obtain ⟨w, hw⟩ := read0E_f (sends 0 (read0T t n) (epRead t.c0 n t.now).2.2.1)
  obtain ⟨f1, f2, f3, f4, f5, f6, f7, f8, f9, f10, f11, f12, f13⟩ := sends0_f (read0T t n) (epRead t.c0 n t.now).2.2.1
  rw [hw]
  exact ⟨f1, f2, f3, f4, f6, f7, f8, f9, f10, f11, f12, f13⟩
theorem reads1_f (t : Talk) (n : Int) : (reads t 1 n).c0 = t.c0 ∧ (reads t 1 n).c1 = (epRead t.c1 n t.now).1 ∧ (reads t 1 n).is0 = t.is0 ∧ (reads t 1 n).is1 = t.is1 ∧ (reads t 1 n).first1 = t.first1 ∧ (reads t 1 n).way0 = t.way0 ++ (epRead t.c1 n t.now).2.2.1 ∧ (reads t 1 n).way1 = t.way1 ∧ (reads t 1 n).written0 = t.written0 ∧ (reads t 1 n).written1 = t.written1 ∧ (reads t 1 n).read0 = t.read0 ∧ (reads t 1 n).read1 = t.read1 ++ bytesS (epRead t.c1 n t.now).2.1 ∧ (reads t 1 n).now = t.now := by
  rw [reads_1]
  obtain ⟨w, hw⟩ := read1E_f (sends 1 (read1T t n) (epRead t.c1 n t.now).2.2.1)
  obtain ⟨f1, f2, f3, f4, f5, f6, f7, f8, f9, f10, f11, f12, f13⟩ := sends1_f (read1T t n) (epRead t.c1 n t.now).2.2.1
  rw [hw]
  exact ⟨f1, f2, f3, f4, f6, f7, f8, f9, f10, f11, f12, f13⟩
/-- Between two turns. -/
structure Rest (F0 F1 : Int) (W0 W1 : Nat) (t : Talk) : Prop where
  q : QT F0 F1 W0 W0 W0 W1 W1 W1 W1 W1 W0 W0 t
  n0 : t.way0.length ≤ 1 ∧ bear t.way0 = 0
  n1 : t.way1.length ≤ 1 ∧ bear t.way1 = 0
theorem reads_rest (q : QT F0 F1 W0 a0 h0 r0 p0 W1 a1 h1 r1 p1 t) (e0 : t.way0 = []) (e1 : t.way1 = []) : Rest F0 F1 W0 W1 (reads (reads t 0 300) 1 300) := by
  obtain ⟨k1, k2, k3, k4, k5, k6⟩ := q.still e0 e1
  subst k1 k2 k3 k4
  subst k5
  subst k6
  obtain ⟨g1, g2, g3, g4, g5, g6, g7, g8, g9, g10, g11, g12⟩ := reads0_f t 300
  obtain ⟨u1, u2, u3, u4, u5, u6, u7, u8, u9, u10, u11, u12⟩ := reads1_f (reads t 0 300) 300
  obtain ⟨m1, m2, m3, m4, m5⟩ := read_q q.q0 t.now
  obtain ⟨n1, n2, n3, n4, n5⟩ := read_q q.q1 t.now
  rw [g2, g12] at u2 u6 u11
  rw [g6, e0, List.nil_append] at u6
  rw [g7, e1, List.nil_append] at u7
  have hp0 := q.q0.pr
  have hp1 := q.q1.pr
  have hs0 : (reads (reads t 0 300) 1 300).read0.size = a1 := by
    rw [u10, g10, ByteArray.size_append, bytes_size, m2, q.d0]; omega
  have hs1 : (reads (reads t 0 300) 1 300).read1.size = a0 := by
    rw [u11, g11, ByteArray.size_append, bytes_size, n2, q.d1]; omega
  refine ⟨⟨by rw [u1, g1]; exact m1, by rw [u2]; exact n1, by rw [u7]; exact m3, by rw [u6]; exact n3, by omega, by omega, .inl rfl, .inl rfl, by rw [u3, g3]; exact q.i0, by rw [u4, g4]; exact q.i1, by rw [u12, g12]; exact q.now, by rw [u8, g8]; exact q.w0, by rw [u9, g9]; exact q.w1, hs0, hs1⟩, ?_, ?_⟩
  · rw [u6]; exact ⟨n4, n5⟩
  · rw [u7]; exact ⟨m4, m5⟩
end
end Caw

/-! Where nothing is lost: the beginning, the turns. -/
set_option linter.unusedVariables false
namespace Caw
open Go
def syn (f0 : Int) : Seg := ⟨7, 80, f0, 0, 2, 256, 64, []⟩
def synack (f0 f1 : Int) : Seg := ⟨80, 7, f1, seqAdd f0 1, 18, 256, 64, []⟩
def dconn (f0 : Int) (d : List Int) : Conn := ⟨1, addrX, addrY, f0, ⟨seqAdd f0 1, d, 0, false, false, false⟩, ⟨0, [], [], false, 0, false⟩, 0, 64, rtoNew, (epDial addrX addrY f0 0).conn.due, 0, true, seqAdd f0 1, 0, 0, false, 0⟩
def aconn (f0 f1 : Int) : Conn := ⟨2, addrY, addrX, f1, ⟨seqAdd f1 1, [], 0, false, false, false⟩, ⟨seqAdd f0 1, [], [], false, 0, false⟩, 256, 64, rtoNew, (epAnswer addrY addrX (syn f0) f1 0).conn.due, 0, true, seqAdd f1 1, 0, 0, false, 0⟩
theorem dial_c (f0 : Int) : (epDial addrX addrY f0 0).conn = dconn f0 [] := rfl
theorem wrap_facts : IntKind.u16.wrap (IntKind.i64.wrap (256 - ((0 : Nat) : Int))) = 256 ∧ hasF 2 16 = false ∧ hasF 2 2 = true ∧ bOr .u8 2 16 = 18 ∧ hasF 18 16 = true ∧ hasF 18 2 = true ∧ hasF 18 4 = false ∧ IntKind.i64.wrap 256 = 256 ∧ maxI 1 (minI (IntKind.i64.wrap 64) 64) = 64 := by decide
theorem dial_out (f0 : Int) : (epDial addrX addrY f0 0).out = [syn f0] := by
  obtain ⟨e1, e2, e3, e4, e5, e6, e7, e8, e9⟩ := wrap_facts
  show [] ++ [(⟨7, 80, f0, if hasF 2 16 then 0 else 0, 2, IntKind.u16.wrap (IntKind.i64.wrap (256 - ((0 : Nat) : Int))), if hasF 2 2 then 64 else 0, []⟩ : Seg)] = _
  rw [e1, e2, e3]
  rfl
theorem answer_c (f0 f1 : Int) : (epAnswer addrY addrX (syn f0) f1 0).conn = aconn f0 f1 := by
  obtain ⟨e1, e2, e3, e4, e5, e6, e7, e8, e9⟩ := wrap_facts
  show (⟨2, addrY, addrX, f1, ⟨seqAdd f1 1, [], 0, false, false, false⟩, ⟨seqAdd f0 1, [], [], false, 0, false⟩, IntKind.i64.wrap 256, if (64 : Int) = 0 then 64 else maxI 1 (minI (IntKind.i64.wrap 64) 64), rtoNew, (epAnswer addrY addrX (syn f0) f1 0).conn.due, 0, true, seqAdd f1 1, 0, 0, false, 0⟩ : Conn) = _
  rw [e8, if_neg (by decide), e9]
  rfl
theorem answer_out (f0 f1 : Int) : (epAnswer addrY addrX (syn f0) f1 0).out = [synack f0 f1] := by
  obtain ⟨e1, e2, e3, e4, e5, e6, e7, e8, e9⟩ := wrap_facts
  show [] ++ [(⟨80, 7, f1, if hasF (bOr .u8 2 16) 16 then seqAdd f0 1 else 0, bOr .u8 2 16, IntKind.u16.wrap (IntKind.i64.wrap (256 - ((0 : Nat) : Int))), if hasF (bOr .u8 2 16) 2 then 64 else 0, []⟩ : Seg)] = _
  rw [e1, e4, e5, e6]
  rfl
theorem nm_0 (F : Int) : nm F 0 = seqAdd F 1 := num_first (str0 F)
section
variable {F G : Int} {W a h r p : Nat}
theorem measure_q {e : Ep} (s : Int) (hc : QC F G W a h r p e.conn) : QC F G W a h r p (epMeasure e s).conn ∧ (epMeasure e s).out = e.out := by
  obtain ⟨k1, k2, k3, k4, k5, k6, k7, k8, k9, k10, k11, k12, k13, k14, k15⟩ := epMeasure_keeps e s
  exact ⟨hc.other k4 k10 k1 k2 k7 k8 k6, k3⟩
end
/-- The answer comes to the end that dialled. -/
theorem hear_synack (f0 f1 : Int) {d : List Int} (hd : d.length ≤ 256) : ∃ x l, (hear (dconn f0 d) (synack f0 f1) 0).out = x :: l ∧ QC f0 f1 d.length 0 d.length 0 0 (hear (dconn f0 d) (synack f0 f1) 0).conn ∧
    Flow f0 f1 256 (x :: l) 0 d.length 0 0 ∧ x.flags = 16 ∧ x.data = [] ∧ (x :: l).length + bear (x :: l) ≤ 12 := by
  obtain ⟨e1, e2, e3, e4, e5, e6, e7, e8, e9⟩ := wrap_facts
  have hmine : isMine ⟨dconn f0 d, 0, []⟩ (synack f0 f1) = true := by
    unfold isMine
    show (hasF 18 16 && decide (seqAdd f0 1 = seqAdd f0 1)) = true
    rw [e5]; simp
  have hh : hear (dconn f0 d) (synack f0 f1) 0 = epPush (epAck (epOpened (epMeet ⟨dconn f0 d, 0, []⟩ (synack f0 f1)) (synack f0 f1))) := by
    have hp1 : ¬ (dconn f0 d).phase = 0 := by show ¬ (1 : Int) = 0; decide
    have hp2 : (dconn f0 d).phase = 1 := rfl
    unfold hear
    simp only
    rw [if_neg hp1, if_pos hp2]
    unfold epDialling
    rw [hmine]
    have ef : (synack f0 f1).flags = 18 := rfl
    rw [ef, e7, e5, e6]
    simp
  have hq0 : QC f0 f1 d.length 0 0 0 0 ({ epMeet ⟨dconn f0 d, 0, []⟩ (synack f0 f1) with conn := { (epMeet ⟨dconn f0 d, 0, []⟩ (synack f0 f1)).conn with phase := 3, tries := 0, due := 0 } } : Ep).conn := by
    have hwin : (epMeet ⟨dconn f0 d, 0, []⟩ (synack f0 f1)).conn.window = 256 := e8
    have hmss : (epMeet ⟨dconn f0 d, 0, []⟩ (synack f0 f1)).conn.mss = 64 := by
      show (if (64 : Int) = 0 then (64 : Int) else maxI 1 (minI (IntKind.i64.wrap 64) 64)) = 64
      rw [if_neg (by decide), e9]
    refine ⟨rfl, rfl, (nm_0 f0).symm, rfl, Nat.le_refl _, Nat.zero_le _, by omega, rfl, rfl, rfl, rfl, (nm_0 f1).symm, rfl, Nat.le_refl _, by omega, rfl, rfl, rfl, hmss, rfl, ?_, ?_, by omega, by omega⟩
    · show 0 ≤ (epMeet ⟨dconn f0 d, 0, []⟩ (synack f0 f1)).conn.window; rw [hwin]; decide
    · show (epMeet ⟨dconn f0 d, 0, []⟩ (synack f0 f1)).conn.window ≤ 65535; rw [hwin]; decide
  obtain ⟨hq1, ho1⟩ := measure_q (synack f0 f1).ack hq0
  have hop : epOpened (epMeet ⟨dconn f0 d, 0, []⟩ (synack f0 f1)) (synack f0 f1) = epMeasure { epMeet ⟨dconn f0 d, 0, []⟩ (synack f0 f1) with conn := { (epMeet ⟨dconn f0 d, 0, []⟩ (synack f0 f1)).conn with phase := 3, tries := 0, due := 0 } } (synack f0 f1).ack := rfl
  have hwin : (epOpened (epMeet ⟨dconn f0 d, 0, []⟩ (synack f0 f1)) (synack f0 f1)).conn.window = 256 := by
    rw [hop]
    obtain ⟨k1, k2, k3, k4, k5, k6, k7, k8, k9, k10, k11, k12, k13, k14, k15⟩ := epMeasure_keeps { epMeet ⟨dconn f0 d, 0, []⟩ (synack f0 f1) with conn := { (epMeet ⟨dconn f0 d, 0, []⟩ (synack f0 f1)).conn with phase := 3, tries := 0, due := 0 } } (synack f0 f1).ack
    rw [k6]; exact e8
  rw [← hop] at hq1 ho1
  have ho2 : (epOpened (epMeet ⟨dconn f0 d, 0, []⟩ (synack f0 f1)) (synack f0 f1)).out = [] := ho1
  have hfl : ∃ y, (epAck (epOpened (epMeet ⟨dconn f0 d, 0, []⟩ (synack f0 f1)) (synack f0 f1))).out = [y] ∧ y.flags = 16 ∧ y.data = [] := by
    refine ⟨_, by unfold epAck epTell; rw [ho2]; rfl, rfl, rfl⟩
  obtain ⟨y0, y1, y2, y3⟩ := hfl
  obtain ⟨a1, y, a2, a3, a4⟩ := ack_q hq1
  rw [ho2, List.nil_append, y1] at a2
  obtain rfl : y0 = y := by simpa using a2
  obtain ⟨h2, l, i1, i2, i3, i4, i5, i6, i7⟩ := epPush_q (e := epAck (epOpened (epMeet ⟨dconn f0 d, 0, []⟩ (synack f0 f1)) (synack f0 f1))) (by rw [a1]; exact hq1)
  have hh2 : h2 = d.length := by
    rcases i7 with q | ⟨q, -⟩
    · exact q
    · rw [a1, hwin] at q
      have := i1.hW
      omega
  subst hh2
  rw [y1, List.singleton_append] at i2
  rw [hh]
  refine ⟨y0, l, i2, i1, Flow.app a4 i4, y2, y3, ?_⟩
  rw [bear_cons, if_pos y3]
  have := bear_le l
  simp only [List.length_cons]
  by_cases hl : l = []
  · subst hl; simp only [List.length_nil] at this ⊢; omega
  · have := i6 hl
    omega
/-- The acknowledgement comes to the end that answered. -/
theorem hear_ack (f0 f1 : Int) {x : Seg} (x1 : x.flags = 16) (x2 : x.seq = nm f0 0) (x3 : x.ack = nm f1 0) {w : Nat} (x4 : x.wnd = w) (x5 : w ≤ 256) (x6 : x.data = []) :
    QC f1 f0 0 0 0 0 0 (hear (aconn f0 f1) x 0).conn ∧ (hear (aconn f0 f1) x 0).out = [] := by
  have hq0 : QC f1 f0 0 0 0 0 0 ({ (⟨aconn f0 f1, 0, []⟩ : Ep) with conn := { aconn f0 f1 with phase := 3, tries := 0, due := 0 } } : Ep).conn :=
    ⟨rfl, rfl, (nm_0 f1).symm, rfl, Nat.le_refl _, Nat.zero_le _, by omega, rfl, rfl, rfl, rfl, (nm_0 f0).symm, rfl, Nat.le_refl _, by omega, rfl, rfl, rfl, rfl, rfl, by show (0 : Int) ≤ 256; decide, by show (256 : Int) ≤ 65535; decide, by omega, by omega⟩
  obtain ⟨hq1, ho1⟩ := measure_q x.ack hq0
  have hop : epOpened ⟨aconn f0 f1, 0, []⟩ x = epMeasure { (⟨aconn f0 f1, 0, []⟩ : Ep) with conn := { aconn f0 f1 with phase := 3, tries := 0, due := 0 } } x.ack := rfl
  rw [← hop] at hq1 ho1
  have hsl : segLen x = 0 := by unfold segLen; rw [x1, x6, f16_16.2.2.1, f16_16.2.2.2]; rfl
  have hwin : recvWindow (aconn f0 f1).recv = 256 := by show IntKind.i64.wrap (256 - ((0 : Nat) : Int)) = 256; decide
  have hfit : seqFits x.seq (segLen x) (aconn f0 f1).recv.next (recvWindow (aconn f0 f1).recv) = true := by
    rw [x2, hsl, hwin]
    show seqFits (nm f0 0) 0 (seqAdd f0 1) 256 = true
    rw [← nm_0]
    exact fits_q (by decide) (by decide) (by decide) (by decide)
  have e : hear (aconn f0 f1) x 0 = takesB (epOpened ⟨aconn f0 f1, 0, []⟩ x) x := by
    have hp0 : ¬ (aconn f0 f1).phase = 0 := by show ¬ (2 : Int) = 0; decide
    have hp1 : ¬ (aconn f0 f1).phase = 1 := by show ¬ (2 : Int) = 1; decide
    have hp2 : (⟨aconn f0 f1, 0, []⟩ : Ep).conn.phase = 2 := rfl
    unfold hear
    simp only
    rw [if_neg hp0, if_neg hp1, x1, f16_16.2.1, f16_16.2.2.1, hfit, f16_16.1]
    simp only [Bool.false_eq_true, if_false, Bool.true_eq_false, if_true]
    unfold takes
    have h0 : tk0 ⟨aconn f0 f1, 0, []⟩ x = epOpened ⟨aconn f0 f1, 0, []⟩ x := by unfold tk0; rw [if_pos hp2]
    rw [if_neg (fun q => q.2 (by rw [x3, nm_0]; rfl)), h0]
  rw [e]
  obtain ⟨k1, k2, k3, k4⟩ := takesB_q hq1 ho1 (.inl x1) x2 x3 x4 x5 (Nat.le_refl _) (Nat.le_refl _) (Nat.zero_le _) (by rw [x6]; simp) (by rw [x6]; simp)
  rw [x6] at k1 k4
  refine ⟨k1, ?_⟩
  rw [if_pos rfl] at k4
  have h0 : (takesB (epOpened ⟨aconn f0 f1, 0, []⟩ x) x).out.length = 0 := by
    unfold upM at k4
    simp at k4
    simpa using k4.1
  exact List.length_eq_zero_iff.1 h0
/-! ### Stages -/
structure S1 (f0 f1 : Int) (d : List Int) (t : Talk) : Prop where
  c0 : t.c0 = dconn f0 d
  dl : d.length ≤ 256
  i0 : t.is0 = true
  i1 : t.is1 = false
  f1 : t.first1 = f1
  y0 : t.way0 = []
  y1 : t.way1 = [syn f0]
  now : t.now = 0
  w0 : t.written0.size = d.length
  w1 : t.written1.size = 0
  d0 : t.read0.size = 0
  d1 : t.read1.size = 0
structure S2 (f0 f1 : Int) (d : List Int) (t : Talk) : Prop where
  c0 : t.c0 = dconn f0 d
  dl : d.length ≤ 256
  c1 : t.c1 = aconn f0 f1
  i0 : t.is0 = true
  i1 : t.is1 = true
  y0 : t.way0 = [synack f0 f1]
  y1 : t.way1 = []
  now : t.now = 0
  w0 : t.written0.size = d.length
  w1 : t.written1.size = 0
  d0 : t.read0.size = 0
  d1 : t.read1.size = 0
structure S3 (f0 f1 : Int) (W : Nat) (t : Talk) : Prop where
  q0 : QC f0 f1 W 0 W 0 0 t.c0
  dl : W ≤ 256
  c1 : t.c1 = aconn f0 f1
  i0 : t.is0 = true
  i1 : t.is1 = true
  y0 : t.way0 = []
  y1 : ∃ x l, t.way1 = x :: l ∧ Flow f0 f1 256 (x :: l) 0 W 0 0 ∧ x.flags = 16 ∧ x.data = [] ∧ (x :: l).length + bear (x :: l) ≤ 12
  now : t.now = 0
  w0 : t.written0.size = W
  w1 : t.written1.size = 0
  d0 : t.read0.size = 0
  d1 : t.read1.size = 0
def idle (n : Nat) (t : Talk) : Nat := if n % 2 = 0 then (if t.way0 = [] then 1 else 0) else (if t.way1 = [] then 1 else 0)
theorem idle_le (n : Nat) (t : Talk) : idle n t ≤ 1 := by unfold idle; (repeat' split) <;> omega
def Stage (f0 f1 : Int) (n r0 r1 : Nat) (t : Talk) : Prop :=
  (n ≤ 1 ∧ r0 = 0 ∧ r1 = 0 ∧ ∃ d, S1 f0 f1 d t) ∨ (n = 2 ∧ r0 = 0 ∧ r1 = 0 ∧ ∃ d, S2 f0 f1 d t) ∨ (n = 3 ∧ r0 = 0 ∧ r1 = 0 ∧ ∃ W, S3 f0 f1 W t) ∨
  (∃ W0 a0 h0 p0 W1 a1 h1 p1, QT f0 f1 W0 a0 h0 r0 p0 W1 a1 h1 r1 p1 t ∧ n + 2 * pot t (W0 - h0) (W1 - h1) + idle n t ≤ 70)
section
variable {f0 f1 : Int} {n r0 r1 : Nat} {t : Talk}
theorem Stage.le (h : Stage f0 f1 n r0 r1 t) : n ≤ 70 := by
  rcases h with h | h | h | ⟨W0, a0, h0, p0, W1, a1, h1, p1, q, hp⟩ <;> omega
theorem Stage.tight (h : Stage f0 f1 n r0 r1 t) : t.now = 0 ∧ t.way0.length ≤ 100 ∧ t.way1.length ≤ 100 ∧ (t.written0.size ≤ 1000 ∧ t.written1.size ≤ 1000) ∧ (t.read0.size ≤ 1000 ∧ t.read1.size ≤ 1000) := by
  rcases h with ⟨-, -, -, d, q⟩ | ⟨-, -, -, d, q⟩ | ⟨-, -, -, W, q⟩ | ⟨W0, a0, h0, p0, W1, a1, h1, p1, q, hp⟩
  · have := q.dl
    exact ⟨q.now, by rw [q.y0]; simp, by rw [q.y1]; simp, ⟨by rw [q.w0]; omega, by rw [q.w1]; omega⟩, by rw [q.d0]; omega, by rw [q.d1]; omega⟩
  · have := q.dl
    exact ⟨q.now, by rw [q.y0]; simp, by rw [q.y1]; simp, ⟨by rw [q.w0]; omega, by rw [q.w1]; omega⟩, by rw [q.d0]; omega, by rw [q.d1]; omega⟩
  · have := q.dl
    obtain ⟨x, l, e, -, -, -, hl⟩ := q.y1
    exact ⟨q.now, by rw [q.y0]; simp, by rw [e]; omega, ⟨by rw [q.w0]; omega, by rw [q.w1]; omega⟩, by rw [q.d0]; omega, by rw [q.d1]; omega⟩
  · unfold pot at hp
    have e1 := q.q0.bW
    have e2 := q.q1.bW
    have e3 := q.q0.br
    have e4 := q.q1.br
    have e5 := q.q0.pr
    have e6 := q.q1.pr
    exact ⟨q.now, by omega, by omega, ⟨by rw [q.w0]; omega, by rw [q.w1]; omega⟩, by rw [q.d0]; omega, by rw [q.d1]; omega⟩
theorem Stage.i0 (h : Stage f0 f1 n r0 r1 t) : t.is0 = true := by
  rcases h with ⟨-, -, -, d, q⟩ | ⟨-, -, -, d, q⟩ | ⟨-, -, -, W, q⟩ | ⟨W0, a0, h0, p0, W1, a1, h1, p1, q, hp⟩ <;> exact q.i0
theorem stage_skip0 (h : Stage f0 f1 n r0 r1 t) (hn : n % 2 = 0) (h0 : t.way0 = []) (h1 : t.way1 ≠ []) : Stage f0 f1 (n + 1) r0 r1 t := by
  rcases h with ⟨k, e1, e2, d, q⟩ | ⟨k, e1, e2, d, q⟩ | ⟨k, e1, e2, W, q⟩ | ⟨W0, a0, h0', p0, W1, a1, h1', p1, q, hp⟩
  · exact .inl ⟨by omega, e1, e2, d, q⟩
  · rw [q.y0] at h0; cases h0
  · omega
  · refine .inr (.inr (.inr ⟨W0, a0, h0', p0, W1, a1, h1', p1, q, ?_⟩))
    unfold idle at hp ⊢
    rw [if_pos hn, if_pos h0] at hp
    rw [if_neg (by omega), if_neg h1]
    omega
theorem stage_skip1 (h : Stage f0 f1 n r0 r1 t) (hn : n % 2 = 1) (h0 : t.way1 = []) (h1 : t.way0 ≠ []) : Stage f0 f1 (n + 1) r0 r1 t := by
  rcases h with ⟨k, e1, e2, d, q⟩ | ⟨k, e1, e2, d, q⟩ | ⟨k, e1, e2, W, q⟩ | ⟨W0, a0, h0', p0, W1, a1, h1', p1, q, hp⟩
  · rw [q.y1] at h0; cases h0
  · omega
  · obtain ⟨x, l, e, -⟩ := q.y1
    rw [e] at h0; cases h0
  · refine .inr (.inr (.inr ⟨W0, a0, h0', p0, W1, a1, h1', p1, q, ?_⟩))
    unfold idle at hp ⊢
    rw [if_neg (by omega), if_pos h0] at hp
    rw [if_pos (by omega), if_neg h1]
    omega
theorem stage_come0 (h : Stage f0 f1 n r0 r1 t) (hn : n % 2 = 0) {x : Seg} {l : List Seg} (hw : t.way0 = x :: l) : Stage f0 f1 (n + 1) (r0 + x.data.length) r1 (comes { t with way0 := l } 0 x) := by
  rcases h with ⟨k, e1, e2, d, q⟩ | ⟨k, e1, e2, d, q⟩ | ⟨k, e1, e2, W, q⟩ | ⟨W0, a0, h0', p0, W1, a1, h1', p1, q, hp⟩
  · rw [q.y0] at hw; cases hw
  · rw [q.y0] at hw
    cases hw
    obtain ⟨x, l, i1, i2, i3, i4, i5, i6⟩ := hear_synack f0 f1 q.dl
    rw [comes_0]
    obtain ⟨g1, g2, g3, g4, g5, g6, g7, g8, g9, g10, g11, g12, g13⟩ := sends0_f { { t with way0 := [] } with c0 := (hear t.c0 (synack f0 f1) t.now).conn } (hear t.c0 (synack f0 f1) t.now).out
    rw [q.c0, q.now] at g1 g8 g2 g3 g4 g7 g9 g10 g11 g12 g13 ⊢
    refine .inr (.inr (.inl ⟨by omega, by rw [e1]; rfl, e2, d.length, ⟨by rw [g1]; exact i2, q.dl, by rw [g2]; exact q.c1, by rw [g3]; exact q.i0, by rw [g4]; exact q.i1, by rw [g7], ⟨x, l, by rw [g8, i1, q.y1]; rfl, i3, i4, i5, i6⟩, by rw [g13], by rw [g9]; exact q.w0, by rw [g10]; exact q.w1, by rw [g11]; exact q.d0, by rw [g12]; exact q.d1⟩⟩))
  · omega
  · obtain ⟨m, q2, hp2⟩ := come0 q hw
    refine .inr (.inr (.inr ⟨W0, m, W0, p0, W1, a1, h1', p1, q2, ?_⟩))
    rw [Nat.sub_self]
    have := idle_le (n + 1) (comes { t with way0 := l } 0 x)
    omega
theorem stage_come1 (h : Stage f0 f1 n r0 r1 t) (hn : n % 2 = 1) {x : Seg} {l : List Seg} (hw : t.way1 = x :: l) : Stage f0 f1 (n + 1) r0 (r1 + x.data.length) (comes { t with way1 := l } 1 x) := by
  rcases h with ⟨k, e1, e2, d, q⟩ | ⟨k, e1, e2, d, q⟩ | ⟨k, e1, e2, W, q⟩ | ⟨W0, a0, h0', p0, W1, a1, h1', p1, q, hp⟩
  · rw [q.y1] at hw
    cases hw
    have ec : comes { t with way1 := [] } 1 (syn f0) = sends 1 { { t with way1 := [] } with c1 := (epAnswer addrY addrX (syn f0) t.first1 t.now).conn, is1 := true } (epAnswer addrY addrX (syn f0) t.first1 t.now).out := by
      rw [comes_2 { t with way1 := [] } _ q.i1, if_pos (show (syn f0).flags = 2 from rfl)]
    rw [ec]
    obtain ⟨g1, g2, g3, g4, g5, g6, g7, g8, g9, g10, g11, g12, g13⟩ := sends1_f { { t with way1 := [] } with c1 := (epAnswer addrY addrX (syn f0) t.first1 t.now).conn, is1 := true } (epAnswer addrY addrX (syn f0) t.first1 t.now).out
    rw [q.f1, q.now] at g1 g8 g2 g3 g4 g7 g9 g10 g11 g12 g13 ⊢
    refine .inr (.inl ⟨by omega, e1, by rw [e2]; rfl, d, ⟨by rw [g1]; exact q.c0, q.dl, by rw [g2]; exact answer_c f0 f1, by rw [g3]; exact q.i0, by rw [g4], by rw [g7, answer_out]; show t.way0 ++ _ = _; rw [q.y0]; rfl, by rw [g8], by rw [g13], by rw [g9]; exact q.w0, by rw [g10]; exact q.w1, by rw [g11]; exact q.d0, by rw [g12]; exact q.d1⟩⟩)
  · omega
  · obtain ⟨y, l2, e, hf, hy1, hy2, hy3⟩ := q.y1
    rw [e] at hw
    cases hw
    have hf0 := hf
    obtain ⟨x2, x1, x3, m, w, x4, x5, x6, x7, x8, x9, hl⟩ := hf
    have hm : m = 0 := by omega
    subst hm
    obtain ⟨k1, k2⟩ := hear_ack f0 f1 hy1 x2 x4 x5 x6 hy2
    rw [comes_1 { t with way1 := l } x q.i1]
    obtain ⟨g1, g2, g3, g4, g5, g6, g7, g8, g9, g10, g11, g12, g13⟩ := sends1_f { { t with way1 := l } with c1 := (hear t.c1 x t.now).conn } (hear t.c1 x t.now).out
    rw [q.c1, q.now] at g1 g8 g2 g3 g4 g7 g9 g10 g11 g12 g13 ⊢
    rw [hy2] at hl
    refine .inr (.inr (.inr ⟨W, 0, W, 0, 0, 0, 0, 0, ⟨by rw [g1]; rw [e1]; exact q.q0, by rw [g2, e2, hy2]; exact k1, by rw [g8, e1, e2, hy2]; exact hl, ?_, by have := q.dl; omega, by omega, .inl rfl, .inl rfl, by rw [g3]; exact q.i0, by rw [g4]; exact q.i1, by rw [g13], by rw [g9]; exact q.w0, by rw [g10]; exact q.w1, by rw [g11]; exact q.d0, by rw [g12]; exact q.d1⟩, ?_⟩))
    · rw [g7, k2, List.append_nil, e1, e2, hy2]
      show Flow f1 f0 256 t.way0 0 0 0 0
      rw [q.y0]; exact ⟨rfl, rfl⟩
    · refine Nat.le_trans (Nat.add_le_add_left (idle_le _ _) _) ?_
      unfold pot
      rw [g7, g8, k2, List.append_nil, Nat.sub_self, Nat.sub_self, upM_0]
      show n + 1 + 2 * (t.way0.length + bear t.way0 + (l.length + bear l) + 2 * 0 + 2 * 0) + 1 ≤ 70
      rw [q.y0]
      rw [bear_cons, if_pos hy2] at hy3
      simp only [List.length_cons] at hy3
      have hb0 : bear [] = 0 := rfl
      simp only [List.length_nil, hb0]
      omega
  · obtain ⟨m, q2, hp2⟩ := come1 q hw
    refine .inr (.inr (.inr ⟨W0, a0, h0', p0, W1, m, W1, p1, q2, ?_⟩))
    rw [Nat.sub_self]
    have := idle_le (n + 1) (comes { t with way1 := l } 1 x)
    omega
end
end Caw

/-! Where nothing is lost: turn by turn. -/
set_option linter.unusedVariables false
namespace Caw
open Go
/-- A talk that is right, and small. -/
structure Run (t : Talk) : Prop where
  ok : TalkOk 2 t
  tr : TrueT t
  u1 : U32 t.first1
theorem tight {k : Nat} {t : Talk} (h : TalkOk k t) (n0 : t.now = 0) (l0 : t.way0.length ≤ 100) (l1 : t.way1.length ≤ 100) (sw : t.written0.size ≤ 1000 ∧ t.written1.size ≤ 1000) (sr : t.read0.size ≤ 1000 ∧ t.read1.size ≤ 1000) : TalkOk 2 t :=
  ⟨h.i0, h.c0, h.c1, h.z1, h.t0, by omega, h.w0, h.w1, by omega, by omega, ⟨by omega, by omega⟩, by omega, by omega⟩
theorem Run.of {f0 f1 : Int} {n r0 r1 k : Nat} {t : Talk} (hs : Stage f0 f1 n r0 r1 t) (h : TalkOk k t) (ht : TrueT t) (hu : U32 t.first1) : Run t := by
  obtain ⟨a, b, c, d, e⟩ := hs.tight
  exact ⟨tight h a b c d e, ht, hu⟩
theorem comes_first0 (t : Talk) (x : Seg) : (comes t 0 x).first1 = t.first1 ∧ (comes t 0 x).written0 = t.written0 ∧ (comes t 0 x).written1 = t.written1 := by
  rw [comes_0]
  obtain ⟨g1, g2, g3, g4, g5, g6, g7, g8, g9, g10, g11, g12, g13⟩ := sends0_f { t with c0 := (hear t.c0 x t.now).conn } (hear t.c0 x t.now).out
  exact ⟨g6, g9, g10⟩
theorem comes_first1 (t : Talk) (x : Seg) : (comes t 1 x).first1 = t.first1 ∧ (comes t 1 x).written0 = t.written0 ∧ (comes t 1 x).written1 = t.written1 := by
  cases hi : t.is1 with
  | true =>
    rw [comes_1 t x hi]
    obtain ⟨g1, g2, g3, g4, g5, g6, g7, g8, g9, g10, g11, g12, g13⟩ := sends1_f { t with c1 := (hear t.c1 x t.now).conn } (hear t.c1 x t.now).out
    exact ⟨g6, g9, g10⟩
  | false =>
    rw [comes_2 t x hi]
    split
    · obtain ⟨g1, g2, g3, g4, g5, g6, g7, g8, g9, g10, g11, g12, g13⟩ := sends1_f { t with c1 := (epAnswer addrY addrX x t.first1 t.now).conn, is1 := true } (epAnswer addrY addrX x t.first1 t.now).out
      exact ⟨g6, g9, g10⟩
    · exact ⟨rfl, rfl, rfl⟩
section
variable {f0 f1 : Int} {n r0 r1 : Nat} {t : Talk}
theorem run_come0 (h : Run t) {x : Seg} {l : List Seg} (hw : t.way0 = x :: l) {m s0 s1 : Nat} (hs : Stage f0 f1 m s0 s1 (comes { t with way0 := l } 0 x)) : comesPre { t with way0 := l } 0 x ∧ Run (comes { t with way0 := l } 0 x) := by
  have hl : without t.way0 0 = l := by rw [hw]; rfl
  have hx : x ∈ t.way0 := by rw [hw]; exact List.mem_cons_self
  have hll : l.length ≤ 1200 := by have := h.ok.l0; rw [hw] at this; simp only [List.length_cons] at this; omega
  have hok : TalkOk 2 { t with way0 := l } := ⟨h.ok.i0, h.ok.c0, h.ok.c1, h.ok.z1, h.ok.t0, h.ok.t1, fun y hy => h.ok.w0 y (by rw [hw]; exact List.mem_cons_of_mem _ hy), h.ok.w1, by simp only; omega, h.ok.l1, h.ok.sz⟩
  obtain ⟨p, k⟩ := comes_ok (k := 2) (by omega) hok (h.ok.w0 x hx) (.inl rfl)
  obtain ⟨a0, a1, hin⟩ := h.tr
  have hin2 : TalkIn { t with way0 := l } a0 a1 := by have := drop0 hin 0; rw [hl] at this; exact this
  have ht := comes_in (k := 2) (by omega) hok (h.ok.w0 x hx) ⟨a0, a1, hin2, .inl ⟨rfl, hin.g0 x hx⟩⟩ h.u1
  exact ⟨p, Run.of hs k ht (by rw [(comes_first0 _ _).1]; exact h.u1)⟩
theorem run_come1 (h : Run t) {x : Seg} {l : List Seg} (hw : t.way1 = x :: l) {m s0 s1 : Nat} (hs : Stage f0 f1 m s0 s1 (comes { t with way1 := l } 1 x)) : comesPre { t with way1 := l } 1 x ∧ Run (comes { t with way1 := l } 1 x) := by
  have hl : without t.way1 0 = l := by rw [hw]; rfl
  have hx : x ∈ t.way1 := by rw [hw]; exact List.mem_cons_self
  have hll : l.length ≤ 1200 := by have := h.ok.l1; rw [hw] at this; simp only [List.length_cons] at this; omega
  have hok : TalkOk 2 { t with way1 := l } := ⟨h.ok.i0, h.ok.c0, h.ok.c1, h.ok.z1, h.ok.t0, h.ok.t1, h.ok.w0, fun y hy => h.ok.w1 y (by rw [hw]; exact List.mem_cons_of_mem _ hy), h.ok.l0, by simp only; omega, h.ok.sz⟩
  obtain ⟨p, k⟩ := comes_ok (k := 2) (by omega) hok (h.ok.w1 x hx) (.inr rfl)
  obtain ⟨a0, a1, hin⟩ := h.tr
  have hin2 : TalkIn { t with way1 := l } a0 a1 := by have := drop1 hin 0; rw [hl] at this; exact this
  have ht := comes_in (k := 2) (by omega) hok (h.ok.w1 x hx) ⟨a0, a1, hin2, .inr ⟨rfl, hin.g1 x hx⟩⟩ h.u1
  exact ⟨p, Run.of hs k ht (by rw [(comes_first1 _ _).1]; exact h.u1)⟩
end
theorem bytesS_take (T : List Int) (W n : Nat) : bytesS (T.take W) ++ bytesS ((T.drop W).take n) = bytesS (T.take (W + n)) := by
  apply bl_inj
  rw [bl_append, bl_bytes, bl_bytes, bl_bytes, List.take_add]
  exact List.map_append.symm
/-- What was written is the texts' beginnings. -/
structure Wr (T0 T1 : List Int) (t : Talk) : Prop where
  e0 : t.written0 = bytesS (T0.take t.written0.size)
  l0 : t.written0.size ≤ T0.length
  e1 : t.written1 = bytesS (T1.take t.written1.size)
  l1 : t.written1.size ≤ T1.length
def Turn (f0 f1 : Int) (T0 T1 : List Int) (j s0 s1 : Nat) (t : Talk) : Prop :=
  (j = 0 ∧ s0 = 0 ∧ s1 = 0 ∧ U32 f0 ∧ U32 f1 ∧ t = begins f0 f1) ∨
  (1 ≤ j ∧ ∃ W0 W1, Rest f0 f1 W0 W1 t ∧ Run t ∧ Wr T0 T1 t ∧ s0 = W0 ∧ s1 = W1 ∧ min T0.length (256 * j) ≤ W0 ∧ min T1.length (256 * (j - 1)) ≤ W1)
theorem begins_f (f0 f1 : Int) : (begins f0 f1).c0 = dconn f0 [] ∧ (begins f0 f1).is0 = true ∧ (begins f0 f1).is1 = false ∧ (begins f0 f1).first1 = f1 ∧ (begins f0 f1).way0 = [] ∧ (begins f0 f1).way1 = [syn f0] ∧ (begins f0 f1).now = 0 ∧
    (begins f0 f1).written0 = ⟨#[]⟩ ∧ (begins f0 f1).written1 = ⟨#[]⟩ ∧ (begins f0 f1).read0 = ⟨#[]⟩ ∧ (begins f0 f1).read1 = ⟨#[]⟩ := by
  unfold begins
  obtain ⟨g1, g2, g3, g4, g5, g6, g7, g8, g9, g10, g11, g12, g13⟩ := sends0_f { talk0 f0 f1 with c0 := (epDial addrX addrY f0 0).conn, is0 := true } (epDial addrX addrY f0 0).out
  exact ⟨g1, g3, g4, g6, g7, by rw [g8, dial_out]; rfl, g13, g9, g10, g11, g12⟩
theorem write_dial (f0 : Int) (d : List Int) : epWrite (dconn f0 []) d 0 = (dconn f0 (d.take (min d.length 256)), ((min d.length 256 : Nat) : Int), [], 0) := by
  have hroom : sendRoom (dconn f0 []).send = 256 := by
    show IntKind.i64.wrap (256 - ((0 : Nat) : Int)) = 256
    decide
  have hp : (dconn f0 []).phase = 1 := rfl
  have hf : (dconn f0 []).send.fin = false := rfl
  unfold epWrite
  rw [if_neg (by rw [hp]; simp), if_neg (by rw [hp, hf]; simp), hroom, if_neg (by simp)]
  have hn : (sendWrite (dconn f0 []).send d).2 = ((min d.length 256 : Nat) : Int) := by
    unfold sendWrite
    simp only
    rw [hroom]; unfold minI; split <;> omega
  have hs : (sendWrite (dconn f0 []).send d).1 = (dconn f0 (d.take (min d.length 256))).send := by
    have h1 : (sendWrite (dconn f0 []).send d).1 = { (dconn f0 []).send with data := (dconn f0 []).send.data ++ d.take ((sendWrite (dconn f0 []).send d).2).toNat } := rfl
    rw [h1, hn, Int.toNat_natCast]
    rfl
  have hpp : ∀ e : Ep, e.conn.phase = 1 → epPush e = e := fun e he => push_else (by omega)
  simp only [hn, hs]
  rw [hpp _ rfl]
  rfl
theorem size_0 : (⟨#[]⟩ : ByteArray).size = 0 := rfl
theorem bytesS_0 : bytesS [] = ⟨#[]⟩ := rfl
section
variable {f0 f1 : Int} {T0 T1 : List Int} {j s0 s1 : Nat} {t : Talk}
theorem writes_none1 (t : Talk) (d : List Int) (hi : t.is1 = false) : writes t 1 d = t := by
  unfold writes
  rw [if_neg (by decide), if_pos hi]
theorem writes_first0 (t : Talk) (d : List Int) : (writes t 0 d).first1 = t.first1 := by
  unfold writes
  rw [if_pos rfl]
  split
  · rfl
  · obtain ⟨g1, g2, g3, g4, g5, g6, g7, g8, g9, g10, g11, g12, g13⟩ := sends0_f (write0 t d) (epWrite t.c0 d t.now).2.2.1
    exact g6
theorem writes_first1 (t : Talk) (d : List Int) : (writes t 1 d).first1 = t.first1 := by
  unfold writes
  rw [if_neg (by decide)]
  split
  · rfl
  · obtain ⟨g1, g2, g3, g4, g5, g6, g7, g8, g9, g10, g11, g12, g13⟩ := sends1_f (write1 t d) (epWrite t.c1 d t.now).2.2.1
    exact g6
/-- A turn begins: both sides write. -/
theorem turn_write (hT0 : T0.length ≤ 600) (hT1 : T1.length ≤ 600) (h : Turn f0 f1 T0 T1 j s0 s1 t) :
    t.written0.size ≤ T0.length ∧ writesPre t 0 (T0.drop t.written0.size) ∧
    (writes t 0 (T0.drop t.written0.size)).written1.size ≤ T1.length ∧ writesPre (writes t 0 (T0.drop t.written0.size)) 1 (T1.drop (writes t 0 (T0.drop t.written0.size)).written1.size) ∧
    ∃ u, writes (writes t 0 (T0.drop t.written0.size)) 1 (T1.drop (writes t 0 (T0.drop t.written0.size)).written1.size) = u ∧ Run u ∧ Stage f0 f1 0 s1 s0 u ∧ Wr T0 T1 u ∧ min T0.length (256 * (j + 1)) ≤ u.written0.size ∧ min T1.length (256 * j) ≤ u.written1.size := by
  rcases h with ⟨rfl, rfl, rfl, u0, u1, rfl⟩ | ⟨hj, W0, W1, hR, hrun, hwr, rfl, rfl, hm0, hm1⟩
  · obtain ⟨b1, b2, b3, b4, b5, b6, b7, b8, b9, b10, b11⟩ := begins_f f0 f1
    have hok := (begins_ok f0 f1).2
    rw [b8, size_0, List.drop_zero]
    obtain ⟨p0, k0⟩ := writes_ok (side := 0) (d := T0) (by omega) hok (by omega) (.inl rfl)
    have ht0 := writes_in (side := 0) (d := T0) (k := 1) (by omega) hok (.inl rfl) (begins_told u0 u1)
    have e0 : writes (begins f0 f1) 0 T0 = sends 0 (write0 (begins f0 f1) T0) (epWrite (begins f0 f1).c0 T0 (begins f0 f1).now).2.2.1 := by
      unfold writes
      rw [if_pos rfl, if_neg (by rw [b2]; simp)]
    obtain ⟨g1, g2, g3, g4, g5, g6, g7, g8, g9, g10, g11, g12, g13⟩ := sends0_f (write0 (begins f0 f1) T0) (epWrite (begins f0 f1).c0 T0 (begins f0 f1).now).2.2.1
    rw [← e0] at g1 g2 g3 g4 g5 g6 g7 g8 g9 g10 g11 g12 g13
    have hw := write_dial f0 T0
    have hsz : (writes (begins f0 f1) 0 T0).written0 = bytesS (T0.take (min T0.length 256)) := by
      rw [g9]
      show (begins f0 f1).written0 ++ bytesS (T0.take (epWrite (begins f0 f1).c0 T0 (begins f0 f1).now).2.1.toNat) = _
      rw [b1, b7, hw, b8, Int.toNat_natCast, ← bytesS_0]
      have := bytesS_take T0 0 (min T0.length 256)
      rw [List.drop_zero, Nat.zero_add, List.take_zero] at this
      exact this
    have hs1 : (writes (begins f0 f1) 0 T0).written1 = ⟨#[]⟩ := by rw [g10]; exact b9
    rw [hs1, size_0, List.drop_zero]
    obtain ⟨p1, k1⟩ := writes_ok (side := 1) (d := T1) (by omega) k0 (by omega) (.inr rfl)
    have ht1 := writes_in (side := 1) (d := T1) (by omega) k0 (.inr rfl) ht0
    have hi1 : (writes (begins f0 f1) 0 T0).is1 = false := by rw [g4]; exact b3
    have e1 : writes (writes (begins f0 f1) 0 T0) 1 T1 = writes (begins f0 f1) 0 T0 := by
      exact writes_none1 _ _ hi1
    rw [e1] at k1 ht1
    have hlen : (writes (begins f0 f1) 0 T0).written0.size = min T0.length 256 := by rw [hsz, bytes_size, List.length_take]; omega
    have hS : S1 f0 f1 (T0.take (min T0.length 256)) (writes (begins f0 f1) 0 T0) := by
      refine ⟨?_, by rw [List.length_take]; omega, by rw [g3]; exact b2, hi1, by rw [g6]; exact b4, by rw [g7]; exact b5, ?_, by rw [g13]; exact b7, by rw [hlen, List.length_take]; omega, by rw [hs1]; rfl, by rw [g11]; show (begins f0 f1).read0.size = 0; rw [b10]; rfl, by rw [g12]; show (begins f0 f1).read1.size = 0; rw [b11]; rfl⟩
      · rw [g1]
        show (epWrite (begins f0 f1).c0 T0 (begins f0 f1).now).1 = _
        rw [b1, b7, hw]
      · rw [g8]
        show (begins f0 f1).way1 ++ _ = _
        rw [b1, b7, hw, b6]; rfl
    have hst : Stage f0 f1 0 0 0 (writes (begins f0 f1) 0 T0) := .inl ⟨by omega, rfl, rfl, _, hS⟩
    refine ⟨Nat.zero_le _, p0, Nat.zero_le _, p1, _, e1, Run.of hst k1 ht1 (by rw [g6]; show U32 (begins f0 f1).first1; rw [b4]; exact u1), hst, ⟨by rw [hlen]; exact hsz, by rw [hlen]; omega, by rw [hs1]; rfl, by rw [hs1, size_0]; omega⟩, by rw [hlen]; omega, by omega⟩
  · have hq := hR.q
    have hw0 := hq.w0
    have hw1 := hq.w1
    have b0 := hwr.l0
    have b1 := hwr.l1
    obtain ⟨p0, k0⟩ := writes_ok (side := 0) (d := T0.drop t.written0.size) (by omega) hrun.ok (by rw [List.length_drop]; omega) (.inl rfl)
    have ht0 := writes_in (side := 0) (d := T0.drop t.written0.size) (by omega) hrun.ok (.inl rfl) hrun.tr
    obtain ⟨n0, h2, i1, i2, i3, i4, i5, i6⟩ := write0_qt hq (Nat.le_refl _) rfl (d := T0.drop t.written0.size) (by rw [List.length_drop, hw0]; omega) hR.n1
    have hw1' : (writes t 0 (T0.drop t.written0.size)).written1.size = s1 := by rw [i6]; exact hw1
    obtain ⟨p1, k1⟩ := writes_ok (side := 1) (d := T1.drop (writes t 0 (T0.drop t.written0.size)).written1.size) (by omega) k0 (by rw [List.length_drop]; omega) (.inr rfl)
    have ht1 := writes_in (side := 1) (d := T1.drop (writes t 0 (T0.drop t.written0.size)).written1.size) (by omega) k0 (.inr rfl) ht0
    obtain ⟨n1, h3, j1, j2, j3, j4, j5, j6⟩ := write1_qt i2 rfl (d := T1.drop (writes t 0 (T0.drop t.written0.size)).written1.size) (by rw [List.length_drop, hw1']; omega) (by rw [i3]; exact hR.n0)
    rw [List.length_drop, hw0] at i1
    rw [List.length_drop, hw1'] at j1
    generalize hu : writes (writes t 0 (T0.drop t.written0.size)) 1 (T1.drop (writes t 0 (T0.drop t.written0.size)).written1.size) = u at *
    have hst : Stage f0 f1 0 s1 s0 u := by
      refine .inr (.inr (.inr ⟨s0 + n0, s0, h2, s1, s1 + n1, s1, h3, s0, j2, ?_⟩))
      have hid := idle_le 0 u
      unfold pot
      rw [j3]
      omega
    have hf : u.first1 = t.first1 := by rw [← hu, writes_first1, writes_first0]
    have z0 : u.written0.size = s0 + n0 := j2.w0
    have z1 : u.written1.size = s1 + n1 := j2.w1
    have g0 : u.written0 = bytesS (T0.take u.written0.size) := by
      rw [z0, j6, i5, ← bytesS_take T0 s0 n0]
      have := hwr.e0
      rw [hw0] at this
      rw [this, ← this, hw0]
    have g1 : u.written1 = bytesS (T1.take u.written1.size) := by
      rw [z1, j5, i6, hw1, ← bytesS_take T1 s1 n1]
      have := hwr.e1
      rw [hw1] at this
      rw [← this]
    exact ⟨by omega, p0, by omega, p1, u, rfl, Run.of hst k1 ht1 (by rw [hf]; exact hrun.u1), hst, ⟨g0, by omega, g1, by omega⟩, by omega, by omega⟩
/-- A turn ends: both sides read. -/
theorem turn_read {n r0 r1 : Nat} (hst : Stage f0 f1 n r0 r1 t) (hrun : Run t) (hwr : Wr T0 T1 t) (e0 : t.way0 = []) (e1 : t.way1 = []) (hm0 : min T0.length (256 * (j + 1)) ≤ t.written0.size) (hm1 : min T1.length (256 * j) ≤ t.written1.size) :
    t.is0 = true ∧ readsPre t 0 300 ∧ (reads t 0 300).is1 = true ∧ readsPre (reads t 0 300) 1 300 ∧ Turn f0 f1 T0 T1 (j + 1) r1 r0 (reads (reads t 0 300) 1 300) := by
  rcases hst with ⟨-, -, -, d, q⟩ | ⟨-, -, -, d, q⟩ | ⟨-, -, -, W, q⟩ | ⟨W0, a0, h0, p0, W1, a1, h1, p1, q, hp⟩
  · rw [q.y1] at e1; cases e1
  · rw [q.y0] at e0; cases e0
  · obtain ⟨x, l, e, -⟩ := q.y1
    rw [e] at e1; cases e1
  · obtain ⟨g1, g2, g3, g4, g5, g6, g7, g8, g9, g10, g11, g12⟩ := reads0_f t 300
    obtain ⟨u1, u2, u3, u4, u5, u6, u7, u8, u9, u10, u11, u12⟩ := reads1_f (reads t 0 300) 300
    have hi : (reads t 0 300).is1 = true := by rw [g4]; exact q.i1
    obtain ⟨p0', k0⟩ := reads_ok (n := 300) (by omega) hrun.ok (.inl rfl)
    have ht0 := reads_in (n := 300) (by omega) hrun.ok (.inl rfl) hrun.tr
    obtain ⟨p1', k1⟩ := reads_ok (n := 300) (by omega) k0 (.inr ⟨rfl, hi⟩)
    have ht1 := reads_in (n := 300) (by omega) k0 (.inr ⟨rfl, hi⟩) ht0
    have hR := reads_rest q e0 e1
    obtain ⟨k2, k3, k4, k5, k6, k7⟩ := q.still e0 e1
    have hn0 := hR.n0.1
    have hn1 := hR.n1.1
    have hb0 := hR.q.q0.bW
    have hb1 := hR.q.q1.bW
    have z0 := hR.q.w0
    have z1 := hR.q.w1
    have z2 := hR.q.d0
    have z3 := hR.q.d1
    have y0 := q.w0
    have y1 := q.w1
    refine ⟨q.i0, p0', hi, p1', .inr ⟨by omega, W0, W1, hR, ⟨tight k1 hR.q.now (by omega) (by omega) (by omega) (by omega), ht1, by rw [u5, g5]; exact hrun.u1⟩, ⟨?_, ?_, ?_, ?_⟩, k5, k2, by omega, by show min T1.length (256 * j) ≤ W1; omega⟩⟩
    · rw [u8, g8]; exact hwr.e0
    · rw [u8, g8]; exact hwr.l0
    · rw [u9, g9]; exact hwr.e1
    · rw [u9, g9]; exact hwr.l1
/-- Behind all turns. -/
theorem turn_end (hT0 : T0.length ≤ 600) (hT1 : T1.length ≤ 600) (h : Turn f0 f1 T0 T1 60 s0 s1 t) : t.wrong = false ∧ t.read0 = bytesS T1 ∧ t.read1 = bytesS T0 ∧ s0 = T0.length ∧ s1 = T1.length ∧ t.c0.tries = 0 ∧ t.c1.tries = 0 := by
  rcases h with ⟨hj, -⟩ | ⟨hj, W0, W1, hR, hrun, hwr, rfl, rfl, hm0, hm1⟩
  · omega
  · have z0 := hR.q.w0
    have z1 := hR.q.w1
    have z2 := hR.q.d0
    have z3 := hR.q.d1
    have b0 := hwr.l0
    have b1 := hwr.l1
    have hs0 : s0 = T0.length := by omega
    have hs1 : s1 = T1.length := by omega
    obtain ⟨a0, a1, hin⟩ := hrun.tr
    have w0 : t.written0 = bytesS T0 := by have := hwr.e0; rw [z0, hs0, List.take_length] at this; exact this
    have w1 : t.written1 = bytesS T1 := by have := hwr.e1; rw [z1, hs1, List.take_length] at this; exact this
    have full : ∀ {r w : ByteArray} {d : List UInt8}, bl w = bl r ++ d → r.size = w.size → r = w := by
      intro r w d h1 h2
      have h3 := congrArg List.length h1
      rw [List.length_append, bl_size, bl_size] at h3
      have hd : d = [] := List.length_eq_zero_iff.1 (by omega)
      rw [hd, List.append_nil] at h1
      exact (bl_inj h1).symm
    obtain ⟨d0, hd0⟩ := hin.e0.pre hin.so1
    obtain ⟨d1, hd1⟩ := (hin.e1 hR.q.i1).pre hin.so0
    rw [hin.W1] at hd0
    rw [hin.W0] at hd1
    refine ⟨hin.w, ?_, ?_, hs0, hs1, hR.q.q0.tries, hR.q.q1.tries⟩
    · rw [← w1]; exact full hd0 (by omega)
    · rw [← w0]; exact full hd1 (by omega)
end
end Caw

/-! TcbQuiet: its texts. -/
set_option linter.unusedVariables false
namespace Caw
open Go Go.RowKit
structure TwoB where
  a : List Int
  b : List Int
deriving Inhabited
def twoBCells (x : TwoB) : List AV := [.sl 1 (encB x.a) none, .sl 1 (encB x.b) none]
theorem wi_nat {n k : Nat} (h : n + k ≤ 1000000) : IntKind.i64.wrap ((n : Int) + (k : Int)) = ((n + k : Nat) : Int) := by rw [wi_of (by omega) (by omega)]; omega
section
variable {H : Type} {enc : TypeId × Value → H} {P : Program} {W : World} {base : Nat} {spare : Nat → Bool} {held : Bool}
theorem rd_twoB {t e e2 : TypeId} (ht : P.underlying t = some (.array 2 e)) (he : P.underlying e = some (.slice e2)) (he2 : P.underlying e2 = some (.int .u8)) (hce : P.cellsOf e = 1) (hce2 : P.cellsOf e2 = 1) (hct : P.cellsOf t = 2) {n : Nat} {cs : Array Value} {y : DataW H × List MemPlace}
    (h : DataW.trod enc P W base spare held n t cs.toList = some y) : ∃ x : TwoB, PV W (pr0 W) (.agg (twoBCells x)) (.agg cs) := by
  obtain ⟨xs, m, _, _, hl, hxs, hf⟩ := DataW.trod_array ht h
  rw [hct] at hl
  obtain ⟨l⟩ := cs
  match l, hl with
  | [c0, c1], _ =>
    have g0 := hf 0 (by omega)
    have g1 := hf 1 (by omega)
    simp only [hce, Nat.zero_mul, Nat.one_mul, List.drop, List.take] at g0 g1
    match xs, hxs with
    | [y0, y1], _ =>
      obtain ⟨l0, hp0⟩ := rd_bytes he he2 hce2 (by simpa using g0)
      obtain ⟨l1, hp1⟩ := rd_bytes he he2 hce2 (by simpa using g1)
      refine ⟨⟨l0, l1⟩, .agg rfl fun i hi => ?_⟩
      have hi2 : i < 2 := hi
      match i, hi2 with
      | 0, _ => exact hp0
      | 1, _ => exact hp1
end
theorem Stage.br {f0 f1 : Int} {n r0 r1 : Nat} {t : Talk} (h : Stage f0 f1 n r0 r1 t) : r0 ≤ 1000 ∧ r1 ≤ 1000 := by
  rcases h with ⟨-, h, k, -⟩ | ⟨-, h, k, -⟩ | ⟨-, h, k, -⟩ | ⟨W0, a0, h0, p0, W1, a1, h1, p1, q, hp⟩
  · omega
  · omega
  · omega
  · exact ⟨q.q0.br, q.q1.br⟩
theorem wi_pos {z : Int} (h : 0 < z) (k : z ≤ 1000) : decide (0 < IntKind.i64.wrap z) = true := by rw [wi_of (by omega) (by omega)]; simpa using h
end Caw

