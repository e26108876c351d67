import Derived.Test.YtkjodjaamjnejaaK6
set_option linter.all false
/-! recvq.Accept and tcb, as the code has them. -/
namespace Caw
open Go
def aMark (q : Recv) (a : Int) (d : List Int) (e : Bool) : Recv :=
  if e = true ∧ q.known = false ∧ 0 ≤ seqDiff (seqAdd a d.length) q.next ∧ seqDiff (seqAdd a d.length) q.next ≤ recvWindow q ∧ recvBeyond q (seqAdd a d.length) = false then { q with known := true, fin := seqAdd a d.length } else q
def aTo (q : Recv) (a : Int) (d : List Int) (e : Bool) : Int :=
  if (aMark q a d e).known = true then minI (minI (IntKind.i64.wrap (seqDiff a q.next + d.length)) (recvWindow q)) (seqDiff (aMark q a d e).fin q.next) else minI (IntKind.i64.wrap (seqDiff a q.next + d.length)) (recvWindow q)
def aHi (q : Recv) (a : Int) (d : List Int) (e : Bool) : Int := IntKind.i64.wrap (IntKind.i64.wrap (accSkip q a + aTo q a d e) - accFrom q a)
def aPiece (q : Recv) (a : Int) (d : List Int) (e : Bool) : Piece := ⟨seqAdd q.next (accFrom q a), (d.take (aHi q a d e).toNat).drop (accSkip q a).toNat⟩
def aLay (q : Recv) (a : Int) (d : List Int) (e : Bool) : Recv := if accFrom q a < aTo q a d e then lay (aMark q a d e) (aPiece q a d e) else aMark q a d e
def aDone (q : Recv) : Recv := if q.known = true ∧ q.fin = q.next then { q with done := true, next := seqAdd q.next 1 } else q
def recvAcc (q : Recv) (a : Int) (d : List Int) (e : Bool) : Recv := if q.done = true then q else aDone (aLay q a d e)
def aOk (q : Recv) (a : Int) (d : List Int) (e : Bool) : Prop :=
  q.sm ∧ d.length ≤ 4096 ∧ (q.done = false → accFrom q a < aTo q a d e → 0 ≤ accSkip q a ∧ accSkip q a ≤ aHi q a d e ∧ aHi q a d e ≤ d.length ∧ layPre (aMark q a d e) (aPiece q a d e))
theorem aHi_fold (q : Recv) (a : Int) (d : List Int) (e : Bool) : IntKind.i64.wrap (IntKind.i64.wrap (accSkip q a + aTo q a d e) - accFrom q a) = aHi q a d e := rfl
theorem sm_part {d : List Int} (h : d.length ≤ 4096) (n m : Nat) : Sm ((d.take n).drop m) := by unfold Sm; simp; omega
end Caw
namespace Caw
open Go
section
variable (φ ψ : Nm → Option Nm) (s s2 : St)
theorem recvCells_coE {φ ψ : Nm → Option Nm} {s s2 : St} {x y : Recv} (e : x = y) : All2P (CoL φ ψ s s2) (recvCells x) (recvCells y) := by subst e; exact recvCells_co ..
theorem connCells_coE {φ ψ : Nm → Option Nm} {s s2 : St} {x y : Conn} (e : x = y) : All2P (CoL φ ψ s s2) (connCells x) (connCells y) := by subst e; exact connCells_co ..
end
end Caw
namespace Caw
open Go
theorem readN_fold (q : Recv) (n : Int) : maxI 0 (minI n q.data.length) = readN q n := rfl
theorem readN_ok (q : Recv) (n : Int) : 0 ≤ readN q n ∧ readN q n ≤ q.data.length := by
  unfold readN maxI minI
  constructor <;> (repeat' split) <;> omega
end Caw

/-! Layer tcb: sizes, and the parts of its functions. -/
namespace Caw
open Go
/-- What the code asks of an end's sizes. -/
def Conn.sm (c : Conn) : Prop := c.send.sm ∧ c.recv.sm
theorem Conn.sm.s {c : Conn} (h : c.sm) : c.send.sm := h.1
theorem Conn.sm.r {c : Conn} (h : c.sm) : c.recv.sm := h.2
theorem Send.sm.l {q : Send} (h : q.sm) : Sm q.data := by unfold Sm; have := h.2.2; omega
theorem recv0_sm : (⟨0, [], [], false, 0, false⟩ : Recv).sm := ⟨by simp, by simp, by simp⟩
/-- A new end, ahead of its first number. -/
def conn0 (phase : Int) (self peer : Addr) (first : Int) : Conn := ⟨phase, self, peer, first, ⟨0, [], 0, false, false, false⟩, ⟨0, [], [], false, 0, false⟩, 0, 64, rtoNew, 0, 0, false, 0, 0, 0, false, 0⟩
theorem conn0_sm (phase : Int) (self peer : Addr) (first : Int) : (conn0 phase self peer first).sm := ⟨⟨by simp [conn0], by simp [conn0], by simp [conn0]⟩, recv0_sm⟩
theorem pushW_fold (e : Ep) : (if e.conn.window = 0 ∧ sendFlight e.conn.send = 0 then 1 else e.conn.window) = pushW e := rfl
theorem pushN_fold (e : Ep) : sendNext e.conn.send (pushW e) e.conn.mss = pushN e := rfl
end Caw
namespace Caw
open Go
theorem pushLoop_stop {e : Ep} (h : ¬ (e.conn.phase = 3 ∧ (pushN e).2.2.2 = true)) : ∀ n, pushLoop n e = e
  | 0 => rfl
  | n + 1 => by simp only [pushLoop]; rw [if_neg h]
theorem sendNext_sm {q : Send} (w m : Int) (h : q.sm) : (sendNext q w m).1.sm := by
  unfold sendNext
  split
  · obtain ⟨a, b, c⟩ := nextN_le q w m h
    obtain ⟨h1, h2, h3⟩ := h
    exact ⟨by simp only; rw [c]; omega, by simp only; rw [c]; omega, h3⟩
  · exact h
theorem sendNext_data (q : Send) (w m : Int) : (sendNext q w m).1.data = q.data ∧ (sendNext q w m).1.fin = q.fin ∧ (sendNext q w m).1.una = q.una := by
  unfold sendNext; split <;> exact ⟨rfl, rfl, rfl⟩
theorem sendNext_M {q : Send} (w m : Int) (h : q.sm) (hok : (sendNext q w m).2.2.2 = true) : pushM (sendNext q w m).1 + 1 ≤ pushM q := by
  unfold sendNext at hok ⊢
  split at hok
  case isFalse => cases hok
  rename_i h0
  rw [if_pos h0]
  obtain ⟨a, b, c⟩ := nextN_le q w m h
  obtain ⟨h1, h2, h3⟩ := h
  unfold pushM
  simp only [c]
  unfold nextOk at h0
  by_cases hn : nextN q w m = 0
  · simp only [hn, decide_true, Bool.true_and, Bool.not_not] at h0
    have : nextF q w m = true := h0
    unfold nextF at this
    simp only [Bool.and_eq_true, Bool.not_eq_true', decide_eq_true_eq] at this
    simp [this.1.1, this.1.2, hn, h0]
  · have : (q.data.length - (q.sent + nextN q w m)).toNat + 1 ≤ (q.data.length - q.sent : Int).toNat := by omega
    have h4 : (if (q.fin && !(q.finSent || nextF q w m)) = true then 1 else 0) ≤ (if (q.fin && !q.finSent) = true then 1 else 0 : Nat) := by
      cases q.fin <;> cases q.finSent <;> cases nextF q w m <;> simp
    omega
theorem pushStep_send (e : Ep) : (pushStep e).conn.send = (pushN e).1 := by
  unfold pushStep
  simp only
  split <;> split <;> rfl
theorem pushStep_out (e : Ep) : (pushStep e).out.length = e.out.length + 1 := by
  unfold pushStep
  simp only
  split <;> split <;> simp [epArm, epTell]
theorem pushM_le {q : Send} (h : q.sm) : pushM q ≤ 4097 := by
  obtain ⟨h1, h2, h3⟩ := h
  unfold pushM
  split <;> omega
/-- A round of 'push'. -/
theorem push_round {e : Ep} {n : Nat} (h1 : pushM e.conn.send ≤ n) (h2 : e.conn.send.sm) (h3 : Rm n e.out) (hp : e.conn.phase = 3) (hok : (pushN e).2.2.2 = true) :
    ∃ k, n = k + 1 ∧ pushLoop n e = pushLoop k (pushStep e) ∧ pushM (pushStep e).conn.send ≤ k ∧ (pushStep e).conn.send.sm ∧ Rm k (pushStep e).out ∧ Rm 1 e.out := by
  have h4 := sendNext_M (pushW e) e.conn.mss h2 hok
  cases n with
  | zero => omega
  | succ k =>
    refine ⟨k, rfl, ?_, ?_, ?_, ?_, ?_⟩
    · simp only [pushLoop]; rw [if_pos ⟨hp, hok⟩]
    · rw [pushStep_send]; unfold pushN; omega
    · rw [pushStep_send]; exact sendNext_sm _ _ h2
    · unfold Rm at h3 ⊢; rw [pushStep_out]; omega
    · unfold Rm at h3 ⊢; omega
end Caw
namespace Caw
open Go
theorem flags_fold (p : Piece) (fin : Bool) : (if fin = true then bOr .u8 (if 0 < p.data.length then bOr .u8 16 8 else 16) 1 else if 0 < p.data.length then bOr .u8 16 8 else 16) = pshF p fin := rfl
def pushTold (e : Ep) : Ep := epTell { e with conn := { e.conn with send := (pushN e).1 } } (pshF (pushN e).2.1 (pushN e).2.2.1) (pushN e).2.1
theorem told_fold (e : Ep) : epTell { e with conn := { e.conn with send := (pushN e).1 } } (pshF (pushN e).2.1 (pushN e).2.2.1) (pushN e).2.1 = pushTold e := rfl
def pushSeq (e : Ep) : Int := seqAdd (pushN e).2.1.seq (segLen ⟨0, 0, 0, 0, pshF (pushN e).2.1 (pushN e).2.2.1, 0, 0, (pushN e).2.1.data⟩)
theorem seq_fold (e : Ep) : seqAdd (pushN e).2.1.seq (segLen ⟨0, 0, 0, 0, pshF (pushN e).2.1 (pushN e).2.2.1, 0, 0, (pushN e).2.1.data⟩) = pushSeq e := rfl
def pushTimed (e : Ep) : Ep := if (pushTold e).conn.timing = false then { pushTold e with conn := { (pushTold e).conn with timing := true, timedSeq := pushSeq e, timedAt := (pushTold e).now } } else pushTold e
theorem timed_fold (e : Ep) : (if (pushTold e).conn.timing = false then { pushTold e with conn := { (pushTold e).conn with timing := true, timedSeq := pushSeq e, timedAt := (pushTold e).now } } else pushTold e) = pushTimed e := rfl
theorem pushStep_eq (e : Ep) : pushStep e = if (pushTimed e).conn.due = 0 then epArm (pushTimed e) else pushTimed e := by
  have h : pushTimed e = (if (pushTold e).conn.timing then pushTold e else { pushTold e with conn := { (pushTold e).conn with timing := true, timedSeq := pushSeq e, timedAt := (pushTold e).now } }) := by
    unfold pushTimed
    cases (pushTold e).conn.timing <;> rfl
  rw [h]
  rfl
theorem epCells_le {N : Nat} {e e2 : Ep} (h : e = e2) : Le N (mkSt [(0, .ptr (0,1,0) 0)] [((0,1,0), epCells e (some ((0,1,38),0)))]) (mkSt [(0, .ptr (0,1,0) 0)] [((0,1,0), epCells e2 (some ((0,1,38),0)))]) := by subst h; exact Le.refl _
end Caw
namespace Caw
open Go
theorem hasF_fold (f b : Int) : (bAnd .u8 f b != 0) = hasF f b := rfl
/-! ### takes, in parts -/
def tk0 (e : Ep) (s : Seg) : Ep := if e.conn.phase = 2 then epOpened e s else e
def tkR (e : Ep) (s : Seg) : Send × Int × Int := sendAck e.conn.send s.ack
def tk1 (e : Ep) (s : Seg) : Ep := { e with conn := { e.conn with send := (tkR e s).1 } }
def tkM (e : Ep) (s : Seg) : Ep := epMeasure (tk1 e s) s.ack
def tk2 (e : Ep) (s : Seg) : Ep := { tkM e s with conn := { (tkM e s).conn with tries := 0, due := 0 } }
def tk3 (e : Ep) (s : Seg) : Ep := if 0 < sendFlight (tkR e s).1 then epArm (tk2 e s) else tk2 e s
def tk4 (e : Ep) (s : Seg) : Ep := if 0 < (tkR e s).2.1 then tk3 e s else tk1 e s
def tk5 (e : Ep) (s : Seg) : Ep := { tk4 e s with conn := { (tk4 e s).conn with window := IntKind.i64.wrap s.wnd } }
def tk6 (e : Ep) (s : Seg) : Ep := if IntKind.i64.wrap s.wnd = 0 then { tk5 e s with conn := { (tk5 e s).conn with tries := 0 } } else tk5 e s
def tk7 (e : Ep) (s : Seg) : Ep := if s.ack = (tkR e s).1.una then tk6 e s else tk4 e s
def tk8 (e : Ep) (s : Seg) : Ep := { tk7 e s with conn := { (tk7 e s).conn with recv := recvAcc (tk7 e s).conn.recv s.seq s.data (hasF s.flags 1) } }
def tk9 (e : Ep) (s : Seg) : Ep := epOver (tk8 e s)
def takesC (e : Ep) (s : Seg) : Ep := if (epPush e).out.length = e.out.length ∧ 0 < segLen s then epAck (epPush e) else epPush e
def takesB (e : Ep) (s : Seg) : Ep := if (tkR e s).2.2 = 0 then takesC (tk9 e s) s else epAck e
def takes (e : Ep) (s : Seg) : Ep := if e.conn.phase = 2 ∧ s.ack ≠ seqAdd e.conn.first 1 then { e with out := e.out ++ [refuse s] } else takesB (tk0 e s) s
section
variable (e : Ep) (s : Seg)
theorem tkR_fold : sendAck e.conn.send s.ack = tkR e s := rfl
theorem tk0_fold : (if e.conn.phase = 2 then epOpened e s else e) = tk0 e s := rfl
theorem tk1_fold : ({ e with conn := { e.conn with send := (tkR e s).1 } } : Ep) = tk1 e s := rfl
theorem tkM_fold : epMeasure (tk1 e s) s.ack = tkM e s := rfl
theorem tk2_fold : ({ tkM e s with conn := { (tkM e s).conn with tries := 0, due := 0 } } : Ep) = tk2 e s := rfl
theorem tk3_fold : (if 0 < sendFlight (tkR e s).1 then epArm (tk2 e s) else tk2 e s) = tk3 e s := rfl
theorem tk4_fold : (if 0 < (tkR e s).2.1 then tk3 e s else tk1 e s) = tk4 e s := rfl
theorem tk5_fold : ({ tk4 e s with conn := { (tk4 e s).conn with window := IntKind.i64.wrap s.wnd } } : Ep) = tk5 e s := rfl
theorem tk6_fold : (if IntKind.i64.wrap s.wnd = 0 then { tk5 e s with conn := { (tk5 e s).conn with window := IntKind.i64.wrap s.wnd, tries := 0 } } else tk5 e s) = tk6 e s := rfl
theorem tk5_window : (tk5 e s).conn.window = IntKind.i64.wrap s.wnd := rfl
theorem tk7_fold : (if s.ack = (tkR e s).1.una then tk6 e s else tk4 e s) = tk7 e s := rfl
theorem tk8_fold : ({ tk7 e s with conn := { (tk7 e s).conn with recv := recvAcc (tk7 e s).conn.recv s.seq s.data (hasF s.flags 1) } } : Ep) = tk8 e s := rfl
theorem tk9_fold : epOver (tk8 e s) = tk9 e s := rfl
theorem epMeasure_keeps (a : Int) : (epMeasure e a).conn.send = e.conn.send ∧ (epMeasure e a).conn.recv = e.conn.recv ∧ (epMeasure e a).out = e.out ∧ (epMeasure e a).conn.phase = e.conn.phase ∧ (epMeasure e a).conn.first = e.conn.first ∧ (epMeasure e a).conn.window = e.conn.window ∧ (epMeasure e a).conn.mss = e.conn.mss ∧ (epMeasure e a).conn.tries = e.conn.tries ∧ (epMeasure e a).conn.due = e.conn.due ∧ (epMeasure e a).conn.err = e.conn.err ∧ (epMeasure e a).conn.ended = e.conn.ended ∧ (epMeasure e a).now = e.now ∧ (epMeasure e a).conn.self = e.conn.self ∧ (epMeasure e a).conn.peer = e.conn.peer ∧ (epMeasure e a).conn.till = e.conn.till := by
  unfold epMeasure; split <;> exact ⟨rfl, rfl, rfl, rfl, rfl, rfl, rfl, rfl, rfl, rfl, rfl, rfl, rfl, rfl, rfl⟩
theorem tk0_keeps : (tk0 e s).conn.send = e.conn.send ∧ (tk0 e s).conn.recv = e.conn.recv ∧ (tk0 e s).out = e.out := by
  unfold tk0 epOpened
  split
  · obtain ⟨a, b, c, -⟩ := epMeasure_keeps { e with conn := { e.conn with phase := 3, tries := 0, due := 0 } } s.ack
    exact ⟨a, b, c⟩
  · exact ⟨rfl, rfl, rfl⟩
theorem tk4_keeps : (tk4 e s).conn.send = (tkR e s).1 ∧ (tk4 e s).conn.recv = e.conn.recv ∧ (tk4 e s).out = e.out := by
  obtain ⟨a, b, c, -⟩ := epMeasure_keeps (tk1 e s) s.ack
  unfold tk4
  split
  · unfold tk3
    split
    · exact ⟨a, b, c⟩
    · exact ⟨a, b, c⟩
  · exact ⟨rfl, rfl, rfl⟩
theorem tk7_keeps : (tk7 e s).conn.send = (tkR e s).1 ∧ (tk7 e s).conn.recv = e.conn.recv ∧ (tk7 e s).out = e.out := by
  obtain ⟨a, b, c⟩ := tk4_keeps e s
  unfold tk7
  split
  · unfold tk6
    split
    · exact ⟨a, b, c⟩
    · exact ⟨a, b, c⟩
  · exact ⟨a, b, c⟩
theorem epOver_keeps : (epOver e).conn.send = e.conn.send ∧ (epOver e).conn.recv = e.conn.recv ∧ (epOver e).out = e.out := by
  unfold epOver epShut
  split
  · exact ⟨rfl, rfl, rfl⟩
  · split <;> exact ⟨rfl, rfl, rfl⟩
theorem tk9_keeps : (tk9 e s).conn.send = (tkR e s).1 ∧ (tk9 e s).conn.recv = recvAcc e.conn.recv s.seq s.data (hasF s.flags 1) ∧ (tk9 e s).out = e.out := by
  obtain ⟨a, b, c⟩ := epOver_keeps (tk8 e s)
  obtain ⟨a1, b1, c1⟩ := tk7_keeps e s
  refine ⟨a.trans a1, b.trans ?_, c.trans c1⟩
  unfold tk8
  rw [b1]
theorem pushLoop_len : ∀ (n : Nat) (e : Ep), (pushLoop n e).out.length ≤ e.out.length + n
  | 0, e => Nat.le_refl _
  | n + 1, e => by
    simp only [pushLoop]
    split
    · have := pushLoop_len n (pushStep e)
      rw [pushStep_out] at this
      omega
    · omega
theorem epPush_len (h : e.conn.send.sm) : (epPush e).out.length ≤ e.out.length + 4097 := by
  have := pushLoop_len (pushM e.conn.send) e
  have := pushM_le h
  unfold epPush
  omega
theorem sendAck_sm {q : Send} (a : Int) (h : q.sm) : (sendAck q a).1.sm := by
  rcases ack_facts q a h with h2 | ⟨h2, h3, h4⟩
  · unfold sendAck; rw [if_pos h2]; exact h
  · unfold sendAck
    rw [if_neg h2]
    split
    · exact h
    · obtain ⟨h5, h6, h7⟩ := h
      have h8 : minI (seqDiff a q.una) q.sent ≤ q.sent := by unfold minI; split <;> omega
      have h9 : IntKind.i64.wrap (q.sent - minI (seqDiff a q.una) q.sent) = q.sent - minI (seqDiff a q.una) q.sent := wi_of (by omega) (by omega)
      refine ⟨?_, ?_, ?_⟩
      · simp only [h9]; omega
      · simp only [h9, List.length_drop]; omega
      · simp only [List.length_drop]; omega
/-- What 'takes' asks. -/
def takesPre (e : Ep) (s : Seg) : Prop := e.conn.send.sm ∧ aOk e.conn.recv s.seq s.data (hasF s.flags 1) ∧ e.out.length ≤ 90000
theorem takes_facts {e : Ep} {s : Seg} (h : takesPre e s) : Rm 1 e.out ∧ (tk0 e s).conn.send.sm ∧ Rm 1 (tk0 e s).out ∧ aOk (tk7 (tk0 e s) s).conn.recv s.seq s.data (hasF s.flags 1) ∧ (tk9 (tk0 e s) s).conn.send.sm ∧ Rm (pushM (tk9 (tk0 e s) s).conn.send) (tk9 (tk0 e s) s).out ∧ Rm 1 (epPush (tk9 (tk0 e s) s)).out := by
  obtain ⟨h1, h2, h3⟩ := h
  obtain ⟨a, b, c⟩ := tk0_keeps e s
  obtain ⟨a1, b1, c1⟩ := tk7_keeps (tk0 e s) s
  obtain ⟨a2, b2, c2⟩ := tk9_keeps (tk0 e s) s
  have h4 : (tk9 (tk0 e s) s).conn.send.sm := by rw [a2]; exact sendAck_sm _ (by rw [a]; exact h1)
  refine ⟨by unfold Rm; omega, by rw [a]; exact h1, by rw [c]; unfold Rm; omega, by rw [b1, b]; exact h2, h4, ?_, ?_⟩
  · have := pushM_le h4
    rw [c2, c]
    unfold Rm; omega
  · have := epPush_len (tk9 (tk0 e s) s) h4
    rw [c2, c] at this
    unfold Rm; omega
end
end Caw
namespace Caw
open Go
/-! ### the other functions of tcb -/
def bare (s : Seg) : Seg := ⟨s.src, s.dst, s.seq, s.ack, bAndNot .u8 s.flags 1, s.wnd, s.mss, []⟩
def lateB (e : Ep) (s : Seg) : Ep := if recvWindow e.conn.recv = 0 ∧ hasF s.flags 16 = true ∧ seqIn s.seq e.conn.recv.next 3 = true then takes e (bare s) else e
def late (e : Ep) (s : Seg) : Ep := if 0 < segLen s ∧ (lateB e s).out.length = 0 then epAck (lateB e s) else lateB e s
theorem bare_fold (s : Seg) : (⟨s.src, s.dst, s.seq, s.ack, bAndNot .u8 s.flags 1, s.wnd, s.mss, []⟩ : Seg) = bare s := rfl
theorem lateB_fold (e : Ep) (s : Seg) : (if recvWindow e.conn.recv = 0 ∧ hasF s.flags 16 = true ∧ seqIn s.seq e.conn.recv.next 3 = true then takes e (bare s) else e) = lateB e s := rfl
theorem takesC_len {e : Ep} (s : Seg) (h : e.conn.send.sm) : (takesC e s).out.length ≤ e.out.length + 4098 := by
  have := epPush_len e h
  unfold takesC
  split
  · simp only [epAck, epTell, List.length_append, List.length_singleton]; omega
  · omega
theorem takes_len {e : Ep} (s : Seg) (h : e.conn.send.sm) : (takes e s).out.length ≤ e.out.length + 4098 := by
  unfold takes
  split
  · simp
  · unfold takesB
    obtain ⟨a, b, c⟩ := tk0_keeps e s
    split
    · obtain ⟨a2, b2, c2⟩ := tk9_keeps (tk0 e s) s
      have := takesC_len (e := tk9 (tk0 e s) s) s (by rw [a2]; exact sendAck_sm _ (by rw [a]; exact h))
      rw [c2, c] at this
      exact this
    · simp only [epAck, epTell, List.length_append, List.length_singleton, c]; omega
theorem lateB_len {e : Ep} (s : Seg) (h : e.conn.send.sm) : (lateB e s).out.length ≤ e.out.length + 4098 := by
  unfold lateB
  split
  · exact takes_len _ h
  · omega
theorem late_facts {e : Ep} {s : Seg} (h : takesPre e (bare s)) : Rm 1 (lateB e s).out := by
  have := lateB_len s h.1
  have := h.2.2
  unfold Rm; omega
theorem epMeet_keeps (e : Ep) (s : Seg) : (epMeet e s).conn.send = e.conn.send ∧ (epMeet e s).out = e.out := ⟨rfl, rfl⟩
theorem epOpened_keeps (e : Ep) (s : Seg) : (epOpened e s).conn.send = e.conn.send ∧ (epOpened e s).out = e.out := by
  obtain ⟨a, b, c, -⟩ := epMeasure_keeps { e with conn := { e.conn with phase := 3, tries := 0, due := 0 } } s.ack
  exact ⟨a, c⟩
theorem epAck_keeps (e : Ep) : (epAck e).conn = e.conn ∧ (epAck e).out.length = e.out.length + 1 := ⟨rfl, by simp [epAck, epTell]⟩
def dialPre (e : Ep) : Prop := e.conn.send.sm ∧ e.out.length ≤ 90000
theorem dial_facts {e : Ep} (s : Seg) (h : dialPre e) : Rm 1 e.out ∧ Rm 1 (epOpened (epMeet e s) s).out ∧ (epAck (epOpened (epMeet e s) s)).conn.send.sm ∧ Rm (pushM (epAck (epOpened (epMeet e s) s)).conn.send) (epAck (epOpened (epMeet e s) s)).out ∧
    Rm 1 (epMeet { e with conn := { e.conn with phase := 2 } } s).out := by
  obtain ⟨h1, h2⟩ := h
  obtain ⟨a, b⟩ := epOpened_keeps (epMeet e s) s
  obtain ⟨c, d⟩ := epAck_keeps (epOpened (epMeet e s) s)
  have h3 : (epAck (epOpened (epMeet e s) s)).conn.send.sm := by rw [c, a]; exact h1
  have h4 := pushM_le h3
  refine ⟨by unfold Rm; omega, by rw [b]; unfold Rm; show e.out.length + 1 ≤ _; omega, h3, ?_, by unfold Rm; show e.out.length + 1 ≤ _; omega⟩
  unfold Rm
  rw [d, b]
  show e.out.length + 1 + _ ≤ _
  omega
theorem isMine_fold (e : Ep) (s : Seg) : (hasF s.flags 16 && decide (s.ack = seqAdd e.conn.first 1)) = isMine e s := rfl
/-- What 'Hear' asks. -/
def hearPre (c : Conn) (s : Seg) : Prop := c.sm ∧ aOk c.recv s.seq s.data (hasF s.flags 1) ∧ aOk c.recv s.seq [] (hasF (bAndNot .u8 s.flags 1) 1)
def hear (c : Conn) (s : Seg) (now : Int) : Ep :=
  let e : Ep := ⟨c, now, []⟩
  if c.phase = 0 then e
  else if c.phase = 1 then epDialling e s
  else if hasF s.flags 4 = true then (if seqFits s.seq 0 c.recv.next (recvWindow c.recv) = true then epBroken e else e)
  else if hasF s.flags 2 = true then epAck e
  else if seqFits s.seq (segLen s) c.recv.next (recvWindow c.recv) = false then late e s
  else if hasF s.flags 16 = true then takes e s
  else e
theorem hear_facts {c : Conn} {s : Seg} (now : Int) (h : hearPre c s) : takesPre ⟨c, now, []⟩ s ∧ takesPre ⟨c, now, []⟩ (bare s) ∧ dialPre ⟨c, now, []⟩ :=
  ⟨⟨h.1.s, h.2.1, by simp⟩, ⟨h.1.s, h.2.2, by simp⟩, h.1.s, by simp⟩
end Caw
namespace Caw
open Go
theorem dial_eq (e : Ep) (s : Seg) : (if hasF s.flags 4 = true then if hasF s.flags 16 = true ∧ s.ack = seqAdd e.conn.first 1 then epShut e 14 else e
    else
      if hasF s.flags 16 = true ∧ (hasF s.flags 16 = false ∨ ¬s.ack = seqAdd e.conn.first 1) then { e with out := e.out ++ [refuse s] }
      else
        if hasF s.flags 2 = true ∧ hasF s.flags 16 = true ∧ s.ack = seqAdd e.conn.first 1 then epPush (epAck (epOpened (epMeet e s) s))
        else if hasF s.flags 2 = true then epHello (epMeet { e with conn := { e.conn with phase := 2 } } s) else e) = epDialling e s := by
  unfold epDialling isMine
  by_cases ha : s.ack = seqAdd e.conn.first 1 <;> cases hasF s.flags 4 <;> cases hasF s.flags 16 <;> cases hasF s.flags 2 <;> simp [ha]
end Caw
namespace Caw
open Go
theorem sendWrite_sm {q : Send} (d : List Int) (h : q.sm) (h2 : q.data.length ≤ 256) : (sendWrite q d).1.sm := by
  obtain ⟨a, b, c, e⟩ := write_facts q d h2
  obtain ⟨h3, h4, h5⟩ := h
  have hr : sendRoom q ≤ 256 := by
    unfold sendRoom
    split
    · omega
    · rw [wi_of (by omega) (by omega)]; omega
  have hm : minI d.length (sendRoom q) ≤ 256 := by unfold minI; split <;> omega
  refine ⟨h3, ?_, ?_⟩
  · simp only [sendWrite, List.length_append, List.length_take]; omega
  · simp only [sendWrite, List.length_append, List.length_take]; omega
theorem write_pre {c : Conn} (d : List Int) (h : c.sm) (h2 : c.send.data.length ≤ 256) : (sendWrite c.send d).1.sm ∧ pushM (sendWrite c.send d).1 ≤ 100000 := by
  have := sendWrite_sm d h.s h2
  exact ⟨this, by have := pushM_le this; omega⟩
theorem close_pre {c : Conn} (h : c.sm) : (sendClose c.send).sm ∧ pushM (sendClose c.send) ≤ 100000 := by
  have h1 : (sendClose c.send).sm := h.s
  exact ⟨h1, by have := pushM_le h1; omega⟩
end Caw
namespace Caw
open Go
theorem epArm_out (e : Ep) : (epArm e).out = e.out := rfl
theorem epArm_send (e : Ep) : (epArm e).conn.send = e.conn.send := rfl
theorem one_seg0 (a b c d e f g : Int) : [AV.agg [.v (.int .u16 a), .v (.int .u16 b), .v (.int .u32 c), .v (.int .u32 d), .v (.int .u8 e), .v (.int .u16 f), .v (.int .u16 g), .sl 1 [] none]] = encS segCells [⟨a, b, c, d, e, f, g, []⟩] := by simp [encS, segCells]
def stOpen (c : Conn) : ByteArray :=
  if c.send.fin = false ∧ c.recv.done = false then ⟨#[69, 83, 84, 65, 66, 76, 73, 83, 72, 69, 68]⟩
  else if c.send.fin = false then ⟨#[67, 76, 79, 83, 69, 45, 87, 65, 73, 84]⟩
  else if c.recv.done = false ∧ c.send.finAcked = true then ⟨#[70, 73, 78, 45, 87, 65, 73, 84, 45, 50]⟩
  else if c.recv.done = false then ⟨#[70, 73, 78, 45, 87, 65, 73, 84, 45, 49]⟩
  else if c.ended = true then ⟨#[67, 76, 79, 83, 73, 78, 71]⟩
  else ⟨#[76, 65, 83, 84, 45, 65, 67, 75]⟩
def stName (c : Conn) : ByteArray :=
  if c.phase = 1 then ⟨#[83, 89, 78, 45, 83, 69, 78, 84]⟩
  else if c.phase = 2 then ⟨#[83, 89, 78, 45, 82, 69, 67, 69, 73, 86, 69, 68]⟩
  else if c.phase = 4 then ⟨#[84, 73, 77, 69, 45, 87, 65, 73, 84]⟩
  else if c.phase = 3 then stOpen c
  else ⟨#[67, 76, 79, 83, 69, 68]⟩
end Caw

