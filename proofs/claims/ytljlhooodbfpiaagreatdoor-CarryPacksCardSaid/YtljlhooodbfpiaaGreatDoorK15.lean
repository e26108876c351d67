import Derived.Test.YtljlhooodbfpiaaGreatDoorK10
import Derived.Test.YtljlhooodbfpiaaGreatDoorK11
import Derived.Test.YtljlhooodbfpiaaGreatDoorK12
set_option linter.all false
/-! recvq.Accept and tcb, as the code has them. -/
namespace Caw
open Go
def aMark (q : Recv) (a : Int) (d : List Int) (e : Bool) : Recv :=
  if e = true ∧ q.known = false ∧ 0 ≤ seqDiff (seqAdd a d.length) q.next ∧ seqDiff (seqAdd a d.length) q.next ≤ recvWindow q ∧ recvBeyond q (seqAdd a d.length) = false then { q with known := true, fin := seqAdd a d.length } else q
def aTo (q : Recv) (a : Int) (d : List Int) (e : Bool) : Int :=
  if (aMark q a d e).known = true then minI (minI (IntKind.i64.wrap (seqDiff a q.next + d.length)) (recvWindow q)) (seqDiff (aMark q a d e).fin q.next) else minI (IntKind.i64.wrap (seqDiff a q.next + d.length)) (recvWindow q)
def aHi (q : Recv) (a : Int) (d : List Int) (e : Bool) : Int := IntKind.i64.wrap (IntKind.i64.wrap (accSkip q a + aTo q a d e) - accFrom q a)
def aPiece (q : Recv) (a : Int) (d : List Int) (e : Bool) : Piece := ⟨seqAdd q.next (accFrom q a), (d.take (aHi q a d e).toNat).drop (accSkip q a).toNat⟩
def aLay (q : Recv) (a : Int) (d : List Int) (e : Bool) : Recv := if accFrom q a < aTo q a d e then lay (aMark q a d e) (aPiece q a d e) else aMark q a d e
def aDone (q : Recv) : Recv := if q.known = true ∧ q.fin = q.next then { q with done := true, next := seqAdd q.next 1 } else q
def recvAcc (q : Recv) (a : Int) (d : List Int) (e : Bool) : Recv := if q.done = true then q else aDone (aLay q a d e)
def aOk (q : Recv) (a : Int) (d : List Int) (e : Bool) : Prop :=
  q.sm ∧ d.length ≤ 4096 ∧ (q.done = false → accFrom q a < aTo q a d e → 0 ≤ accSkip q a ∧ accSkip q a ≤ aHi q a d e ∧ aHi q a d e ≤ d.length ∧ layPre (aMark q a d e) (aPiece q a d e))
theorem aHi_fold (q : Recv) (a : Int) (d : List Int) (e : Bool) : IntKind.i64.wrap (IntKind.i64.wrap (accSkip q a + aTo q a d e) - accFrom q a) = aHi q a d e := rfl
theorem sm_part {d : List Int} (h : d.length ≤ 4096) (n m : Nat) : Sm ((d.take n).drop m) := by unfold Sm; simp; omega
end Caw
namespace Caw
open Go
section
variable (φ ψ : Nm → Option Nm) (s s2 : St)
theorem recvCells_coE {φ ψ : Nm → Option Nm} {s s2 : St} {x y : Recv} (e : x = y) : All2P (CoL φ ψ s s2) (recvCells x) (recvCells y) := by subst e; exact recvCells_co ..
theorem connCells_coE {φ ψ : Nm → Option Nm} {s s2 : St} {x y : Conn} (e : x = y) : All2P (CoL φ ψ s s2) (connCells x) (connCells y) := by subst e; exact connCells_co ..
end
end Caw
namespace Caw
open Go
theorem readN_fold (q : Recv) (n : Int) : maxI 0 (minI n q.data.length) = readN q n := rfl
theorem readN_ok (q : Recv) (n : Int) : 0 ≤ readN q n ∧ readN q n ≤ q.data.length := by
  unfold readN maxI minI
  constructor <;> (repeat' split) <;> omega
end Caw

/-! Layer tcb: sizes, and the parts of its functions. -/
namespace Caw
open Go
/-- What the code asks of an end's sizes. -/
def Conn.sm (c : Conn) : Prop := c.send.sm ∧ c.recv.sm
theorem Conn.sm.s {c : Conn} (h : c.sm) : c.send.sm := h.1
theorem Conn.sm.r {c : Conn} (h : c.sm) : c.recv.sm := h.2
theorem Send.sm.l {q : Send} (h : q.sm) : Sm q.data := by unfold Sm; have := h.2.2; omega
theorem recv0_sm : (⟨0, [], [], false, 0, false⟩ : Recv).sm := ⟨by simp, by simp, by simp⟩
/-- A new end, ahead of its first number. -/
def conn0 (phase : Int) (self peer : Addr) (first : Int) : Conn := ⟨phase, self, peer, first, ⟨0, [], 0, false, false, false⟩, ⟨0, [], [], false, 0, false⟩, 0, 64, rtoNew, 0, 0, false, 0, 0, 0, false, 0⟩
theorem conn0_sm (phase : Int) (self peer : Addr) (first : Int) : (conn0 phase self peer first).sm := ⟨⟨by simp [conn0], by simp [conn0], by simp [conn0]⟩, recv0_sm⟩
theorem pushW_fold (e : Ep) : (if e.conn.window = 0 ∧ sendFlight e.conn.send = 0 then 1 else e.conn.window) = pushW e := rfl
theorem pushN_fold (e : Ep) : sendNext e.conn.send (pushW e) e.conn.mss = pushN e := rfl
end Caw
namespace Caw
open Go
theorem pushLoop_stop {e : Ep} (h : ¬ (e.conn.phase = 3 ∧ (pushN e).2.2.2 = true)) : ∀ n, pushLoop n e = e
  | 0 => rfl
  | n + 1 => by simp only [pushLoop]; rw [if_neg h]
theorem sendNext_sm {q : Send} (w m : Int) (h : q.sm) : (sendNext q w m).1.sm := by
  unfold sendNext
  split
  · obtain ⟨a, b, c⟩ := nextN_le q w m h
    obtain ⟨h1, h2, h3⟩ := h
    exact ⟨by simp only; rw [c]; omega, by simp only; rw [c]; omega, h3⟩
  · exact h
theorem sendNext_data (q : Send) (w m : Int) : (sendNext q w m).1.data = q.data ∧ (sendNext q w m).1.fin = q.fin ∧ (sendNext q w m).1.una = q.una := by
  unfold sendNext; split <;> exact ⟨rfl, rfl, rfl⟩
theorem sendNext_M {q : Send} (w m : Int) (h : q.sm) (hok : (sendNext q w m).2.2.2 = true) : pushM (sendNext q w m).1 + 1 ≤ pushM q := by
  unfold sendNext at hok ⊢
  split at hok
  case isFalse => cases hok
  rename_i h0
  rw [if_pos h0]
  obtain ⟨a, b, c⟩ := nextN_le q w m h
  obtain ⟨h1, h2, h3⟩ := h
  unfold pushM
  simp only [c]
  unfold nextOk at h0
  by_cases hn : nextN q w m = 0
  · simp only [hn, decide_true, Bool.true_and, Bool.not_not] at h0
    have : nextF q w m = true := h0
    unfold nextF at this
    simp only [Bool.and_eq_true, Bool.not_eq_true', decide_eq_true_eq] at this
    simp [this.1.1, this.1.2, hn, h0]
  · have : (q.data.length - (q.sent + nextN q w m)).toNat + 1 ≤ (q.data.length - q.sent : Int).toNat := by omega
    have h4 : (if (q.fin && !(q.finSent || nextF q w m)) = true then 1 else 0) ≤ (if (q.fin && !q.finSent) = true then 1 else 0 : Nat) := by
      cases q.fin <;> cases q.finSent <;> cases nextF q w m <;> simp
    omega
theorem pushStep_send (e : Ep) : (pushStep e).conn.send = (pushN e).1 := by
  unfold pushStep
  simp only
  split <;> split <;> rfl
theorem pushStep_out (e : Ep) : (pushStep e).out.length = e.out.length + 1 := by
  unfold pushStep
  simp only
  split <;> split <;> simp [epArm, epTell]
theorem pushM_le {q : Send} (h : q.sm) : pushM q ≤ 4097 := by
  obtain ⟨h1, h2, h3⟩ := h
  unfold pushM
  split <;> omega
/-- A round of 'push'. -/
theorem push_round {e : Ep} {n : Nat} (h1 : pushM e.conn.send ≤ n) (h2 : e.conn.send.sm) (h3 : Rm n e.out) (hp : e.conn.phase = 3) (hok : (pushN e).2.2.2 = true) :
    ∃ k, n = k + 1 ∧ pushLoop n e = pushLoop k (pushStep e) ∧ pushM (pushStep e).conn.send ≤ k ∧ (pushStep e).conn.send.sm ∧ Rm k (pushStep e).out ∧ Rm 1 e.out := by
  have h4 := sendNext_M (pushW e) e.conn.mss h2 hok
  cases n with
  | zero => omega
  | succ k =>
    refine ⟨k, rfl, ?_, ?_, ?_, ?_, ?_⟩
    · simp only [pushLoop]; rw [if_pos ⟨hp, hok⟩]
    · rw [pushStep_send]; unfold pushN; omega
    · rw [pushStep_send]; exact sendNext_sm _ _ h2
    · unfold Rm at h3 ⊢; rw [pushStep_out]; omega
    · unfold Rm at h3 ⊢; omega
end Caw
namespace Caw
open Go
theorem flags_fold (p : Piece) (fin : Bool) : (if fin = true then bOr .u8 (if 0 < p.data.length then bOr .u8 16 8 else 16) 1 else if 0 < p.data.length then bOr .u8 16 8 else 16) = pshF p fin := rfl
def pushTold (e : Ep) : Ep := epTell { e with conn := { e.conn with send := (pushN e).1 } } (pshF (pushN e).2.1 (pushN e).2.2.1) (pushN e).2.1
theorem told_fold (e : Ep) : epTell { e with conn := { e.conn with send := (pushN e).1 } } (pshF (pushN e).2.1 (pushN e).2.2.1) (pushN e).2.1 = pushTold e := rfl
def pushSeq (e : Ep) : Int := seqAdd (pushN e).2.1.seq (segLen ⟨0, 0, 0, 0, pshF (pushN e).2.1 (pushN e).2.2.1, 0, 0, (pushN e).2.1.data⟩)
theorem seq_fold (e : Ep) : seqAdd (pushN e).2.1.seq (segLen ⟨0, 0, 0, 0, pshF (pushN e).2.1 (pushN e).2.2.1, 0, 0, (pushN e).2.1.data⟩) = pushSeq e := rfl
def pushTimed (e : Ep) : Ep := if (pushTold e).conn.timing = false then { pushTold e with conn := { (pushTold e).conn with timing := true, timedSeq := pushSeq e, timedAt := (pushTold e).now } } else pushTold e
theorem timed_fold (e : Ep) : (if (pushTold e).conn.timing = false then { pushTold e with conn := { (pushTold e).conn with timing := true, timedSeq := pushSeq e, timedAt := (pushTold e).now } } else pushTold e) = pushTimed e := rfl
theorem pushStep_eq (e : Ep) : pushStep e = if (pushTimed e).conn.due = 0 then epArm (pushTimed e) else pushTimed e := by
  have h : pushTimed e = (if (pushTold e).conn.timing then pushTold e else { pushTold e with conn := { (pushTold e).conn with timing := true, timedSeq := pushSeq e, timedAt := (pushTold e).now } }) := by
    unfold pushTimed
    cases (pushTold e).conn.timing <;> rfl
  rw [h]
  rfl
theorem epCells_le {N : Nat} {e e2 : Ep} (h : e = e2) : Le N (mkSt [(0, .ptr (0,1,0) 0)] [((0,1,0), epCells e (some ((0,1,38),0)))]) (mkSt [(0, .ptr (0,1,0) 0)] [((0,1,0), epCells e2 (some ((0,1,38),0)))]) := by subst h; exact Le.refl _
end Caw
namespace Caw
open Go
theorem hasF_fold (f b : Int) : (bAnd .u8 f b != 0) = hasF f b := rfl
/-! ### takes, in parts -/
def tk0 (e : Ep) (s : Seg) : Ep := if e.conn.phase = 2 then epOpened e s else e
def tkR (e : Ep) (s : Seg) : Send × Int × Int := sendAck e.conn.send s.ack
def tk1 (e : Ep) (s : Seg) : Ep := { e with conn := { e.conn with send := (tkR e s).1 } }
def tkM (e : Ep) (s : Seg) : Ep := epMeasure (tk1 e s) s.ack
def tk2 (e : Ep) (s : Seg) : Ep := { tkM e s with conn := { (tkM e s).conn with tries := 0, due := 0 } }
def tk3 (e : Ep) (s : Seg) : Ep := if 0 < sendFlight (tkR e s).1 then epArm (tk2 e s) else tk2 e s
def tk4 (e : Ep) (s : Seg) : Ep := if 0 < (tkR e s).2.1 then tk3 e s else tk1 e s
def tk5 (e : Ep) (s : Seg) : Ep := { tk4 e s with conn := { (tk4 e s).conn with window := IntKind.i64.wrap s.wnd } }
def tk6 (e : Ep) (s : Seg) : Ep := if IntKind.i64.wrap s.wnd = 0 then { tk5 e s with conn := { (tk5 e s).conn with tries := 0 } } else tk5 e s
def tk7 (e : Ep) (s : Seg) : Ep := if s.ack = (tkR e s).1.una then tk6 e s else tk4 e s
def tk8 (e : Ep) (s : Seg) : Ep := { tk7 e s with conn := { (tk7 e s).conn with recv := recvAcc (tk7 e s).conn.recv s.seq s.data (hasF s.flags 1) } }
def tk9 (e : Ep) (s : Seg) : Ep := epOver (tk8 e s)
def takesC (e : Ep) (s : Seg) : Ep := if (epPush e).out.length = e.out.length ∧ 0 < segLen s then epAck (epPush e) else epPush e
def takesB (e : Ep) (s : Seg) : Ep := if (tkR e s).2.2 = 0 then takesC (tk9 e s) s else epAck e
def takes (e : Ep) (s : Seg) : Ep := if e.conn.phase = 2 ∧ s.ack ≠ seqAdd e.conn.first 1 then { e with out := e.out ++ [refuse s] } else takesB (tk0 e s) s
section
variable (e : Ep) (s : Seg)
theorem tkR_fold : sendAck e.conn.send s.ack = tkR e s := rfl
theorem tk0_fold : (if e.conn.phase = 2 then epOpened e s else e) = tk0 e s := rfl
theorem tk1_fold : ({ e with conn := { e.conn with send := (tkR e s).1 } } : Ep) = tk1 e s := rfl
theorem tkM_fold : epMeasure (tk1 e s) s.ack = tkM e s := rfl
theorem tk2_fold : ({ tkM e s with conn := { (tkM e s).conn with tries := 0, due := 0 } } : Ep) = tk2 e s := rfl
theorem tk3_fold : (if 0 < sendFlight (tkR e s).1 then epArm (tk2 e s) else tk2 e s) = tk3 e s := rfl
theorem tk4_fold : (if 0 < (tkR e s).2.1 then tk3 e s else tk1 e s) = tk4 e s := rfl
theorem tk5_fold : ({ tk4 e s with conn := { (tk4 e s).conn with window := IntKind.i64.wrap s.wnd } } : Ep) = tk5 e s := rfl
theorem tk6_fold : (if IntKind.i64.wrap s.wnd = 0 then { tk5 e s with conn := { (tk5 e s).conn with window := IntKind.i64.wrap s.wnd, tries := 0 } } else tk5 e s) = tk6 e s := rfl
theorem tk5_window : (tk5 e s).conn.window = IntKind.i64.wrap s.wnd := rfl
theorem tk7_fold : (if s.ack = (tkR e s).1.una then tk6 e s else tk4 e s) = tk7 e s := rfl
theorem tk8_fold : ({ tk7 e s with conn := { (tk7 e s).conn with recv := recvAcc (tk7 e s).conn.recv s.seq s.data (hasF s.flags 1) } } : Ep) = tk8 e s := rfl
theorem tk9_fold : epOver (tk8 e s) = tk9 e s := rfl
theorem epMeasure_keeps (a : Int) : (epMeasure e a).conn.send = e.conn.send ∧ (epMeasure e a).conn.recv = e.conn.recv ∧ (epMeasure e a).out = e.out ∧ (epMeasure e a).conn.phase = e.conn.phase ∧ (epMeasure e a).conn.first = e.conn.first ∧ (epMeasure e a).conn.window = e.conn.window ∧ (epMeasure e a).conn.mss = e.conn.mss ∧ (epMeasure e a).conn.tries = e.conn.tries ∧ (epMeasure e a).conn.due = e.conn.due ∧ (epMeasure e a).conn.err = e.conn.err ∧ (epMeasure e a).conn.ended = e.conn.ended ∧ (epMeasure e a).now = e.now ∧ (epMeasure e a).conn.self = e.conn.self ∧ (epMeasure e a).conn.peer = e.conn.peer ∧ (epMeasure e a).conn.till = e.conn.till := by
  unfold epMeasure; split <;> exact ⟨rfl, rfl, rfl, rfl, rfl, rfl, rfl, rfl, rfl, rfl, rfl, rfl, rfl, rfl, rfl⟩
theorem tk0_keeps : (tk0 e s).conn.send = e.conn.send ∧ (tk0 e s).conn.recv = e.conn.recv ∧ (tk0 e s).out = e.out := by
  unfold tk0 epOpened
  split
  · obtain ⟨a, b, c, -⟩ := epMeasure_keeps { e with conn := { e.conn with phase := 3, tries := 0, due := 0 } } s.ack
    exact ⟨a, b, c⟩
  · exact ⟨rfl, rfl, rfl⟩
theorem tk4_keeps : (tk4 e s).conn.send = (tkR e s).1 ∧ (tk4 e s).conn.recv = e.conn.recv ∧ (tk4 e s).out = e.out := by
  obtain ⟨a, b, c, -⟩ := epMeasure_keeps (tk1 e s) s.ack
  unfold tk4
  split
  · unfold tk3
    split
    · exact ⟨a, b, c⟩
    · exact ⟨a, b, c⟩
  · exact ⟨rfl, rfl, rfl⟩
theorem tk7_keeps : (tk7 e s).conn.send = (tkR e s).1 ∧ (tk7 e s).conn.recv = e.conn.recv ∧ (tk7 e s).out = e.out := by
  obtain ⟨a, b, c⟩ := tk4_keeps e s
  unfold tk7
  split
  · unfold tk6
    split
    · exact ⟨a, b, c⟩
    · exact ⟨a, b, c⟩
  · exact ⟨a, b, c⟩
theorem epOver_keeps : (epOver e).conn.send = e.conn.send ∧ (epOver e).conn.recv = e.conn.recv ∧ (epOver e).out = e.out := by
  unfold epOver epShut
  split
  · exact ⟨rfl, rfl, rfl⟩
  · split <;> exact ⟨rfl, rfl, rfl⟩
theorem tk9_keeps : (tk9 e s).conn.send = (tkR e s).1 ∧ (tk9 e s).conn.recv = recvAcc e.conn.recv s.seq s.data (hasF s.flags 1) ∧ (tk9 e s).out = e.out := by
  obtain ⟨a, b, c⟩ := epOver_keeps (tk8 e s)
  obtain ⟨a1, b1, c1⟩ := tk7_keeps e s
  refine ⟨a.trans a1, b.trans ?_, c.trans c1⟩
  unfold tk8
  rw [b1]
theorem pushLoop_len : ∀ (n : Nat) (e : Ep), (pushLoop n e).out.length ≤ e.out.length + n
  | 0, e => Nat.le_refl _
  | n + 1, e => by
    simp only [pushLoop]
    split
    · have := pushLoop_len n (pushStep e)
      rw [pushStep_out] at this
      omega
    · omega
theorem epPush_len (h : e.conn.send.sm) : (epPush e).out.length ≤ e.out.length + 4097 := by
  have := pushLoop_len (pushM e.conn.send) e
  have := pushM_le h
  unfold epPush
  omega
theorem sendAck_sm {q : Send} (a : Int) (h : q.sm) : (sendAck q a).1.sm := by
  rcases ack_facts q a h with h2 | ⟨h2, h3, h4⟩
  · unfold sendAck; rw [if_pos h2]; exact h
  · unfold sendAck
    rw [if_neg h2]
    split
    · exact h
    · obtain ⟨h5, h6, h7⟩ := h
      have h8 : minI (seqDiff a q.una) q.sent ≤ q.sent := by unfold minI; split <;> omega
      have h9 : IntKind.i64.wrap (q.sent - minI (seqDiff a q.una) q.sent) = q.sent - minI (seqDiff a q.una) q.sent := wi_of (by omega) (by omega)
      refine ⟨?_, ?_, ?_⟩
      · simp only [h9]; omega
      · simp only [h9, List.length_drop]; omega
      · simp only [List.length_drop]; omega
/-- What 'takes' asks. -/
def takesPre (e : Ep) (s : Seg) : Prop := e.conn.send.sm ∧ aOk e.conn.recv s.seq s.data (hasF s.flags 1) ∧ e.out.length ≤ 90000
theorem takes_facts {e : Ep} {s : Seg} (h : takesPre e s) : Rm 1 e.out ∧ (tk0 e s).conn.send.sm ∧ Rm 1 (tk0 e s).out ∧ aOk (tk7 (tk0 e s) s).conn.recv s.seq s.data (hasF s.flags 1) ∧ (tk9 (tk0 e s) s).conn.send.sm ∧ Rm (pushM (tk9 (tk0 e s) s).conn.send) (tk9 (tk0 e s) s).out ∧ Rm 1 (epPush (tk9 (tk0 e s) s)).out := by
  obtain ⟨h1, h2, h3⟩ := h
  obtain ⟨a, b, c⟩ := tk0_keeps e s
  obtain ⟨a1, b1, c1⟩ := tk7_keeps (tk0 e s) s
  obtain ⟨a2, b2, c2⟩ := tk9_keeps (tk0 e s) s
  have h4 : (tk9 (tk0 e s) s).conn.send.sm := by rw [a2]; exact sendAck_sm _ (by rw [a]; exact h1)
  refine ⟨by unfold Rm; omega, by rw [a]; exact h1, by rw [c]; unfold Rm; omega, by rw [b1, b]; exact h2, h4, ?_, ?_⟩
  · have := pushM_le h4
    rw [c2, c]
    unfold Rm; omega
  · have := epPush_len (tk9 (tk0 e s) s) h4
    rw [c2, c] at this
    unfold Rm; omega
end
end Caw
namespace Caw
open Go
/-! ### the other functions of tcb -/
def bare (s : Seg) : Seg := ⟨s.src, s.dst, s.seq, s.ack, bAndNot .u8 s.flags 1, s.wnd, s.mss, []⟩
def lateB (e : Ep) (s : Seg) : Ep := if recvWindow e.conn.recv = 0 ∧ hasF s.flags 16 = true ∧ seqIn s.seq e.conn.recv.next 3 = true then takes e (bare s) else e
def late (e : Ep) (s : Seg) : Ep := if 0 < segLen s ∧ (lateB e s).out.length = 0 then epAck (lateB e s) else lateB e s
theorem bare_fold (s : Seg) : (⟨s.src, s.dst, s.seq, s.ack, bAndNot .u8 s.flags 1, s.wnd, s.mss, []⟩ : Seg) = bare s := rfl
theorem lateB_fold (e : Ep) (s : Seg) : (if recvWindow e.conn.recv = 0 ∧ hasF s.flags 16 = true ∧ seqIn s.seq e.conn.recv.next 3 = true then takes e (bare s) else e) = lateB e s := rfl
theorem takesC_len {e : Ep} (s : Seg) (h : e.conn.send.sm) : (takesC e s).out.length ≤ e.out.length + 4098 := by
  have := epPush_len e h
  unfold takesC
  split
  · simp only [epAck, epTell, List.length_append, List.length_singleton]; omega
  · omega
theorem takes_len {e : Ep} (s : Seg) (h : e.conn.send.sm) : (takes e s).out.length ≤ e.out.length + 4098 := by
  unfold takes
  split
  · simp
  · unfold takesB
    obtain ⟨a, b, c⟩ := tk0_keeps e s
    split
    · obtain ⟨a2, b2, c2⟩ := tk9_keeps (tk0 e s) s
      have := takesC_len (e := tk9 (tk0 e s) s) s (by rw [a2]; exact sendAck_sm _ (by rw [a]; exact h))
      rw [c2, c] at this
      exact this
    · simp only [epAck, epTell, List.length_append, List.length_singleton, c]; omega
theorem lateB_len {e : Ep} (s : Seg) (h : e.conn.send.sm) : (lateB e s).out.length ≤ e.out.length + 4098 := by
  unfold lateB
  split
  · exact takes_len _ h
  · omega
theorem late_facts {e : Ep} {s : Seg} (h : takesPre e (bare s)) : Rm 1 (lateB e s).out := by
  have := lateB_len s h.1
  have := h.2.2
  unfold Rm; omega
theorem epMeet_keeps (e : Ep) (s : Seg) : (epMeet e s).conn.send = e.conn.send ∧ (epMeet e s).out = e.out := ⟨rfl, rfl⟩
theorem epOpened_keeps (e : Ep) (s : Seg) : (epOpened e s).conn.send = e.conn.send ∧ (epOpened e s).out = e.out := by
  obtain ⟨a, b, c, -⟩ := epMeasure_keeps { e with conn := { e.conn with phase := 3, tries := 0, due := 0 } } s.ack
  exact ⟨a, c⟩
theorem epAck_keeps (e : Ep) : (epAck e).conn = e.conn ∧ (epAck e).out.length = e.out.length + 1 := ⟨rfl, by simp [epAck, epTell]⟩
def dialPre (e : Ep) : Prop := e.conn.send.sm ∧ e.out.length ≤ 90000
theorem dial_facts {e : Ep} (s : Seg) (h : dialPre e) : Rm 1 e.out ∧ Rm 1 (epOpened (epMeet e s) s).out ∧ (epAck (epOpened (epMeet e s) s)).conn.send.sm ∧ Rm (pushM (epAck (epOpened (epMeet e s) s)).conn.send) (epAck (epOpened (epMeet e s) s)).out ∧
    Rm 1 (epMeet { e with conn := { e.conn with phase := 2 } } s).out := by
  obtain ⟨h1, h2⟩ := h
  obtain ⟨a, b⟩ := epOpened_keeps (epMeet e s) s
  obtain ⟨c, d⟩ := epAck_keeps (epOpened (epMeet e s) s)
  have h3 : (epAck (epOpened (epMeet e s) s)).conn.send.sm := by rw [c, a]; exact h1
  have h4 := pushM_le h3
  refine ⟨by unfold Rm; omega, by rw [b]; unfold Rm; show e.out.length + 1 ≤ _; omega, h3, ?_, by unfold Rm; show e.out.length + 1 ≤ _; omega⟩
  unfold Rm
  rw [d, b]
  show e.out.length + 1 + _ ≤ _
  omega
theorem isMine_fold (e : Ep) (s : Seg) : (hasF s.flags 16 && decide (s.ack = seqAdd e.conn.first 1)) = isMine e s := rfl
/-- What 'Hear' asks. -/
def hearPre (c : Conn) (s : Seg) : Prop := c.sm ∧ aOk c.recv s.seq s.data (hasF s.flags 1) ∧ aOk c.recv s.seq [] (hasF (bAndNot .u8 s.flags 1) 1)
def hear (c : Conn) (s : Seg) (now : Int) : Ep :=
  let e : Ep := ⟨c, now, []⟩
  if c.phase = 0 then e
  else if c.phase = 1 then epDialling e s
  else if hasF s.flags 4 = true then (if seqFits s.seq 0 c.recv.next (recvWindow c.recv) = true then epBroken e else e)
  else if hasF s.flags 2 = true then epAck e
  else if seqFits s.seq (segLen s) c.recv.next (recvWindow c.recv) = false then late e s
  else if hasF s.flags 16 = true then takes e s
  else e
theorem hear_facts {c : Conn} {s : Seg} (now : Int) (h : hearPre c s) : takesPre ⟨c, now, []⟩ s ∧ takesPre ⟨c, now, []⟩ (bare s) ∧ dialPre ⟨c, now, []⟩ :=
  ⟨⟨h.1.s, h.2.1, by simp⟩, ⟨h.1.s, h.2.2, by simp⟩, h.1.s, by simp⟩
end Caw
namespace Caw
open Go
theorem dial_eq (e : Ep) (s : Seg) : (if hasF s.flags 4 = true then if hasF s.flags 16 = true ∧ s.ack = seqAdd e.conn.first 1 then epShut e 14 else e
    else
      if hasF s.flags 16 = true ∧ (hasF s.flags 16 = false ∨ ¬s.ack = seqAdd e.conn.first 1) then { e with out := e.out ++ [refuse s] }
      else
        if hasF s.flags 2 = true ∧ hasF s.flags 16 = true ∧ s.ack = seqAdd e.conn.first 1 then epPush (epAck (epOpened (epMeet e s) s))
        else if hasF s.flags 2 = true then epHello (epMeet { e with conn := { e.conn with phase := 2 } } s) else e) = epDialling e s := by
  unfold epDialling isMine
  by_cases ha : s.ack = seqAdd e.conn.first 1 <;> cases hasF s.flags 4 <;> cases hasF s.flags 16 <;> cases hasF s.flags 2 <;> simp [ha]
end Caw
namespace Caw
open Go
theorem sendWrite_sm {q : Send} (d : List Int) (h : q.sm) (h2 : q.data.length ≤ 256) : (sendWrite q d).1.sm := by
  obtain ⟨a, b, c, e⟩ := write_facts q d h2
  obtain ⟨h3, h4, h5⟩ := h
  have hr : sendRoom q ≤ 256 := by
    unfold sendRoom
    split
    · omega
    · rw [wi_of (by omega) (by omega)]; omega
  have hm : minI d.length (sendRoom q) ≤ 256 := by unfold minI; split <;> omega
  refine ⟨h3, ?_, ?_⟩
  · simp only [sendWrite, List.length_append, List.length_take]; omega
  · simp only [sendWrite, List.length_append, List.length_take]; omega
theorem write_pre {c : Conn} (d : List Int) (h : c.sm) (h2 : c.send.data.length ≤ 256) : (sendWrite c.send d).1.sm ∧ pushM (sendWrite c.send d).1 ≤ 100000 := by
  have := sendWrite_sm d h.s h2
  exact ⟨this, by have := pushM_le this; omega⟩
theorem close_pre {c : Conn} (h : c.sm) : (sendClose c.send).sm ∧ pushM (sendClose c.send) ≤ 100000 := by
  have h1 : (sendClose c.send).sm := h.s
  exact ⟨h1, by have := pushM_le h1; omega⟩
end Caw
namespace Caw
open Go
theorem epArm_out (e : Ep) : (epArm e).out = e.out := rfl
theorem epArm_send (e : Ep) : (epArm e).conn.send = e.conn.send := rfl
theorem one_seg0 (a b c d e f g : Int) : [AV.agg [.v (.int .u16 a), .v (.int .u16 b), .v (.int .u32 c), .v (.int .u32 d), .v (.int .u8 e), .v (.int .u16 f), .v (.int .u16 g), .sl 1 [] none]] = encS segCells [⟨a, b, c, d, e, f, g, []⟩] := by simp [encS, segCells]
def stOpen (c : Conn) : ByteArray :=
  if c.send.fin = false ∧ c.recv.done = false then ⟨#[69, 83, 84, 65, 66, 76, 73, 83, 72, 69, 68]⟩
  else if c.send.fin = false then ⟨#[67, 76, 79, 83, 69, 45, 87, 65, 73, 84]⟩
  else if c.recv.done = false ∧ c.send.finAcked = true then ⟨#[70, 73, 78, 45, 87, 65, 73, 84, 45, 50]⟩
  else if c.recv.done = false then ⟨#[70, 73, 78, 45, 87, 65, 73, 84, 45, 49]⟩
  else if c.ended = true then ⟨#[67, 76, 79, 83, 73, 78, 71]⟩
  else ⟨#[76, 65, 83, 84, 45, 65, 67, 75]⟩
def stName (c : Conn) : ByteArray :=
  if c.phase = 1 then ⟨#[83, 89, 78, 45, 83, 69, 78, 84]⟩
  else if c.phase = 2 then ⟨#[83, 89, 78, 45, 82, 69, 67, 69, 73, 86, 69, 68]⟩
  else if c.phase = 4 then ⟨#[84, 73, 77, 69, 45, 87, 65, 73, 84]⟩
  else if c.phase = 3 then stOpen c
  else ⟨#[67, 76, 79, 83, 69, 68]⟩
end Caw

/-! Printed by gencells2.py: the structures of the laws of layer tcb. -/
namespace Caw
open Go Go.RowKit
set_option linter.unusedSimpArgs false
set_option maxRecDepth 100000

@[ext] structure Talk where
  c0 : Conn
  c1 : Conn
  is0 : Bool
  is1 : Bool
  first0 : Int
  first1 : Int
  way0 : List Seg
  way1 : List Seg
  written0 : ByteArray
  written1 : ByteArray
  read0 : ByteArray
  read1 : ByteArray
  closed0 : Bool
  closed1 : Bool
  told0 : Bool
  told1 : Bool
  now : Int
  wrong : Bool
deriving Inhabited
def talkCells (x : Talk) : List AV := [.v (.int .i64 x.c0.phase), .v (.int .u8 x.c0.self.a), .v (.int .u8 x.c0.self.b), .v (.int .u8 x.c0.self.c), .v (.int .u8 x.c0.self.d), .v (.int .u16 x.c0.self.port), .v (.int .u8 x.c0.peer.a), .v (.int .u8 x.c0.peer.b), .v (.int .u8 x.c0.peer.c), .v (.int .u8 x.c0.peer.d), .v (.int .u16 x.c0.peer.port), .v (.int .u32 x.c0.first), .v (.int .u32 x.c0.send.una), .sl 1 (encB x.c0.send.data) none, .v (.int .i64 x.c0.send.sent), .v (.bool x.c0.send.fin), .v (.bool x.c0.send.finSent), .v (.bool x.c0.send.finAcked), .v (.int .u32 x.c0.recv.next), .sl 1 (encB x.c0.recv.data) none, .sl 2 (encS pieceCells x.c0.recv.ahead) none, .v (.bool x.c0.recv.known), .v (.int .u32 x.c0.recv.fin), .v (.bool x.c0.recv.done), .v (.int .i64 x.c0.window), .v (.int .i64 x.c0.mss), .v (.int .i64 x.c0.clock.smooth), .v (.int .i64 x.c0.clock.spread), .v (.int .i64 x.c0.clock.wait), .v (.int .u64 x.c0.due), .v (.int .i64 x.c0.tries), .v (.bool x.c0.timing), .v (.int .u32 x.c0.timedSeq), .v (.int .u64 x.c0.timedAt), .v (.int .u64 x.c0.till), .v (.bool x.c0.ended), .v (.int .i64 x.c0.err), .v (.int .i64 x.c1.phase), .v (.int .u8 x.c1.self.a), .v (.int .u8 x.c1.self.b), .v (.int .u8 x.c1.self.c), .v (.int .u8 x.c1.self.d), .v (.int .u16 x.c1.self.port), .v (.int .u8 x.c1.peer.a), .v (.int .u8 x.c1.peer.b), .v (.int .u8 x.c1.peer.c), .v (.int .u8 x.c1.peer.d), .v (.int .u16 x.c1.peer.port), .v (.int .u32 x.c1.first), .v (.int .u32 x.c1.send.una), .sl 1 (encB x.c1.send.data) none, .v (.int .i64 x.c1.send.sent), .v (.bool x.c1.send.fin), .v (.bool x.c1.send.finSent), .v (.bool x.c1.send.finAcked), .v (.int .u32 x.c1.recv.next), .sl 1 (encB x.c1.recv.data) none, .sl 2 (encS pieceCells x.c1.recv.ahead) none, .v (.bool x.c1.recv.known), .v (.int .u32 x.c1.recv.fin), .v (.bool x.c1.recv.done), .v (.int .i64 x.c1.window), .v (.int .i64 x.c1.mss), .v (.int .i64 x.c1.clock.smooth), .v (.int .i64 x.c1.clock.spread), .v (.int .i64 x.c1.clock.wait), .v (.int .u64 x.c1.due), .v (.int .i64 x.c1.tries), .v (.bool x.c1.timing), .v (.int .u32 x.c1.timedSeq), .v (.int .u64 x.c1.timedAt), .v (.int .u64 x.c1.till), .v (.bool x.c1.ended), .v (.int .i64 x.c1.err), .v (.bool x.is0), .v (.bool x.is1), .v (.int .u32 x.first0), .v (.int .u32 x.first1), .sl 8 (encS segCells x.way0) none, .sl 8 (encS segCells x.way1) none, .v (.string x.written0), .v (.string x.written1), .v (.string x.read0), .v (.string x.read1), .v (.bool x.closed0), .v (.bool x.closed1), .v (.bool x.told0), .v (.bool x.told1), .v (.int .u64 x.now), .v (.bool x.wrong)]
noncomputable def pTalk : List AV → Option (Talk × List AV) := fun cs => (pConn cs).bind fun (a0, cs) => (pConn cs).bind fun (a1, cs) => (pT cs).bind fun (a2, cs) => (pT cs).bind fun (a3, cs) => (pI .u32 cs).bind fun (a4, cs) => (pI .u32 cs).bind fun (a5, cs) => (pSl 8 pSeg segCells cs).bind fun (a6, cs) => (pSl 8 pSeg segCells cs).bind fun (a7, cs) => (pS cs).bind fun (a8, cs) => (pS cs).bind fun (a9, cs) => (pS cs).bind fun (a10, cs) => (pS cs).bind fun (a11, cs) => (pT cs).bind fun (a12, cs) => (pT cs).bind fun (a13, cs) => (pT cs).bind fun (a14, cs) => (pT cs).bind fun (a15, cs) => (pI .u64 cs).bind fun (a16, cs) => (pT cs).bind fun (a17, cs) => some (⟨a0, a1, a2, a3, a4, a5, a6, a7, a8, a9, a10, a11, a12, a13, a14, a15, a16, a17⟩, cs)
theorem pTalk_snd : Snd CoP pTalk (fun x => talkCells x) := by
  intro cs x r h0
  unfold pTalk at h0
  obtain ⟨a0, r0, q0, h1, e0, c0⟩ := Snd.step pConn_snd h0
  obtain ⟨a1, r1, q1, h2, e1, c1⟩ := Snd.step pConn_snd h1
  obtain ⟨a2, r2, q2, h3, e2, c2⟩ := Snd.step pT_snd h2
  obtain ⟨a3, r3, q3, h4, e3, c3⟩ := Snd.step pT_snd h3
  obtain ⟨a4, r4, q4, h5, e4, c4⟩ := Snd.step (pI_snd .u32) h4
  obtain ⟨a5, r5, q5, h6, e5, c5⟩ := Snd.step (pI_snd .u32) h5
  obtain ⟨a6, r6, q6, h7, e6, c6⟩ := Snd.step (pSl_snd 8 pSeg segCells) h6
  obtain ⟨a7, r7, q7, h8, e7, c7⟩ := Snd.step (pSl_snd 8 pSeg segCells) h7
  obtain ⟨a8, r8, q8, h9, e8, c8⟩ := Snd.step pS_snd h8
  obtain ⟨a9, r9, q9, h10, e9, c9⟩ := Snd.step pS_snd h9
  obtain ⟨a10, r10, q10, h11, e10, c10⟩ := Snd.step pS_snd h10
  obtain ⟨a11, r11, q11, h12, e11, c11⟩ := Snd.step pS_snd h11
  obtain ⟨a12, r12, q12, h13, e12, c12⟩ := Snd.step pT_snd h12
  obtain ⟨a13, r13, q13, h14, e13, c13⟩ := Snd.step pT_snd h13
  obtain ⟨a14, r14, q14, h15, e14, c14⟩ := Snd.step pT_snd h14
  obtain ⟨a15, r15, q15, h16, e15, c15⟩ := Snd.step pT_snd h15
  obtain ⟨a16, r16, q16, h17, e16, c16⟩ := Snd.step (pI_snd .u64) h16
  obtain ⟨a17, r17, q17, h18, e17, c17⟩ := Snd.step pT_snd h17
  cases h18
  subst e17 e16 e15 e14 e13 e12 e11 e10 e9 e8 e7 e6 e5 e4 e3 e2 e1 e0
  exact ⟨(q0 ++ (q1 ++ (q2 ++ (q3 ++ (q4 ++ (q5 ++ (q6 ++ (q7 ++ (q8 ++ (q9 ++ (q10 ++ (q11 ++ (q12 ++ (q13 ++ (q14 ++ (q15 ++ (q16 ++ q17))))))))))))))))), by simp only [List.append_assoc], (c0.app (c1.app (c2.app (c3.app (c4.app (c5.app (c6.app (c7.app (c8.app (c9.app (c10.app (c11.app (c12.app (c13.app (c14.app (c15.app (c16.app c17)))))))))))))))))⟩
@[simp] theorem pTalk_app (x : Talk) (r : List AV) : pTalk (talkCells x ++ r) = some (x, r) := by simp [pTalk, talkCells, pConn, pAddr, pSend, pRecv, decS_enc pPiece_all, pClock, decS_enc pSeg_all]
@[simp] theorem pTalk_all (x : Talk) : pTalk (talkCells x) = some (x, []) := by have := pTalk_app x []; rwa [List.append_nil] at this
@[simp] theorem talkCells_len (x : Talk) : (talkCells x).length = 90 := rfl
@[simp high] theorem mkAgg_talk (x : Talk) : mkAgg (talkCells x) = .agg (talkCells x) := rfl
@[simp] theorem whole_talk (x : Talk) : whole pTalk (.agg (talkCells x)) = some x := by simp
@[simp] theorem talk_cut_c0 (x : Talk) : cut (talkCells x) 0 37 = connCells x.c0 := rfl
@[simp] theorem talk_put_c0 (x : Talk) (y : Conn) : splice (talkCells x) 0 (connCells y) 37 = talkCells { x with c0 := y } := rfl
@[simp] theorem talk_get_c0_phase (x : Talk) : (talkCells x)[0]? = some (.v (.int .i64 x.c0.phase)) := rfl
@[simp] theorem talk_put_c0_phase (x : Talk) (y : Int) : splice (talkCells x) 0 [.v (.int .i64 y)] 1 = talkCells { x with c0 := { x.c0 with phase := y } } := rfl
@[simp] theorem talk_cut_c0_self (x : Talk) : cut (talkCells x) 1 5 = addrCells x.c0.self := rfl
@[simp] theorem talk_put_c0_self (x : Talk) (y : Addr) : splice (talkCells x) 1 (addrCells y) 5 = talkCells { x with c0 := { x.c0 with self := y } } := rfl
@[simp] theorem talk_get_c0_self_a (x : Talk) : (talkCells x)[1]? = some (.v (.int .u8 x.c0.self.a)) := rfl
@[simp] theorem talk_put_c0_self_a (x : Talk) (y : Int) : splice (talkCells x) 1 [.v (.int .u8 y)] 1 = talkCells { x with c0 := { x.c0 with self := { x.c0.self with a := y } } } := rfl
@[simp] theorem talk_get_c0_self_b (x : Talk) : (talkCells x)[2]? = some (.v (.int .u8 x.c0.self.b)) := rfl
@[simp] theorem talk_put_c0_self_b (x : Talk) (y : Int) : splice (talkCells x) 2 [.v (.int .u8 y)] 1 = talkCells { x with c0 := { x.c0 with self := { x.c0.self with b := y } } } := rfl
@[simp] theorem talk_get_c0_self_c (x : Talk) : (talkCells x)[3]? = some (.v (.int .u8 x.c0.self.c)) := rfl
@[simp] theorem talk_put_c0_self_c (x : Talk) (y : Int) : splice (talkCells x) 3 [.v (.int .u8 y)] 1 = talkCells { x with c0 := { x.c0 with self := { x.c0.self with c := y } } } := rfl
@[simp] theorem talk_get_c0_self_d (x : Talk) : (talkCells x)[4]? = some (.v (.int .u8 x.c0.self.d)) := rfl
@[simp] theorem talk_put_c0_self_d (x : Talk) (y : Int) : splice (talkCells x) 4 [.v (.int .u8 y)] 1 = talkCells { x with c0 := { x.c0 with self := { x.c0.self with d := y } } } := rfl
@[simp] theorem talk_get_c0_self_port (x : Talk) : (talkCells x)[5]? = some (.v (.int .u16 x.c0.self.port)) := rfl
@[simp] theorem talk_put_c0_self_port (x : Talk) (y : Int) : splice (talkCells x) 5 [.v (.int .u16 y)] 1 = talkCells { x with c0 := { x.c0 with self := { x.c0.self with port := y } } } := rfl
@[simp] theorem talk_cut_c0_peer (x : Talk) : cut (talkCells x) 6 5 = addrCells x.c0.peer := rfl
@[simp] theorem talk_put_c0_peer (x : Talk) (y : Addr) : splice (talkCells x) 6 (addrCells y) 5 = talkCells { x with c0 := { x.c0 with peer := y } } := rfl
@[simp] theorem talk_get_c0_peer_a (x : Talk) : (talkCells x)[6]? = some (.v (.int .u8 x.c0.peer.a)) := rfl
@[simp] theorem talk_put_c0_peer_a (x : Talk) (y : Int) : splice (talkCells x) 6 [.v (.int .u8 y)] 1 = talkCells { x with c0 := { x.c0 with peer := { x.c0.peer with a := y } } } := rfl
@[simp] theorem talk_get_c0_peer_b (x : Talk) : (talkCells x)[7]? = some (.v (.int .u8 x.c0.peer.b)) := rfl
@[simp] theorem talk_put_c0_peer_b (x : Talk) (y : Int) : splice (talkCells x) 7 [.v (.int .u8 y)] 1 = talkCells { x with c0 := { x.c0 with peer := { x.c0.peer with b := y } } } := rfl
@[simp] theorem talk_get_c0_peer_c (x : Talk) : (talkCells x)[8]? = some (.v (.int .u8 x.c0.peer.c)) := rfl
@[simp] theorem talk_put_c0_peer_c (x : Talk) (y : Int) : splice (talkCells x) 8 [.v (.int .u8 y)] 1 = talkCells { x with c0 := { x.c0 with peer := { x.c0.peer with c := y } } } := rfl
@[simp] theorem talk_get_c0_peer_d (x : Talk) : (talkCells x)[9]? = some (.v (.int .u8 x.c0.peer.d)) := rfl
@[simp] theorem talk_put_c0_peer_d (x : Talk) (y : Int) : splice (talkCells x) 9 [.v (.int .u8 y)] 1 = talkCells { x with c0 := { x.c0 with peer := { x.c0.peer with d := y } } } := rfl
@[simp] theorem talk_get_c0_peer_port (x : Talk) : (talkCells x)[10]? = some (.v (.int .u16 x.c0.peer.port)) := rfl
@[simp] theorem talk_put_c0_peer_port (x : Talk) (y : Int) : splice (talkCells x) 10 [.v (.int .u16 y)] 1 = talkCells { x with c0 := { x.c0 with peer := { x.c0.peer with port := y } } } := rfl
@[simp] theorem talk_get_c0_first (x : Talk) : (talkCells x)[11]? = some (.v (.int .u32 x.c0.first)) := rfl
@[simp] theorem talk_put_c0_first (x : Talk) (y : Int) : splice (talkCells x) 11 [.v (.int .u32 y)] 1 = talkCells { x with c0 := { x.c0 with first := y } } := rfl
@[simp] theorem talk_cut_c0_send (x : Talk) : cut (talkCells x) 12 6 = sendCells x.c0.send := rfl
@[simp] theorem talk_put_c0_send (x : Talk) (y : Send) : splice (talkCells x) 12 (sendCells y) 6 = talkCells { x with c0 := { x.c0 with send := y } } := rfl
@[simp] theorem talk_get_c0_send_una (x : Talk) : (talkCells x)[12]? = some (.v (.int .u32 x.c0.send.una)) := rfl
@[simp] theorem talk_put_c0_send_una (x : Talk) (y : Int) : splice (talkCells x) 12 [.v (.int .u32 y)] 1 = talkCells { x with c0 := { x.c0 with send := { x.c0.send with una := y } } } := rfl
@[simp] theorem talk_get_c0_send_data (x : Talk) : (talkCells x)[13]? = some (.sl 1 (encB x.c0.send.data) none) := rfl
@[simp] theorem talk_put_c0_send_data (x : Talk) (y : List Int) : splice (talkCells x) 13 [.sl 1 (encB y) none] 1 = talkCells { x with c0 := { x.c0 with send := { x.c0.send with data := y } } } := rfl
@[simp] theorem talk_get_c0_send_sent (x : Talk) : (talkCells x)[14]? = some (.v (.int .i64 x.c0.send.sent)) := rfl
@[simp] theorem talk_put_c0_send_sent (x : Talk) (y : Int) : splice (talkCells x) 14 [.v (.int .i64 y)] 1 = talkCells { x with c0 := { x.c0 with send := { x.c0.send with sent := y } } } := rfl
@[simp] theorem talk_get_c0_send_fin (x : Talk) : (talkCells x)[15]? = some (.v (.bool x.c0.send.fin)) := rfl
@[simp] theorem talk_put_c0_send_fin (x : Talk) (y : Bool) : splice (talkCells x) 15 [.v (.bool y)] 1 = talkCells { x with c0 := { x.c0 with send := { x.c0.send with fin := y } } } := rfl
@[simp] theorem talk_get_c0_send_finSent (x : Talk) : (talkCells x)[16]? = some (.v (.bool x.c0.send.finSent)) := rfl
@[simp] theorem talk_put_c0_send_finSent (x : Talk) (y : Bool) : splice (talkCells x) 16 [.v (.bool y)] 1 = talkCells { x with c0 := { x.c0 with send := { x.c0.send with finSent := y } } } := rfl
@[simp] theorem talk_get_c0_send_finAcked (x : Talk) : (talkCells x)[17]? = some (.v (.bool x.c0.send.finAcked)) := rfl
@[simp] theorem talk_put_c0_send_finAcked (x : Talk) (y : Bool) : splice (talkCells x) 17 [.v (.bool y)] 1 = talkCells { x with c0 := { x.c0 with send := { x.c0.send with finAcked := y } } } := rfl
@[simp] theorem talk_cut_c0_recv (x : Talk) : cut (talkCells x) 18 6 = recvCells x.c0.recv := rfl
@[simp] theorem talk_put_c0_recv (x : Talk) (y : Recv) : splice (talkCells x) 18 (recvCells y) 6 = talkCells { x with c0 := { x.c0 with recv := y } } := rfl
@[simp] theorem talk_get_c0_recv_next (x : Talk) : (talkCells x)[18]? = some (.v (.int .u32 x.c0.recv.next)) := rfl
@[simp] theorem talk_put_c0_recv_next (x : Talk) (y : Int) : splice (talkCells x) 18 [.v (.int .u32 y)] 1 = talkCells { x with c0 := { x.c0 with recv := { x.c0.recv with next := y } } } := rfl
@[simp] theorem talk_get_c0_recv_data (x : Talk) : (talkCells x)[19]? = some (.sl 1 (encB x.c0.recv.data) none) := rfl
@[simp] theorem talk_put_c0_recv_data (x : Talk) (y : List Int) : splice (talkCells x) 19 [.sl 1 (encB y) none] 1 = talkCells { x with c0 := { x.c0 with recv := { x.c0.recv with data := y } } } := rfl
@[simp] theorem talk_get_c0_recv_ahead (x : Talk) : (talkCells x)[20]? = some (.sl 2 (encS pieceCells x.c0.recv.ahead) none) := rfl
@[simp] theorem talk_put_c0_recv_ahead (x : Talk) (y : List Piece) : splice (talkCells x) 20 [.sl 2 (encS pieceCells y) none] 1 = talkCells { x with c0 := { x.c0 with recv := { x.c0.recv with ahead := y } } } := rfl
@[simp] theorem talk_get_c0_recv_known (x : Talk) : (talkCells x)[21]? = some (.v (.bool x.c0.recv.known)) := rfl
@[simp] theorem talk_put_c0_recv_known (x : Talk) (y : Bool) : splice (talkCells x) 21 [.v (.bool y)] 1 = talkCells { x with c0 := { x.c0 with recv := { x.c0.recv with known := y } } } := rfl
@[simp] theorem talk_get_c0_recv_fin (x : Talk) : (talkCells x)[22]? = some (.v (.int .u32 x.c0.recv.fin)) := rfl
@[simp] theorem talk_put_c0_recv_fin (x : Talk) (y : Int) : splice (talkCells x) 22 [.v (.int .u32 y)] 1 = talkCells { x with c0 := { x.c0 with recv := { x.c0.recv with fin := y } } } := rfl
@[simp] theorem talk_get_c0_recv_done (x : Talk) : (talkCells x)[23]? = some (.v (.bool x.c0.recv.done)) := rfl
@[simp] theorem talk_put_c0_recv_done (x : Talk) (y : Bool) : splice (talkCells x) 23 [.v (.bool y)] 1 = talkCells { x with c0 := { x.c0 with recv := { x.c0.recv with done := y } } } := rfl
@[simp] theorem talk_get_c0_window (x : Talk) : (talkCells x)[24]? = some (.v (.int .i64 x.c0.window)) := rfl
@[simp] theorem talk_put_c0_window (x : Talk) (y : Int) : splice (talkCells x) 24 [.v (.int .i64 y)] 1 = talkCells { x with c0 := { x.c0 with window := y } } := rfl
@[simp] theorem talk_get_c0_mss (x : Talk) : (talkCells x)[25]? = some (.v (.int .i64 x.c0.mss)) := rfl
@[simp] theorem talk_put_c0_mss (x : Talk) (y : Int) : splice (talkCells x) 25 [.v (.int .i64 y)] 1 = talkCells { x with c0 := { x.c0 with mss := y } } := rfl
@[simp] theorem talk_cut_c0_clock (x : Talk) : cut (talkCells x) 26 3 = clockCells x.c0.clock := rfl
@[simp] theorem talk_put_c0_clock (x : Talk) (y : Clock) : splice (talkCells x) 26 (clockCells y) 3 = talkCells { x with c0 := { x.c0 with clock := y } } := rfl
@[simp] theorem talk_get_c0_clock_smooth (x : Talk) : (talkCells x)[26]? = some (.v (.int .i64 x.c0.clock.smooth)) := rfl
@[simp] theorem talk_put_c0_clock_smooth (x : Talk) (y : Int) : splice (talkCells x) 26 [.v (.int .i64 y)] 1 = talkCells { x with c0 := { x.c0 with clock := { x.c0.clock with smooth := y } } } := rfl
@[simp] theorem talk_get_c0_clock_spread (x : Talk) : (talkCells x)[27]? = some (.v (.int .i64 x.c0.clock.spread)) := rfl
@[simp] theorem talk_put_c0_clock_spread (x : Talk) (y : Int) : splice (talkCells x) 27 [.v (.int .i64 y)] 1 = talkCells { x with c0 := { x.c0 with clock := { x.c0.clock with spread := y } } } := rfl
@[simp] theorem talk_get_c0_clock_wait (x : Talk) : (talkCells x)[28]? = some (.v (.int .i64 x.c0.clock.wait)) := rfl
@[simp] theorem talk_put_c0_clock_wait (x : Talk) (y : Int) : splice (talkCells x) 28 [.v (.int .i64 y)] 1 = talkCells { x with c0 := { x.c0 with clock := { x.c0.clock with wait := y } } } := rfl
@[simp] theorem talk_get_c0_due (x : Talk) : (talkCells x)[29]? = some (.v (.int .u64 x.c0.due)) := rfl
@[simp] theorem talk_put_c0_due (x : Talk) (y : Int) : splice (talkCells x) 29 [.v (.int .u64 y)] 1 = talkCells { x with c0 := { x.c0 with due := y } } := rfl
@[simp] theorem talk_get_c0_tries (x : Talk) : (talkCells x)[30]? = some (.v (.int .i64 x.c0.tries)) := rfl
@[simp] theorem talk_put_c0_tries (x : Talk) (y : Int) : splice (talkCells x) 30 [.v (.int .i64 y)] 1 = talkCells { x with c0 := { x.c0 with tries := y } } := rfl
@[simp] theorem talk_get_c0_timing (x : Talk) : (talkCells x)[31]? = some (.v (.bool x.c0.timing)) := rfl
@[simp] theorem talk_put_c0_timing (x : Talk) (y : Bool) : splice (talkCells x) 31 [.v (.bool y)] 1 = talkCells { x with c0 := { x.c0 with timing := y } } := rfl
@[simp] theorem talk_get_c0_timedSeq (x : Talk) : (talkCells x)[32]? = some (.v (.int .u32 x.c0.timedSeq)) := rfl
@[simp] theorem talk_put_c0_timedSeq (x : Talk) (y : Int) : splice (talkCells x) 32 [.v (.int .u32 y)] 1 = talkCells { x with c0 := { x.c0 with timedSeq := y } } := rfl
@[simp] theorem talk_get_c0_timedAt (x : Talk) : (talkCells x)[33]? = some (.v (.int .u64 x.c0.timedAt)) := rfl
@[simp] theorem talk_put_c0_timedAt (x : Talk) (y : Int) : splice (talkCells x) 33 [.v (.int .u64 y)] 1 = talkCells { x with c0 := { x.c0 with timedAt := y } } := rfl
@[simp] theorem talk_get_c0_till (x : Talk) : (talkCells x)[34]? = some (.v (.int .u64 x.c0.till)) := rfl
@[simp] theorem talk_put_c0_till (x : Talk) (y : Int) : splice (talkCells x) 34 [.v (.int .u64 y)] 1 = talkCells { x with c0 := { x.c0 with till := y } } := rfl
@[simp] theorem talk_get_c0_ended (x : Talk) : (talkCells x)[35]? = some (.v (.bool x.c0.ended)) := rfl
@[simp] theorem talk_put_c0_ended (x : Talk) (y : Bool) : splice (talkCells x) 35 [.v (.bool y)] 1 = talkCells { x with c0 := { x.c0 with ended := y } } := rfl
@[simp] theorem talk_get_c0_err (x : Talk) : (talkCells x)[36]? = some (.v (.int .i64 x.c0.err)) := rfl
@[simp] theorem talk_put_c0_err (x : Talk) (y : Int) : splice (talkCells x) 36 [.v (.int .i64 y)] 1 = talkCells { x with c0 := { x.c0 with err := y } } := rfl
@[simp] theorem talk_cut_c1 (x : Talk) : cut (talkCells x) 37 37 = connCells x.c1 := rfl
@[simp] theorem talk_put_c1 (x : Talk) (y : Conn) : splice (talkCells x) 37 (connCells y) 37 = talkCells { x with c1 := y } := rfl
@[simp] theorem talk_get_c1_phase (x : Talk) : (talkCells x)[37]? = some (.v (.int .i64 x.c1.phase)) := rfl
@[simp] theorem talk_put_c1_phase (x : Talk) (y : Int) : splice (talkCells x) 37 [.v (.int .i64 y)] 1 = talkCells { x with c1 := { x.c1 with phase := y } } := rfl
@[simp] theorem talk_cut_c1_self (x : Talk) : cut (talkCells x) 38 5 = addrCells x.c1.self := rfl
@[simp] theorem talk_put_c1_self (x : Talk) (y : Addr) : splice (talkCells x) 38 (addrCells y) 5 = talkCells { x with c1 := { x.c1 with self := y } } := rfl
@[simp] theorem talk_get_c1_self_a (x : Talk) : (talkCells x)[38]? = some (.v (.int .u8 x.c1.self.a)) := rfl
@[simp] theorem talk_put_c1_self_a (x : Talk) (y : Int) : splice (talkCells x) 38 [.v (.int .u8 y)] 1 = talkCells { x with c1 := { x.c1 with self := { x.c1.self with a := y } } } := rfl
@[simp] theorem talk_get_c1_self_b (x : Talk) : (talkCells x)[39]? = some (.v (.int .u8 x.c1.self.b)) := rfl
@[simp] theorem talk_put_c1_self_b (x : Talk) (y : Int) : splice (talkCells x) 39 [.v (.int .u8 y)] 1 = talkCells { x with c1 := { x.c1 with self := { x.c1.self with b := y } } } := rfl
@[simp] theorem talk_get_c1_self_c (x : Talk) : (talkCells x)[40]? = some (.v (.int .u8 x.c1.self.c)) := rfl
@[simp] theorem talk_put_c1_self_c (x : Talk) (y : Int) : splice (talkCells x) 40 [.v (.int .u8 y)] 1 = talkCells { x with c1 := { x.c1 with self := { x.c1.self with c := y } } } := rfl
@[simp] theorem talk_get_c1_self_d (x : Talk) : (talkCells x)[41]? = some (.v (.int .u8 x.c1.self.d)) := rfl
@[simp] theorem talk_put_c1_self_d (x : Talk) (y : Int) : splice (talkCells x) 41 [.v (.int .u8 y)] 1 = talkCells { x with c1 := { x.c1 with self := { x.c1.self with d := y } } } := rfl
@[simp] theorem talk_get_c1_self_port (x : Talk) : (talkCells x)[42]? = some (.v (.int .u16 x.c1.self.port)) := rfl
@[simp] theorem talk_put_c1_self_port (x : Talk) (y : Int) : splice (talkCells x) 42 [.v (.int .u16 y)] 1 = talkCells { x with c1 := { x.c1 with self := { x.c1.self with port := y } } } := rfl
@[simp] theorem talk_cut_c1_peer (x : Talk) : cut (talkCells x) 43 5 = addrCells x.c1.peer := rfl
@[simp] theorem talk_put_c1_peer (x : Talk) (y : Addr) : splice (talkCells x) 43 (addrCells y) 5 = talkCells { x with c1 := { x.c1 with peer := y } } := rfl
@[simp] theorem talk_get_c1_peer_a (x : Talk) : (talkCells x)[43]? = some (.v (.int .u8 x.c1.peer.a)) := rfl
@[simp] theorem talk_put_c1_peer_a (x : Talk) (y : Int) : splice (talkCells x) 43 [.v (.int .u8 y)] 1 = talkCells { x with c1 := { x.c1 with peer := { x.c1.peer with a := y } } } := rfl
@[simp] theorem talk_get_c1_peer_b (x : Talk) : (talkCells x)[44]? = some (.v (.int .u8 x.c1.peer.b)) := rfl
@[simp] theorem talk_put_c1_peer_b (x : Talk) (y : Int) : splice (talkCells x) 44 [.v (.int .u8 y)] 1 = talkCells { x with c1 := { x.c1 with peer := { x.c1.peer with b := y } } } := rfl
@[simp] theorem talk_get_c1_peer_c (x : Talk) : (talkCells x)[45]? = some (.v (.int .u8 x.c1.peer.c)) := rfl
@[simp] theorem talk_put_c1_peer_c (x : Talk) (y : Int) : splice (talkCells x) 45 [.v (.int .u8 y)] 1 = talkCells { x with c1 := { x.c1 with peer := { x.c1.peer with c := y } } } := rfl
@[simp] theorem talk_get_c1_peer_d (x : Talk) : (talkCells x)[46]? = some (.v (.int .u8 x.c1.peer.d)) := rfl
@[simp] theorem talk_put_c1_peer_d (x : Talk) (y : Int) : splice (talkCells x) 46 [.v (.int .u8 y)] 1 = talkCells { x with c1 := { x.c1 with peer := { x.c1.peer with d := y } } } := rfl
@[simp] theorem talk_get_c1_peer_port (x : Talk) : (talkCells x)[47]? = some (.v (.int .u16 x.c1.peer.port)) := rfl
@[simp] theorem talk_put_c1_peer_port (x : Talk) (y : Int) : splice (talkCells x) 47 [.v (.int .u16 y)] 1 = talkCells { x with c1 := { x.c1 with peer := { x.c1.peer with port := y } } } := rfl
@[simp] theorem talk_get_c1_first (x : Talk) : (talkCells x)[48]? = some (.v (.int .u32 x.c1.first)) := rfl
@[simp] theorem talk_put_c1_first (x : Talk) (y : Int) : splice (talkCells x) 48 [.v (.int .u32 y)] 1 = talkCells { x with c1 := { x.c1 with first := y } } := rfl
@[simp] theorem talk_cut_c1_send (x : Talk) : cut (talkCells x) 49 6 = sendCells x.c1.send := rfl
@[simp] theorem talk_put_c1_send (x : Talk) (y : Send) : splice (talkCells x) 49 (sendCells y) 6 = talkCells { x with c1 := { x.c1 with send := y } } := rfl
@[simp] theorem talk_get_c1_send_una (x : Talk) : (talkCells x)[49]? = some (.v (.int .u32 x.c1.send.una)) := rfl
@[simp] theorem talk_put_c1_send_una (x : Talk) (y : Int) : splice (talkCells x) 49 [.v (.int .u32 y)] 1 = talkCells { x with c1 := { x.c1 with send := { x.c1.send with una := y } } } := rfl
@[simp] theorem talk_get_c1_send_data (x : Talk) : (talkCells x)[50]? = some (.sl 1 (encB x.c1.send.data) none) := rfl
@[simp] theorem talk_put_c1_send_data (x : Talk) (y : List Int) : splice (talkCells x) 50 [.sl 1 (encB y) none] 1 = talkCells { x with c1 := { x.c1 with send := { x.c1.send with data := y } } } := rfl
@[simp] theorem talk_get_c1_send_sent (x : Talk) : (talkCells x)[51]? = some (.v (.int .i64 x.c1.send.sent)) := rfl
@[simp] theorem talk_put_c1_send_sent (x : Talk) (y : Int) : splice (talkCells x) 51 [.v (.int .i64 y)] 1 = talkCells { x with c1 := { x.c1 with send := { x.c1.send with sent := y } } } := rfl
@[simp] theorem talk_get_c1_send_fin (x : Talk) : (talkCells x)[52]? = some (.v (.bool x.c1.send.fin)) := rfl
@[simp] theorem talk_put_c1_send_fin (x : Talk) (y : Bool) : splice (talkCells x) 52 [.v (.bool y)] 1 = talkCells { x with c1 := { x.c1 with send := { x.c1.send with fin := y } } } := rfl
@[simp] theorem talk_get_c1_send_finSent (x : Talk) : (talkCells x)[53]? = some (.v (.bool x.c1.send.finSent)) := rfl
@[simp] theorem talk_put_c1_send_finSent (x : Talk) (y : Bool) : splice (talkCells x) 53 [.v (.bool y)] 1 = talkCells { x with c1 := { x.c1 with send := { x.c1.send with finSent := y } } } := rfl
@[simp] theorem talk_get_c1_send_finAcked (x : Talk) : (talkCells x)[54]? = some (.v (.bool x.c1.send.finAcked)) := rfl
@[simp] theorem talk_put_c1_send_finAcked (x : Talk) (y : Bool) : splice (talkCells x) 54 [.v (.bool y)] 1 = talkCells { x with c1 := { x.c1 with send := { x.c1.send with finAcked := y } } } := rfl
@[simp] theorem talk_cut_c1_recv (x : Talk) : cut (talkCells x) 55 6 = recvCells x.c1.recv := rfl
@[simp] theorem talk_put_c1_recv (x : Talk) (y : Recv) : splice (talkCells x) 55 (recvCells y) 6 = talkCells { x with c1 := { x.c1 with recv := y } } := rfl
@[simp] theorem talk_get_c1_recv_next (x : Talk) : (talkCells x)[55]? = some (.v (.int .u32 x.c1.recv.next)) := rfl
@[simp] theorem talk_put_c1_recv_next (x : Talk) (y : Int) : splice (talkCells x) 55 [.v (.int .u32 y)] 1 = talkCells { x with c1 := { x.c1 with recv := { x.c1.recv with next := y } } } := rfl
@[simp] theorem talk_get_c1_recv_data (x : Talk) : (talkCells x)[56]? = some (.sl 1 (encB x.c1.recv.data) none) := rfl
@[simp] theorem talk_put_c1_recv_data (x : Talk) (y : List Int) : splice (talkCells x) 56 [.sl 1 (encB y) none] 1 = talkCells { x with c1 := { x.c1 with recv := { x.c1.recv with data := y } } } := rfl
@[simp] theorem talk_get_c1_recv_ahead (x : Talk) : (talkCells x)[57]? = some (.sl 2 (encS pieceCells x.c1.recv.ahead) none) := rfl
@[simp] theorem talk_put_c1_recv_ahead (x : Talk) (y : List Piece) : splice (talkCells x) 57 [.sl 2 (encS pieceCells y) none] 1 = talkCells { x with c1 := { x.c1 with recv := { x.c1.recv with ahead := y } } } := rfl
@[simp] theorem talk_get_c1_recv_known (x : Talk) : (talkCells x)[58]? = some (.v (.bool x.c1.recv.known)) := rfl
@[simp] theorem talk_put_c1_recv_known (x : Talk) (y : Bool) : splice (talkCells x) 58 [.v (.bool y)] 1 = talkCells { x with c1 := { x.c1 with recv := { x.c1.recv with known := y } } } := rfl
@[simp] theorem talk_get_c1_recv_fin (x : Talk) : (talkCells x)[59]? = some (.v (.int .u32 x.c1.recv.fin)) := rfl
@[simp] theorem talk_put_c1_recv_fin (x : Talk) (y : Int) : splice (talkCells x) 59 [.v (.int .u32 y)] 1 = talkCells { x with c1 := { x.c1 with recv := { x.c1.recv with fin := y } } } := rfl
@[simp] theorem talk_get_c1_recv_done (x : Talk) : (talkCells x)[60]? = some (.v (.bool x.c1.recv.done)) := rfl
@[simp] theorem talk_put_c1_recv_done (x : Talk) (y : Bool) : splice (talkCells x) 60 [.v (.bool y)] 1 = talkCells { x with c1 := { x.c1 with recv := { x.c1.recv with done := y } } } := rfl
@[simp] theorem talk_get_c1_window (x : Talk) : (talkCells x)[61]? = some (.v (.int .i64 x.c1.window)) := rfl
@[simp] theorem talk_put_c1_window (x : Talk) (y : Int) : splice (talkCells x) 61 [.v (.int .i64 y)] 1 = talkCells { x with c1 := { x.c1 with window := y } } := rfl
@[simp] theorem talk_get_c1_mss (x : Talk) : (talkCells x)[62]? = some (.v (.int .i64 x.c1.mss)) := rfl
@[simp] theorem talk_put_c1_mss (x : Talk) (y : Int) : splice (talkCells x) 62 [.v (.int .i64 y)] 1 = talkCells { x with c1 := { x.c1 with mss := y } } := rfl
@[simp] theorem talk_cut_c1_clock (x : Talk) : cut (talkCells x) 63 3 = clockCells x.c1.clock := rfl
@[simp] theorem talk_put_c1_clock (x : Talk) (y : Clock) : splice (talkCells x) 63 (clockCells y) 3 = talkCells { x with c1 := { x.c1 with clock := y } } := rfl
@[simp] theorem talk_get_c1_clock_smooth (x : Talk) : (talkCells x)[63]? = some (.v (.int .i64 x.c1.clock.smooth)) := rfl
@[simp] theorem talk_put_c1_clock_smooth (x : Talk) (y : Int) : splice (talkCells x) 63 [.v (.int .i64 y)] 1 = talkCells { x with c1 := { x.c1 with clock := { x.c1.clock with smooth := y } } } := rfl
@[simp] theorem talk_get_c1_clock_spread (x : Talk) : (talkCells x)[64]? = some (.v (.int .i64 x.c1.clock.spread)) := rfl
@[simp] theorem talk_put_c1_clock_spread (x : Talk) (y : Int) : splice (talkCells x) 64 [.v (.int .i64 y)] 1 = talkCells { x with c1 := { x.c1 with clock := { x.c1.clock with spread := y } } } := rfl
@[simp] theorem talk_get_c1_clock_wait (x : Talk) : (talkCells x)[65]? = some (.v (.int .i64 x.c1.clock.wait)) := rfl
@[simp] theorem talk_put_c1_clock_wait (x : Talk) (y : Int) : splice (talkCells x) 65 [.v (.int .i64 y)] 1 = talkCells { x with c1 := { x.c1 with clock := { x.c1.clock with wait := y } } } := rfl
@[simp] theorem talk_get_c1_due (x : Talk) : (talkCells x)[66]? = some (.v (.int .u64 x.c1.due)) := rfl
@[simp] theorem talk_put_c1_due (x : Talk) (y : Int) : splice (talkCells x) 66 [.v (.int .u64 y)] 1 = talkCells { x with c1 := { x.c1 with due := y } } := rfl
@[simp] theorem talk_get_c1_tries (x : Talk) : (talkCells x)[67]? = some (.v (.int .i64 x.c1.tries)) := rfl
@[simp] theorem talk_put_c1_tries (x : Talk) (y : Int) : splice (talkCells x) 67 [.v (.int .i64 y)] 1 = talkCells { x with c1 := { x.c1 with tries := y } } := rfl
@[simp] theorem talk_get_c1_timing (x : Talk) : (talkCells x)[68]? = some (.v (.bool x.c1.timing)) := rfl
@[simp] theorem talk_put_c1_timing (x : Talk) (y : Bool) : splice (talkCells x) 68 [.v (.bool y)] 1 = talkCells { x with c1 := { x.c1 with timing := y } } := rfl
@[simp] theorem talk_get_c1_timedSeq (x : Talk) : (talkCells x)[69]? = some (.v (.int .u32 x.c1.timedSeq)) := rfl
@[simp] theorem talk_put_c1_timedSeq (x : Talk) (y : Int) : splice (talkCells x) 69 [.v (.int .u32 y)] 1 = talkCells { x with c1 := { x.c1 with timedSeq := y } } := rfl
@[simp] theorem talk_get_c1_timedAt (x : Talk) : (talkCells x)[70]? = some (.v (.int .u64 x.c1.timedAt)) := rfl
@[simp] theorem talk_put_c1_timedAt (x : Talk) (y : Int) : splice (talkCells x) 70 [.v (.int .u64 y)] 1 = talkCells { x with c1 := { x.c1 with timedAt := y } } := rfl
@[simp] theorem talk_get_c1_till (x : Talk) : (talkCells x)[71]? = some (.v (.int .u64 x.c1.till)) := rfl
@[simp] theorem talk_put_c1_till (x : Talk) (y : Int) : splice (talkCells x) 71 [.v (.int .u64 y)] 1 = talkCells { x with c1 := { x.c1 with till := y } } := rfl
@[simp] theorem talk_get_c1_ended (x : Talk) : (talkCells x)[72]? = some (.v (.bool x.c1.ended)) := rfl
@[simp] theorem talk_put_c1_ended (x : Talk) (y : Bool) : splice (talkCells x) 72 [.v (.bool y)] 1 = talkCells { x with c1 := { x.c1 with ended := y } } := rfl
@[simp] theorem talk_get_c1_err (x : Talk) : (talkCells x)[73]? = some (.v (.int .i64 x.c1.err)) := rfl
@[simp] theorem talk_put_c1_err (x : Talk) (y : Int) : splice (talkCells x) 73 [.v (.int .i64 y)] 1 = talkCells { x with c1 := { x.c1 with err := y } } := rfl
@[simp] theorem talk_get_is0 (x : Talk) : (talkCells x)[74]? = some (.v (.bool x.is0)) := rfl
@[simp] theorem talk_put_is0 (x : Talk) (y : Bool) : splice (talkCells x) 74 [.v (.bool y)] 1 = talkCells { x with is0 := y } := rfl
@[simp] theorem talk_get_is1 (x : Talk) : (talkCells x)[75]? = some (.v (.bool x.is1)) := rfl
@[simp] theorem talk_put_is1 (x : Talk) (y : Bool) : splice (talkCells x) 75 [.v (.bool y)] 1 = talkCells { x with is1 := y } := rfl
@[simp] theorem talk_get_first0 (x : Talk) : (talkCells x)[76]? = some (.v (.int .u32 x.first0)) := rfl
@[simp] theorem talk_put_first0 (x : Talk) (y : Int) : splice (talkCells x) 76 [.v (.int .u32 y)] 1 = talkCells { x with first0 := y } := rfl
@[simp] theorem talk_get_first1 (x : Talk) : (talkCells x)[77]? = some (.v (.int .u32 x.first1)) := rfl
@[simp] theorem talk_put_first1 (x : Talk) (y : Int) : splice (talkCells x) 77 [.v (.int .u32 y)] 1 = talkCells { x with first1 := y } := rfl
@[simp] theorem talk_get_way0 (x : Talk) : (talkCells x)[78]? = some (.sl 8 (encS segCells x.way0) none) := rfl
@[simp] theorem talk_put_way0 (x : Talk) (y : List Seg) : splice (talkCells x) 78 [.sl 8 (encS segCells y) none] 1 = talkCells { x with way0 := y } := rfl
@[simp] theorem talk_get_way1 (x : Talk) : (talkCells x)[79]? = some (.sl 8 (encS segCells x.way1) none) := rfl
@[simp] theorem talk_put_way1 (x : Talk) (y : List Seg) : splice (talkCells x) 79 [.sl 8 (encS segCells y) none] 1 = talkCells { x with way1 := y } := rfl
@[simp] theorem talk_get_written0 (x : Talk) : (talkCells x)[80]? = some (.v (.string x.written0)) := rfl
@[simp] theorem talk_put_written0 (x : Talk) (y : ByteArray) : splice (talkCells x) 80 [.v (.string y)] 1 = talkCells { x with written0 := y } := rfl
@[simp] theorem talk_get_written1 (x : Talk) : (talkCells x)[81]? = some (.v (.string x.written1)) := rfl
@[simp] theorem talk_put_written1 (x : Talk) (y : ByteArray) : splice (talkCells x) 81 [.v (.string y)] 1 = talkCells { x with written1 := y } := rfl
@[simp] theorem talk_get_read0 (x : Talk) : (talkCells x)[82]? = some (.v (.string x.read0)) := rfl
@[simp] theorem talk_put_read0 (x : Talk) (y : ByteArray) : splice (talkCells x) 82 [.v (.string y)] 1 = talkCells { x with read0 := y } := rfl
@[simp] theorem talk_get_read1 (x : Talk) : (talkCells x)[83]? = some (.v (.string x.read1)) := rfl
@[simp] theorem talk_put_read1 (x : Talk) (y : ByteArray) : splice (talkCells x) 83 [.v (.string y)] 1 = talkCells { x with read1 := y } := rfl
@[simp] theorem talk_get_closed0 (x : Talk) : (talkCells x)[84]? = some (.v (.bool x.closed0)) := rfl
@[simp] theorem talk_put_closed0 (x : Talk) (y : Bool) : splice (talkCells x) 84 [.v (.bool y)] 1 = talkCells { x with closed0 := y } := rfl
@[simp] theorem talk_get_closed1 (x : Talk) : (talkCells x)[85]? = some (.v (.bool x.closed1)) := rfl
@[simp] theorem talk_put_closed1 (x : Talk) (y : Bool) : splice (talkCells x) 85 [.v (.bool y)] 1 = talkCells { x with closed1 := y } := rfl
@[simp] theorem talk_get_told0 (x : Talk) : (talkCells x)[86]? = some (.v (.bool x.told0)) := rfl
@[simp] theorem talk_put_told0 (x : Talk) (y : Bool) : splice (talkCells x) 86 [.v (.bool y)] 1 = talkCells { x with told0 := y } := rfl
@[simp] theorem talk_get_told1 (x : Talk) : (talkCells x)[87]? = some (.v (.bool x.told1)) := rfl
@[simp] theorem talk_put_told1 (x : Talk) (y : Bool) : splice (talkCells x) 87 [.v (.bool y)] 1 = talkCells { x with told1 := y } := rfl
@[simp] theorem talk_get_now (x : Talk) : (talkCells x)[88]? = some (.v (.int .u64 x.now)) := rfl
@[simp] theorem talk_put_now (x : Talk) (y : Int) : splice (talkCells x) 88 [.v (.int .u64 y)] 1 = talkCells { x with now := y } := rfl
@[simp] theorem talk_get_wrong (x : Talk) : (talkCells x)[89]? = some (.v (.bool x.wrong)) := rfl
@[simp] theorem talk_put_wrong (x : Talk) (y : Bool) : splice (talkCells x) 89 [.v (.bool y)] 1 = talkCells { x with wrong := y } := rfl
@[simp] theorem talk_whole (x : Talk) (ys : List AV) : splice (talkCells x) 0 ys 90 = ys := by simp [splice, talkCells]
@[simp] theorem talk_cutall (x : Talk) : cut (talkCells x) 0 90 = talkCells x := rfl
@[simp] theorem talkCells_leafH (x : Talk) : (talkCells x).all leafH = true := rfl
@[simp] theorem talkCells_leafP (x : Talk) : (talkCells x).all leafP = true := rfl
@[simp] theorem talkCells_leafOk (x : Talk) : (talkCells x).all leafOk = true := rfl
@[simp] theorem talkCells_kL (s : St) (M : List Nm) (x : Talk) : (talkCells x).map (kL s M) = talkCells x := rfl
@[simp] theorem talkCells_strip (x : Talk) : (talkCells x).map strip = talkCells x := rfl
@[simp] theorem talkCells_stripL (x : Talk) : (talkCells x).map stripL = talkCells x := rfl
@[simp] theorem talkCells_name (g : Nm → Nat) (d i k : Nat) (x : Talk) : nameC g d i k (talkCells x) = talkCells x := rfl
@[simp] theorem talkCells_flag (s : St) (x : Talk) : (talkCells x).map (flagL s) = talkCells x := rfl
@[simp] theorem talkCells_tags (s : St) (x : Talk) : tagsOf s (talkCells x) = [] := by simp [talkCells, tagsOf]
@[simp] theorem talkCells_co (φ ψ : Nm → Option Nm) (s s2 : St) (x : Talk) : All2P (CoL φ ψ s s2) (talkCells x) (talkCells x) := by simp [talkCells]

@[ext] structure Stp where
  kind : Int
  side : Int
  idx : Int
  num : Int
  data : List Int
deriving Inhabited
def stpCells (x : Stp) : List AV := [.v (.int .i64 x.kind), .v (.int .i64 x.side), .v (.int .i64 x.idx), .v (.int .i64 x.num), .sl 1 (encB x.data) none]
noncomputable def pStp : List AV → Option (Stp × List AV) := fun cs => (pI .i64 cs).bind fun (a0, cs) => (pI .i64 cs).bind fun (a1, cs) => (pI .i64 cs).bind fun (a2, cs) => (pI .i64 cs).bind fun (a3, cs) => (pB cs).bind fun (a4, cs) => some (⟨a0, a1, a2, a3, a4⟩, cs)
theorem pStp_snd : Snd CoP pStp (fun x => stpCells x) := by
  intro cs x r h0
  unfold pStp at h0
  obtain ⟨a0, r0, q0, h1, e0, c0⟩ := Snd.step (pI_snd .i64) h0
  obtain ⟨a1, r1, q1, h2, e1, c1⟩ := Snd.step (pI_snd .i64) h1
  obtain ⟨a2, r2, q2, h3, e2, c2⟩ := Snd.step (pI_snd .i64) h2
  obtain ⟨a3, r3, q3, h4, e3, c3⟩ := Snd.step (pI_snd .i64) h3
  obtain ⟨a4, r4, q4, h5, e4, c4⟩ := Snd.step pB_snd h4
  cases h5
  subst e4 e3 e2 e1 e0
  exact ⟨(q0 ++ (q1 ++ (q2 ++ (q3 ++ q4)))), by simp only [List.append_assoc], (c0.app (c1.app (c2.app (c3.app c4))))⟩
@[simp] theorem pStp_app (x : Stp) (r : List AV) : pStp (stpCells x ++ r) = some (x, r) := by simp [pStp, stpCells]
@[simp] theorem pStp_all (x : Stp) : pStp (stpCells x) = some (x, []) := by have := pStp_app x []; rwa [List.append_nil] at this
@[simp] theorem stpCells_len (x : Stp) : (stpCells x).length = 5 := rfl
@[simp high] theorem mkAgg_stp (x : Stp) : mkAgg (stpCells x) = .agg (stpCells x) := rfl
@[simp] theorem whole_stp (x : Stp) : whole pStp (.agg (stpCells x)) = some x := by simp
@[simp] theorem stp_get_kind (x : Stp) : (stpCells x)[0]? = some (.v (.int .i64 x.kind)) := rfl
@[simp] theorem stp_put_kind (x : Stp) (y : Int) : splice (stpCells x) 0 [.v (.int .i64 y)] 1 = stpCells { x with kind := y } := rfl
@[simp] theorem stp_get_side (x : Stp) : (stpCells x)[1]? = some (.v (.int .i64 x.side)) := rfl
@[simp] theorem stp_put_side (x : Stp) (y : Int) : splice (stpCells x) 1 [.v (.int .i64 y)] 1 = stpCells { x with side := y } := rfl
@[simp] theorem stp_get_idx (x : Stp) : (stpCells x)[2]? = some (.v (.int .i64 x.idx)) := rfl
@[simp] theorem stp_put_idx (x : Stp) (y : Int) : splice (stpCells x) 2 [.v (.int .i64 y)] 1 = stpCells { x with idx := y } := rfl
@[simp] theorem stp_get_num (x : Stp) : (stpCells x)[3]? = some (.v (.int .i64 x.num)) := rfl
@[simp] theorem stp_put_num (x : Stp) (y : Int) : splice (stpCells x) 3 [.v (.int .i64 y)] 1 = stpCells { x with num := y } := rfl
@[simp] theorem stp_get_data (x : Stp) : (stpCells x)[4]? = some (.sl 1 (encB x.data) none) := rfl
@[simp] theorem stp_put_data (x : Stp) (y : List Int) : splice (stpCells x) 4 [.sl 1 (encB y) none] 1 = stpCells { x with data := y } := rfl
@[simp] theorem stp_whole (x : Stp) (ys : List AV) : splice (stpCells x) 0 ys 5 = ys := by simp [splice, stpCells]
@[simp] theorem stp_cutall (x : Stp) : cut (stpCells x) 0 5 = stpCells x := rfl
@[simp] theorem stpCells_leafH (x : Stp) : (stpCells x).all leafH = true := rfl
@[simp] theorem stpCells_leafP (x : Stp) : (stpCells x).all leafP = true := rfl
@[simp] theorem stpCells_leafOk (x : Stp) : (stpCells x).all leafOk = true := rfl
@[simp] theorem stpCells_kL (s : St) (M : List Nm) (x : Stp) : (stpCells x).map (kL s M) = stpCells x := rfl
@[simp] theorem stpCells_strip (x : Stp) : (stpCells x).map strip = stpCells x := rfl
@[simp] theorem stpCells_stripL (x : Stp) : (stpCells x).map stripL = stpCells x := rfl
@[simp] theorem stpCells_name (g : Nm → Nat) (d i k : Nat) (x : Stp) : nameC g d i k (stpCells x) = stpCells x := rfl
@[simp] theorem stpCells_flag (s : St) (x : Stp) : (stpCells x).map (flagL s) = stpCells x := rfl
@[simp] theorem stpCells_tags (s : St) (x : Stp) : tagsOf s (stpCells x) = [] := by simp [stpCells, tagsOf]
@[simp] theorem stpCells_co (φ ψ : Nm → Option Nm) (s s2 : St) (x : Stp) : All2P (CoL φ ψ s s2) (stpCells x) (stpCells x) := by simp [stpCells]

@[ext] structure Far where
  seq : Int
  ack : Int
  flags : Int
  wnd : Int
  mss : Int
  data : List Int
deriving Inhabited
def farCells (x : Far) : List AV := [.v (.int .i64 x.seq), .v (.int .i64 x.ack), .v (.int .u8 x.flags), .v (.int .u16 x.wnd), .v (.int .u16 x.mss), .sl 1 (encB x.data) none]
noncomputable def pFar : List AV → Option (Far × List AV) := fun cs => (pI .i64 cs).bind fun (a0, cs) => (pI .i64 cs).bind fun (a1, cs) => (pI .u8 cs).bind fun (a2, cs) => (pI .u16 cs).bind fun (a3, cs) => (pI .u16 cs).bind fun (a4, cs) => (pB cs).bind fun (a5, cs) => some (⟨a0, a1, a2, a3, a4, a5⟩, cs)
theorem pFar_snd : Snd CoP pFar (fun x => farCells x) := by
  intro cs x r h0
  unfold pFar at h0
  obtain ⟨a0, r0, q0, h1, e0, c0⟩ := Snd.step (pI_snd .i64) h0
  obtain ⟨a1, r1, q1, h2, e1, c1⟩ := Snd.step (pI_snd .i64) h1
  obtain ⟨a2, r2, q2, h3, e2, c2⟩ := Snd.step (pI_snd .u8) h2
  obtain ⟨a3, r3, q3, h4, e3, c3⟩ := Snd.step (pI_snd .u16) h3
  obtain ⟨a4, r4, q4, h5, e4, c4⟩ := Snd.step (pI_snd .u16) h4
  obtain ⟨a5, r5, q5, h6, e5, c5⟩ := Snd.step pB_snd h5
  cases h6
  subst e5 e4 e3 e2 e1 e0
  exact ⟨(q0 ++ (q1 ++ (q2 ++ (q3 ++ (q4 ++ q5))))), by simp only [List.append_assoc], (c0.app (c1.app (c2.app (c3.app (c4.app c5)))))⟩
@[simp] theorem pFar_app (x : Far) (r : List AV) : pFar (farCells x ++ r) = some (x, r) := by simp [pFar, farCells]
@[simp] theorem pFar_all (x : Far) : pFar (farCells x) = some (x, []) := by have := pFar_app x []; rwa [List.append_nil] at this
@[simp] theorem farCells_len (x : Far) : (farCells x).length = 6 := rfl
@[simp high] theorem mkAgg_far (x : Far) : mkAgg (farCells x) = .agg (farCells x) := rfl
@[simp] theorem whole_far (x : Far) : whole pFar (.agg (farCells x)) = some x := by simp
@[simp] theorem far_get_seq (x : Far) : (farCells x)[0]? = some (.v (.int .i64 x.seq)) := rfl
@[simp] theorem far_put_seq (x : Far) (y : Int) : splice (farCells x) 0 [.v (.int .i64 y)] 1 = farCells { x with seq := y } := rfl
@[simp] theorem far_get_ack (x : Far) : (farCells x)[1]? = some (.v (.int .i64 x.ack)) := rfl
@[simp] theorem far_put_ack (x : Far) (y : Int) : splice (farCells x) 1 [.v (.int .i64 y)] 1 = farCells { x with ack := y } := rfl
@[simp] theorem far_get_flags (x : Far) : (farCells x)[2]? = some (.v (.int .u8 x.flags)) := rfl
@[simp] theorem far_put_flags (x : Far) (y : Int) : splice (farCells x) 2 [.v (.int .u8 y)] 1 = farCells { x with flags := y } := rfl
@[simp] theorem far_get_wnd (x : Far) : (farCells x)[3]? = some (.v (.int .u16 x.wnd)) := rfl
@[simp] theorem far_put_wnd (x : Far) (y : Int) : splice (farCells x) 3 [.v (.int .u16 y)] 1 = farCells { x with wnd := y } := rfl
@[simp] theorem far_get_mss (x : Far) : (farCells x)[4]? = some (.v (.int .u16 x.mss)) := rfl
@[simp] theorem far_put_mss (x : Far) (y : Int) : splice (farCells x) 4 [.v (.int .u16 y)] 1 = farCells { x with mss := y } := rfl
@[simp] theorem far_get_data (x : Far) : (farCells x)[5]? = some (.sl 1 (encB x.data) none) := rfl
@[simp] theorem far_put_data (x : Far) (y : List Int) : splice (farCells x) 5 [.sl 1 (encB y) none] 1 = farCells { x with data := y } := rfl
@[simp] theorem far_whole (x : Far) (ys : List AV) : splice (farCells x) 0 ys 6 = ys := by simp [splice, farCells]
@[simp] theorem far_cutall (x : Far) : cut (farCells x) 0 6 = farCells x := rfl
@[simp] theorem farCells_leafH (x : Far) : (farCells x).all leafH = true := rfl
@[simp] theorem farCells_leafP (x : Far) : (farCells x).all leafP = true := rfl
@[simp] theorem farCells_leafOk (x : Far) : (farCells x).all leafOk = true := rfl
@[simp] theorem farCells_kL (s : St) (M : List Nm) (x : Far) : (farCells x).map (kL s M) = farCells x := rfl
@[simp] theorem farCells_strip (x : Far) : (farCells x).map strip = farCells x := rfl
@[simp] theorem farCells_stripL (x : Far) : (farCells x).map stripL = farCells x := rfl
@[simp] theorem farCells_name (g : Nm → Nat) (d i k : Nat) (x : Far) : nameC g d i k (farCells x) = farCells x := rfl
@[simp] theorem farCells_flag (s : St) (x : Far) : (farCells x).map (flagL s) = farCells x := rfl
@[simp] theorem farCells_tags (s : St) (x : Far) : tagsOf s (farCells x) = [] := by simp [farCells, tagsOf]
@[simp] theorem farCells_co (φ ψ : Nm → Option Nm) (s s2 : St) (x : Far) : All2P (CoL φ ψ s s2) (farCells x) (farCells x) := by simp [farCells]

@[simp] theorem talkCells_kLr (s : St) (l : List (Nm × Nm)) (M : List Nm) (x : Talk) : (talkCells x).map (kLr s l M) = talkCells x := rfl
@[simp] theorem talkCells_tagsAt (s : St) (n : Nm) (k : Nat) (x : Talk) : tagsAt s n k (talkCells x) = [] := by simp [talkCells, tagsAt]
@[simp] theorem mergeC_talk (b : Bool) (x y : Talk) : mergeC b (talkCells x) (talkCells y) = talkCells (if b = true then x else y) := by cases b <;> rfl
@[simp] theorem ite_talkCells (c : Prop) [Decidable c] (x y : Talk) : (if c then talkCells x else talkCells y) = talkCells (if c then x else y) := by split <;> rfl
theorem talkCells_coE {φ ψ : Nm → Option Nm} {s s2 : St} {x y : Talk} (e : x = y) : All2P (CoL φ ψ s s2) (talkCells x) (talkCells y) := by subst e; exact talkCells_co ..
@[simp] theorem stpCells_kLr (s : St) (l : List (Nm × Nm)) (M : List Nm) (x : Stp) : (stpCells x).map (kLr s l M) = stpCells x := rfl
@[simp] theorem stpCells_tagsAt (s : St) (n : Nm) (k : Nat) (x : Stp) : tagsAt s n k (stpCells x) = [] := by simp [stpCells, tagsAt]
@[simp] theorem mergeC_stp (b : Bool) (x y : Stp) : mergeC b (stpCells x) (stpCells y) = stpCells (if b = true then x else y) := by cases b <;> rfl
@[simp] theorem ite_stpCells (c : Prop) [Decidable c] (x y : Stp) : (if c then stpCells x else stpCells y) = stpCells (if c then x else y) := by split <;> rfl
theorem stpCells_coE {φ ψ : Nm → Option Nm} {s s2 : St} {x y : Stp} (e : x = y) : All2P (CoL φ ψ s s2) (stpCells x) (stpCells y) := by subst e; exact stpCells_co ..
@[simp] theorem farCells_kLr (s : St) (l : List (Nm × Nm)) (M : List Nm) (x : Far) : (farCells x).map (kLr s l M) = farCells x := rfl
@[simp] theorem farCells_tagsAt (s : St) (n : Nm) (k : Nat) (x : Far) : tagsAt s n k (farCells x) = [] := by simp [farCells, tagsAt]
@[simp] theorem mergeC_far (b : Bool) (x y : Far) : mergeC b (farCells x) (farCells y) = farCells (if b = true then x else y) := by cases b <;> rfl
@[simp] theorem ite_farCells (c : Prop) [Decidable c] (x y : Far) : (if c then farCells x else farCells y) = farCells (if c then x else y) := by split <;> rfl
theorem farCells_coE {φ ψ : Nm → Option Nm} {s s2 : St} {x y : Far} (e : x = y) : All2P (CoL φ ψ s s2) (farCells x) (farCells y) := by subst e; exact farCells_co ..
end Caw

/-! The laws of layer tcb: what they are made of, as plain functions. -/
namespace Caw
open Go
section
variable {P : Program} {Γ : Ctx1} {C : Cfg} {N : Nat} {st s1 : St} {ops : Array Oper} {L : List Nat} {M : List Nm} {p : Kept}
theorem run_T (i n d : Nat) (h1 : Is (erunL P Γ C N ops ((ops.toList.drop i).take n) st) s1) (hb : IsB (s1.sl d) true) (hT : IsK (runK P Γ C N ops L M (i + n) (setB s1 d true)) p) : IsK (runK P Γ C N ops L M i st) p := by
  have e0 : ops.toList.drop i = (ops.toList.drop i).take n ++ ops.toList.drop (i + n) := by
    rw [← List.drop_drop, List.take_append_drop]
  have e1 : runK P Γ C N ops L M i st = runK P Γ C N ops L M (i + n) s1 := by
    unfold runK
    rw [e0, erunL_app, show erunL P Γ C N ops ((ops.toList.drop i).take n) st = some s1 from h1]
    rfl
  have e2 : setB s1 d true = s1 := by
    have : setF s1.sl d (.v (.bool true)) = s1.sl := by
      funext j
      unfold setF
      split
      · rename_i e; rw [e]; exact hb.symm
      · rfl
    unfold setB
    rw [this]
  unfold IsK
  rw [e1, ← e2]
  exact hT
theorem run_F (i n d : Nat) (h1 : Is (erunL P Γ C N ops ((ops.toList.drop i).take n) st) s1) (hb : IsB (s1.sl d) false) (hT : IsK (runK P Γ C N ops L M (i + n) (setB s1 d false)) p) : IsK (runK P Γ C N ops L M i st) p := by
  have e0 : ops.toList.drop i = (ops.toList.drop i).take n ++ ops.toList.drop (i + n) := by
    rw [← List.drop_drop, List.take_append_drop]
  have e1 : runK P Γ C N ops L M i st = runK P Γ C N ops L M (i + n) s1 := by
    unfold runK
    rw [e0, erunL_app, show erunL P Γ C N ops ((ops.toList.drop i).take n) st = some s1 from h1]
    rfl
  have e2 : setB s1 d false = s1 := by
    have : setF s1.sl d (.v (.bool false)) = s1.sl := by
      funext j
      unfold setF
      split
      · rename_i e; rw [e]; exact hb.symm
      · rfl
    unfold setB
    rw [this]
  unfold IsK
  rw [e1, ← e2]
  exact hT
end
/-! ### caravelref03 -/
def refMod (n : Int) : Int := if n.tmod 4294967296 < 0 then IntKind.i64.wrap (n.tmod 4294967296 + 4294967296) else n.tmod 4294967296
def refDiff (a b : Int) : Int :=
  if 2147483648 ≤ refMod (IntKind.i64.wrap (IntKind.i64.wrap a - IntKind.i64.wrap b)) then IntKind.i64.wrap (refMod (IntKind.i64.wrap (IntKind.i64.wrap a - IntKind.i64.wrap b)) - 4294967296)
  else refMod (IntKind.i64.wrap (IntKind.i64.wrap a - IntKind.i64.wrap b))
/-! ### tcb.Right -/
def connOdd (c : Conn) : Prop := c.phase < 0 ∨ 4 < c.phase ∨ sendRight c.send = false ∨ recvRight c.recv = false ∨ rtoRight c.clock = false ∨ c.window < 0 ∨ 65535 < c.window ∨ c.mss < 1 ∨ 64 < c.mss ∨ c.tries < 0 ∨ 8 < c.tries
instance (c : Conn) : Decidable (connOdd c) := by unfold connOdd; infer_instance
def connFine (c : Conn) : Bool :=
  if c.phase = 1 ∨ c.phase = 2 then decide (c.send.una = seqAdd c.first 1) && decide (c.send.sent = 0) && !c.send.finSent && !decide (c.due = 0) && decide (c.err = 0)
  else if c.phase = 3 then !(c.recv.done && c.send.finAcked) && decide (c.err = 0)
  else if c.phase = 4 then c.recv.done && c.send.finAcked && c.ended && decide (c.due = 0) && !c.timing && decide (c.err = 0)
  else decide (c.due = 0) && !c.timing
def connRight (c : Conn) : Bool := if connOdd c then false else connFine c
def addrX : Addr := ⟨10, 0, 0, 1, 7⟩
def addrY : Addr := ⟨10, 0, 0, 2, 80⟩
end Caw
namespace Caw
open Go
section
variable {P : Program} {Γ : Ctx1} {C : Cfg} {N : Nat} {st s1 : St} {ops : Array Oper} {L : List Nat} {M : List Nm} {p q z : Kept} {b : Bool} {k d : Nat}
/-- What is left to run, once a guard's outcome is known: a word that simp does not open. -/
def GoK (P : Program) (Γ : Ctx1) (C : Cfg) (N : Nat) (ops : Array Oper) (L : List Nat) (M : List Nm) (k : Nat) (s1 : St) (d : Nat) (b : Bool) (p : Kept) : Prop := IsK (runK P Γ C N ops L M k (setB s1 d b)) p
theorem run_go (i n d : Nat) (h1 : Is (erunL P Γ C N ops ((ops.toList.drop i).take n) st) s1) (hb : IsB (s1.sl d) b) (hT : GoK P Γ C N ops L M (i + n) s1 d b p) : IsK (runK P Γ C N ops L M i st) p := by
  cases b with
  | true => exact run_T i n d h1 hb hT
  | false => exact run_F i n d h1 hb hT
theorem go_T (h : IsK (runK P Γ C N ops L M k (setB s1 d true)) p) : GoK P Γ C N ops L M k s1 d true p := h
theorem go_F (h : IsK (runK P Γ C N ops L M k (setB s1 d false)) p) : GoK P Γ C N ops L M k s1 d false p := h
theorem go_S (hT : IsK (runK P Γ C N ops L M k (setB s1 d true)) p) (hF : IsK (runK P Γ C N ops L M k (setB s1 d false)) q) (hm : IsK (merge b p q) z) : GoK P Γ C N ops L M k s1 d b z := by
  cases b with
  | true => rw [merge_T hm]; exact hT
  | false => rw [merge_F hm]; exact hF
end
end Caw
namespace Caw
open Go
theorem right_cases (c : Conn) : (c.phase < 0) ∨ (¬ c.phase < 0 ∧ 4 < c.phase) ∨ (¬ c.phase < 0 ∧ ¬ 4 < c.phase ∧ sendRight c.send = false) ∨ (¬ c.phase < 0 ∧ ¬ 4 < c.phase ∧ sendRight c.send = true ∧ recvRight c.recv = false) ∨
    (¬ c.phase < 0 ∧ ¬ 4 < c.phase ∧ sendRight c.send = true ∧ recvRight c.recv = true ∧ rtoRight c.clock = false) ∨
    (¬ c.phase < 0 ∧ ¬ 4 < c.phase ∧ sendRight c.send = true ∧ recvRight c.recv = true ∧ rtoRight c.clock = true ∧ c.window < 0) ∨
    (¬ c.phase < 0 ∧ ¬ 4 < c.phase ∧ sendRight c.send = true ∧ recvRight c.recv = true ∧ rtoRight c.clock = true ∧ ¬ c.window < 0 ∧ 65535 < c.window) ∨
    (¬ c.phase < 0 ∧ ¬ 4 < c.phase ∧ sendRight c.send = true ∧ recvRight c.recv = true ∧ rtoRight c.clock = true ∧ ¬ c.window < 0 ∧ ¬ 65535 < c.window ∧ c.mss < 1) ∨
    (¬ c.phase < 0 ∧ ¬ 4 < c.phase ∧ sendRight c.send = true ∧ recvRight c.recv = true ∧ rtoRight c.clock = true ∧ ¬ c.window < 0 ∧ ¬ 65535 < c.window ∧ ¬ c.mss < 1 ∧ 64 < c.mss) ∨
    (¬ c.phase < 0 ∧ ¬ 4 < c.phase ∧ sendRight c.send = true ∧ recvRight c.recv = true ∧ rtoRight c.clock = true ∧ ¬ c.window < 0 ∧ ¬ 65535 < c.window ∧ ¬ c.mss < 1 ∧ ¬ 64 < c.mss ∧ c.tries < 0) ∨
    (¬ c.phase < 0 ∧ ¬ 4 < c.phase ∧ sendRight c.send = true ∧ recvRight c.recv = true ∧ rtoRight c.clock = true ∧ ¬ c.window < 0 ∧ ¬ 65535 < c.window ∧ ¬ c.mss < 1 ∧ ¬ 64 < c.mss ∧ ¬ c.tries < 0 ∧ 8 < c.tries) ∨
    (¬ c.phase < 0 ∧ ¬ 4 < c.phase ∧ sendRight c.send = true ∧ recvRight c.recv = true ∧ rtoRight c.clock = true ∧ ¬ c.window < 0 ∧ ¬ 65535 < c.window ∧ ¬ c.mss < 1 ∧ ¬ 64 < c.mss ∧ ¬ c.tries < 0 ∧ ¬ 8 < c.tries) := by
  cases sendRight c.send <;> cases recvRight c.recv <;> cases rtoRight c.clock <;> simp <;> omega
end Caw

/-! A row that is laid out and taken for a slice of bytes: two operations at once, since the second one marks the row. -/
set_option linter.unusedVariables false
namespace Caw
open Go Go.RowKit
section
variable {P : Program} {Γ : Ctx1} {C : Cfg} {B : Base} {w : World} {E : Env} {st : St} {a : Act} {ops : Array Oper}
theorem ops_then (hΓ : GB P Γ B) {K : Exit → Act → World → Prop} {s1 : St} {l2 : List Nat} (hQ : ∀ a w, Rel B s1 a w → wpOps P ops K l2 a w) : ∀ (l : List Nat) (st : St) (a : Act) (w : World),
    Rel B st a w → erun P Γ C B.N ops l st = some s1 → wpOps P ops K (l ++ l2) a w
  | [], st, a, w, hr, he => by
    simp only [erun, Option.some.injEq] at he
    subst he
    exact hQ a w hr
  | i :: r, st, a, w, hr, he => by
    simp only [erun] at he
    simp only [List.cons_append, wpOps]
    cases hi : ops[i]? with
    | none => rw [hi] at he; exact ops_then hΓ hQ r st a w hr he
    | some o =>
      rw [hi] at he
      simp only at he ⊢
      cases hs : estep P Γ C B.N ops st o with
      | none => rw [hs] at he; cases he
      | some s1 =>
        rw [hs] at he
        have h1 := estep_sound hΓ hr hs K
        unfold wpStep at h1
        split
        · rename_i hw
          rw [if_pos hw] at h1
          exact .inl (Oper.wp_mono (fun a' w' hr' => ops_then hΓ hQ r s1 a' w' hr' he) h1)
        · rename_i hw
          rw [if_neg hw] at h1
          exact ops_then hΓ hQ r s1 _ _ h1 he
theorem run_same (w : World) (t e : TypeId) (vs : Array Value) (n : Nat) (hu : P.underlying t = some (.slice e)) (he : P.underlying e = some (.int .u8)) :
    (convert t t (.slice (some ⟨w.heap.size, 0, none⟩) n n)).run P (w.alloc (.cells vs e)) = .ok (.slice (some ⟨w.heap.size, 0, none⟩) n n) (w.alloc (.cells vs e (vs.size, vs.size + 1))) := by
  have hsh : (w.alloc (.cells vs e)).shape? w.heap.size = some (e, vs.size) := by
    have : (w.alloc (.cells vs e)).heap[w.heap.size]? = some (.cells vs e) := by
      show (w.heap.push (.cells vs e))[w.heap.size]? = _
      simp
    unfold World.shape?
    rw [this]
  have hfr : (w.alloc (.cells vs e)).freeze ⟨w.heap.size, vs.size, none⟩ 1 = w.alloc (.cells vs e (vs.size, vs.size + 1)) := by
    have hm : ∀ (a : Array Obj) (x : Obj) (f : Obj → Obj), (a.push x).modify a.size f = a.push (f x) := by
      intro a x f
      apply Array.ext
      · simp
      · intro i h1 h2
        simp only [Array.getElem_modify, Array.getElem_push]
        by_cases h : a.size = i
        · subst h
          simp
        · have hi : i < a.size := by simp at h1; omega
          simp [h, hi]
    unfold World.freeze
    rw [if_neg (by decide)]
    show ({ w.alloc (.cells vs e) with heap := (w.heap.push (.cells vs e)).modify w.heap.size _ } : World) = _
    rw [hm]
    rfl
  simp [convert, run_underlying hu, run_underlying he, markStringish, hsh]
  exact hfr
/-- The row that is there then. -/
theorem Rel0.row_mark (h : Rel0 B E st a w) (vs : List Int) (e : TypeId) :
    ∃ E', Rel0 B E' st a (w.alloc (.cells (vs.map (Value.int .u8)).toArray e ((vs.map (Value.int .u8)).toArray.size, (vs.map (Value.int .u8)).toArray.size + 1))) ∧
      V E' st (w.alloc (.cells (vs.map (Value.int .u8)).toArray e ((vs.map (Value.int .u8)).toArray.size, (vs.map (Value.int .u8)).toArray.size + 1))) (.sl 1 (vs.map fun n => .v (.int .u8 n)) none) (.slice (some ⟨w.heap.size, 0, none⟩) vs.length vs.length) := by
  generalize hm : ((vs.map (Value.int .u8)).toArray.size, (vs.map (Value.int .u8)).toArray.size + 1) = m
  have hf := fr_alloc E.pr w (.cells (vs.map (Value.int .u8)).toArray e m)
  have h1 := h.fresh (w' := w.alloc (.cells (vs.map (Value.int .u8)).toArray e m)) hf (fun b hb => Below.heap_alloc _ _ _ hb)
    (pr' := fun b k => E.pr b k ∨ (b = w.heap.size ∧ k < vs.length)) (fun _ _ h => .inl h) (fun b k hp hq => by
      rcases hp with hp | ⟨rfl, _⟩
      · exact absurd hp hq
      · simp)
  refine ⟨_, h1, ?_⟩
  have hlen : (vs.map fun n => AV.v (.int .u8 n)).length = vs.length := by simp
  have hs : SlR (w.alloc (.cells (vs.map (Value.int .u8)).toArray e m)) (fun b k => E.pr b k ∨ (b = w.heap.size ∧ k < vs.length)) 1 (vs.map fun n => AV.v (.int .u8 n)) w.heap.size 0 (vs.map (Value.int .u8)) := by
    refine ⟨by simp, fun i hi => by simp [flat], fun k hk => .inr ⟨rfl, by simpa using hk⟩, fun i hi j hj => ?_, fun k v hk => ?_⟩
    · have hj0 : j = 0 := by simp [flat] at hj; omega
      subst hj0
      have hi' : i < vs.length := by simpa using hi
      have e1 : (flat (vs.map fun n => AV.v (.int .u8 n))[i])[0] = .v (.int .u8 vs[i]) := by simp [flat]
      rw [e1]
      have e2 : (vs.map (Value.int .u8)).getD (i * 1 + 0) undef = .int .u8 vs[i] := by simp [List.getD, hi']
      rw [e2]
      exact .v _
    · obtain ⟨hk1, hk2⟩ := List.getElem?_eq_some_iff.1 hk
      have : (w.alloc (.cells (vs.map (Value.int .u8)).toArray e m)).heap[w.heap.size]? = some (.cells (vs.map (Value.int .u8)).toArray e m) := by
        show (w.heap.push _)[w.heap.size]? = _
        simp
      simp only [World.cell?, Nat.zero_add, this]
      have hk1' : k < vs.length := by simpa using hk1
      simp at hk2
      simp [hk1', hk2]
  have hv := hs.pv none _ (Nat.le_refl _)
  rw [hlen] at hv
  exact .sl hv (fun n g hn => by cases hn)
theorem tri_pairL {N : Nat} {s1 s3 sf : St} {id : Nat} {Q : Exit → St → Prop} {o1 o2 : Oper} (L : List Nat) (M : List Nm) (hΓ : GOk1 P Γ) (k d1 d2 : Nat) (t e : TypeId) (vs : List Int)
    (hk1 : ops[k]? = some o1) (hk2 : ops[k + 1]? = some o2) (g1 : o1.guard = none) (g2 : o2.guard = none) (hd1 : o1.dst = some d1) (hd2 : o2.dst = some d2) (ho2 : o2.op = .convert t t (.tmp d1))
    (hb1 : d1 < N) (hb2 : d2 < N) (hu : P.underlying t = some (.slice e)) (hu8 : P.underlying e = some (.int .u8))
    (hrun : ∀ (g : Operand → Value) (w : World), (∀ x, g (.const x) = x) → (execOp g o1).run P w = .ok (.value (.slice (some ⟨w.heap.size, 0, none⟩) vs.length vs.length)) (w.alloc (.cells (vs.map (Value.int .u8)).toArray e)))
    (he1 : Is (erunL P Γ C N ops (ops.toList.take k) st) s1)
    (he2 : Is (erunL P Γ C N ops (ops.toList.drop (k + 2)) (putSt (putSt s1 (some d1) .dead) (some d2) (.sl 1 (vs.map fun n => .v (.int .u8 n)) none))) s3)
    (he3 : Is (keep L M s3) sf) (hq : Q .normal sf) : Tri P N st (.region id ops false) Q := by
  rintro B a w ⟨rfl, hTb⟩ hr
  have hkl : k + 1 < ops.size := by
    have := Array.getElem?_eq_some_iff.1 hk2
    exact this.1
  have er1 : erun P Γ C B.N ops (List.range' 0 k) st = some s1 := by
    have hl : (ops.toList.take k).length = k := by simp; omega
    have := erun_eq (P := P) (Γ := Γ) (C := C) (N := B.N) (ops := ops) (ops.toList.take k) 0 st (fun i hi => by
      rw [hl] at hi
      rw [List.getElem?_take, if_pos hi]; simp)
    rw [hl] at this
    rw [this]; exact he1
  have er2 : erun P Γ C B.N ops (List.range' (k + 2) (ops.size - (k + 2))) (putSt (putSt s1 (some d1) .dead) (some d2) (.sl 1 (vs.map fun n => .v (.int .u8 n)) none)) = some s3 := by
    have hl : (ops.toList.drop (k + 2)).length = ops.size - (k + 2) := by simp
    have := erun_eq (P := P) (Γ := Γ) (C := C) (N := B.N) (ops := ops) (ops.toList.drop (k + 2)) (k + 2) (putSt (putSt s1 (some d1) .dead) (some d2) (.sl 1 (vs.map fun n => .v (.int .u8 n)) none)) (fun i hi => by
      rw [List.getElem?_drop]; simp)
    rw [hl] at this
    rw [this]; exact he2
  have hrange : List.range ops.size = List.range' 0 k ++ k :: (k + 1) :: List.range' (k + 2) (ops.size - (k + 2)) := by
    have e0 : ops.size = k + (ops.size - (k + 2) + 1 + 1) := by omega
    rw [List.range_eq_range']
    conv => lhs; rw [e0]
    rw [← List.range'_append_1, Nat.zero_add, List.range'_succ, List.range'_succ]
  refine wp_region ?_
  rw [hrange]
  refine ops_then ⟨hΓ, hTb⟩ (fun a w hr => ?_) _ st a w hr er1
  obtain ⟨E, h⟩ := hr
  simp only [wpOps, hk1, hk2]
  have w1 : ∀ ys, Region.wanted o1 ys = true := by intro ys; unfold Region.wanted; rw [g1]
  have w2 : ∀ ys, Region.wanted o2 ys = true := by intro ys; unfold Region.wanted; rw [g2]
  rw [if_pos (w1 _)]
  refine .inl (wp_value (hrun a.eval w (fun x => rfl)) ?_)
  rw [if_pos (w2 _)]
  obtain ⟨E', h2, hv⟩ := h.row_mark vs e
  have hput := h2.putSt (dst := o1.dst) (fun d hd => by rw [hd1] at hd; cases hd; exact hb1) (x := .dead) (y := .slice (some ⟨w.heap.size, 0, none⟩) vs.length vs.length) (.dead _)
  have hev : (a.put o1.dst (.slice (some ⟨w.heap.size, 0, none⟩) vs.length vs.length)).eval (.tmp d1) = .slice (some ⟨w.heap.size, 0, none⟩) vs.length vs.length := by
    rw [hd1]
    have := h.size
    simp [Act.put, Act.eval, Array.getD, this, hb1]
  refine .inl (wp_value (v := .slice (some ⟨w.heap.size, 0, none⟩) vs.length vs.length) (w' := w.alloc (.cells (vs.map (Value.int .u8)).toArray e ((vs.map (Value.int .u8)).toArray.size, (vs.map (Value.int .u8)).toArray.size + 1))) ?_ ?_)
  · unfold execOp
    simp only [ho2, Sem.run_bind, hev, run_same w t e _ vs.length hu hu8, Result.andThen_ok, Sem.run_pure]
  · have hv2 : V E' (putSt s1 o1.dst .dead) (w.alloc (.cells (vs.map (Value.int .u8)).toArray e ((vs.map (Value.int .u8)).toArray.size, (vs.map (Value.int .u8)).toArray.size + 1))) (.sl 1 (vs.map fun n => .v (.int .u8 n)) none) (.slice (some ⟨w.heap.size, 0, none⟩) vs.length vs.length) := by
      cases hv with
      | sl hp ht => exact .sl hp (fun n g hn => by cases hn)
    have hput2 := hput.putSt (dst := o2.dst) (fun d hd => by rw [hd2] at hd; cases hd; exact hb2) hv2
    rw [hd1, hd2] at hput2
    rw [hd1, hd2]
    refine ops_sound ⟨hΓ, hTb⟩ (fun a w hr => ?_) _ _ _ _ ⟨E', hput2⟩ er2
    exact ⟨sf, hq, keep_le he3 B a w rfl hr⟩
end
end Caw
namespace Caw
open Go Go.RowKit
section
variable {P : Program}
/-- What lays a row of bytes out. -/
theorem run_bytes {o : Oper} {t e : TypeId} {ps : Array (Nat × Operand)} (vs : List Int) {z : Value} (ho : o.op = .buildSlice t vs.length ps) (hu : P.underlying t = some (.slice e)) (hs : sizeT P e = some 1) (hz : zeroT P e = some z)
    (hn : 0 < vs.length) (hsm : vs.length ≤ 1000)
    (hf : ∀ g : Operand → Value, (∀ x, g (.const x) = x) → Instr.fill (fun i => some (i * 1, 1)) ((Array.range (vs.length * 1)).map fun k => z.cells[k % z.cells.size]!) (ps.map fun (p : Nat × Operand) => (p.1, g p.2)).toList = some (vs.map (Value.int .u8)).toArray)
    (g : Operand → Value) (w : World) (hg : ∀ x, g (.const x) = x) :
    (execOp g o).run P w = .ok (.value (.slice (some ⟨w.heap.size, 0, none⟩) vs.length vs.length)) (w.alloc (.cells (vs.map (Value.int .u8)).toArray e)) := by
  unfold execOp
  have hnb : ¬ vs.length * 1 > 2 ^ 24 := by
    have : (2 : Nat) ^ 24 = 16777216 := by decide
    omega
  have h0 : ¬ vs.length * 1 = 0 := by omega
  have hf' := hf g hg
  simp only [ho, Instr.buildSlice, Sem.run_bind, run_underlying hu, Result.andThen_ok, sizeT_run hs, h0, hnb, if_false, zeroT_run hz]
  simp only [Sem.run_pure, Result.andThen_ok, hf', newRow, newObj]
  rfl
end
end Caw

namespace Caw
open Go Go.RowKit
theorem prun_bind {P : Program} {α β : Type} : ∀ (s : Sem α) (f : α → Sem β), prun P (s >>= f) = (prun P s).bind fun x => prun P (f x)
  | .pure a, f => rfl
  | .program k, f => by
    show prun P (k P >>= f) = _
    rw [prun_bind]
    rfl
  | .load .., f => rfl
  | .store .., f => rfl
  | .new .., f => rfl
  | .shape .., f => rfl
  | .freeze .., f => rfl
  | .frozen .., f => rfl
  | .getObj .., f => rfl
  | .setObj .., f => rfl
  | .choose .., f => rfl
  | .sys .., f => rfl
  | .mark .., f => rfl
  | .halt .., f => rfl
theorem prun_pure {P : Program} {α : Type} (a : α) : prun P (pure a : Sem α) = some a := rfl
theorem prun_und {P : Program} {t : TypeId} {u : TypeDesc} (h : P.underlying t = some u) : prun P (underlying t) = some u := by
  unfold underlying
  simp [prun_bind, program, prun, h]
  try rfl
theorem eq_int {P : Program} {t : TypeId} {k0 : IntKind} (hu : P.underlying t = some (.int k0)) (d : Nat) (k : IntKind) (a : Int) : prun P (Op.equalIn (d + 1) t (.int k a) (.int k a)) = some true := by
  rw [Op.equalIn, prun_bind, prun_und hu]
  simp [prun_pure]
end Caw

set_option linter.all false
/-! Elements of an array and bytes of a string, by their number. -/
namespace Go.Proofs.YtljlhooodbfpiaaGreatDoor
open Go Go.RowKit Caw
theorem prun_map {α β : Type} (f : α → β) (s : Sem α) : prun Tryz.prog (f <$> s) = (prun Tryz.prog s).map f := by
  show prun Tryz.prog (s >>= fun x => pure (f x)) = _
  rw [prun_bind]
  cases prun Tryz.prog s <;> rfl
theorem prun_prog : prun Tryz.prog program = some Tryz.prog := rfl
@[simp] theorem ops_ix (t : TypeId) (x y : Operand) : (Op.index t x y).operands = #[x, y] := by simp [Op.operands]
def ixS : Value → Value → Option Value
  | .string s, .int .i64 n => if 0 ≤ n then s[n.toNat]?.map fun b => .int .u8 b.toNat else none
  | .string s, .int .u8 n => if 0 ≤ n then s[n.toNat]?.map fun b => .int .u8 b.toNat else none
  | _, _ => none
@[simp] theorem prun_ixS (g : Operand → Value) (x y : Operand) (dd : Option Tmp) (ty : TypeId) (pos : String) (af : Array Edge) (gu : Option (Nat × Bool)) (h : (ixS (g x) (g y)).isSome = true) :
    prun Tryz.prog (execOp g ⟨dd, .index 9 x y, ty, pos, af, gu⟩) = (ixS (g x) (g y)).map .value := by
  obtain ⟨v, hv⟩ := Option.isSome_iff_exists.1 h
  rw [hv]
  unfold execOp
  simp only []
  generalize g x = a at hv
  generalize g y = b at hv
  unfold ixS at hv
  split at hv
  · rename_i s n
    split at hv
    case isFalse => cases hv
    rename_i h0
    simp only [Option.map_eq_some_iff] at hv
    obtain ⟨c, hc, rfl⟩ := hv
    have e1 : prun Tryz.prog (asIntOf (.int .i64 n)) = some (.i64, n) := rfl
    simp [Instr.index, prun_bind, prun_pure, prun_map, e1, prun_und Tryz.underlying9, h0, hc]
  · rename_i s n
    split at hv
    case isFalse => cases hv
    rename_i h0
    simp only [Option.map_eq_some_iff] at hv
    obtain ⟨c, hc, rfl⟩ := hv
    have e1 : prun Tryz.prog (asIntOf (.int .u8 n)) = some (.u8, n) := rfl
    simp [Instr.index, prun_bind, prun_pure, prun_map, e1, prun_und Tryz.underlying9, h0, hc]
  · cases hv
attribute [simp] ixS.eq_1 ixS.eq_2
end Go.Proofs.YtljlhooodbfpiaaGreatDoor

-- Printed by genwalk.py.
namespace Go.Proofs.YtljlhooodbfpiaaGreatDoor
open Go Go.RowKit Caw
set_option linter.unusedSimpArgs false
set_option linter.unusedVariables false
set_option maxRecDepth 100000

-- caravel/caravelref02.Fold
set_option maxHeartbeats 2000000 in
theorem at26 (s : ByteArray) (hpre : s.size ≤ 100000) : SpecAt Tryz.prog 26 [.v (.string s)] (.v (.int .u16 (sumF (zb s)))) none := by
  refine specAt_of_tri Tryz.func26 rfl (Nat.le_of_ble_eq_true rfl) ?_
  all_goals (repeat' (first
      | (refine tri_condT (b_true (by simp; with_reducible exact IsB.mk)) ?_)
      | (refine tri_condF (b_true (by simp; with_reducible exact IsB.mk)) ?_)
      | (refine tri_skipT ?_)
      | (refine tri_skip ?_)
      | (refine then_to ?_)
      | (refine th_n ?_)
      | (refine in_n ?_)
      | (refine in_e ?_)
      | (refine in_x rfl ?_)
      | (refine th_e ?_)
      | (refine th_r ?_)
      | (refine in_r ?_)
      | (refine tri_ret ?_)
      | (refine tri_exit ?_)
      | (refine tri_block ?_)
      | (refine tri_step (id := 0) (C := ⟨[], [], []⟩) [0] [] gok_nil nodraw ?_; refine ⟨_, by (simp [*, flg]; exact Is.mk), ?_⟩)
      | (refine tri_last (id := 0) (C := ⟨[], [], []⟩) [0] [] gok_nil nodraw ?_; refine ⟨_, by (simp [*, flg]; exact Is.mk), ?_⟩)
      | (refine tri_step (id := 1) (C := ⟨[], [], []⟩) [0, 3] [] gok_nil nodraw ?_; refine ⟨_, by (simp [*, flg]; exact Is.mk), ?_⟩)
      | (refine tri_last (id := 1) (C := ⟨[], [], []⟩) [0, 3] [] gok_nil nodraw ?_; refine ⟨_, by (simp [*, flg]; exact Is.mk), ?_⟩)
      | (refine tri_step (id := 2) (C := ⟨[], [], []⟩) [0, 3, 4] [] gok_nil nodraw ?_; refine ⟨_, by (simp [*, flg]; exact Is.mk), ?_⟩)
      | (refine tri_last (id := 2) (C := ⟨[], [], []⟩) [0, 3, 4] [] gok_nil nodraw ?_; refine ⟨_, by (simp [*, flg]; exact Is.mk), ?_⟩)
      | (refine tri_step (id := 3) (C := ⟨[], [], []⟩) [0, 3, 4, 8] [] gok_nil nodraw ?_; refine ⟨_, by (simp [*, flg]; exact Is.mk), ?_⟩)
      | (refine tri_last (id := 3) (C := ⟨[], [], []⟩) [0, 3, 4, 8] [] gok_nil nodraw ?_; refine ⟨_, by (simp [*, flg]; exact Is.mk), ?_⟩)
      | (refine tri_step (id := 4) (C := ⟨[], [], []⟩) [0, 3, 4] [] gok_nil nodraw ?_; refine ⟨_, by (simp [*, flg]; exact Is.mk), ?_⟩)
      | (refine tri_last (id := 4) (C := ⟨[], [], []⟩) [0, 3, 4] [] gok_nil nodraw ?_; refine ⟨_, by (simp [*, flg]; exact Is.mk), ?_⟩)
      | (refine tri_step (id := 5) (C := ⟨[], [], []⟩) [0, 3, 4, 13] [] gok_nil nodraw ?_; refine ⟨_, by (simp [*, flg]; exact Is.mk), ?_⟩)
      | (refine tri_last (id := 5) (C := ⟨[], [], []⟩) [0, 3, 4, 13] [] gok_nil nodraw ?_; refine ⟨_, by (simp [*, flg]; exact Is.mk), ?_⟩)
      | (refine tri_step (id := 6) (C := ⟨[], [], []⟩) [0, 3, 4] [] gok_nil nodraw ?_; refine ⟨_, by (simp [*, flg]; exact Is.mk), ?_⟩)
      | (refine tri_last (id := 6) (C := ⟨[], [], []⟩) [0, 3, 4] [] gok_nil nodraw ?_; refine ⟨_, by (simp [*, flg]; exact Is.mk), ?_⟩)
      | (refine tri_step (id := 7) (C := ⟨[], [], []⟩) [0, 3, 4] [] gok_nil nodraw ?_; refine ⟨_, by (simp [*, flg]; exact Is.mk), ?_⟩)
      | (refine tri_last (id := 7) (C := ⟨[], [], []⟩) [0, 3, 4] [] gok_nil nodraw ?_; refine ⟨_, by (simp [*, flg]; exact Is.mk), ?_⟩)
      | (refine tri_stepG (id := 8) (C := ⟨[], [], []⟩) [3, 33] [] gok_nil nodraw ?_; refine ⟨_, (run_split 0 3 29 (by simp [*, flg]; exact Is.mk) (by simp; exact IsB.mk) (by simp [*, flg]; exact IsK.mk) (by simp [*, flg]; exact IsK.mk) (by simp; exact IsK.mk)), ?_⟩)
      | (refine tri_lastG (id := 8) (C := ⟨[], [], []⟩) [3, 33] [] gok_nil nodraw ?_; refine ⟨_, (run_split 0 3 29 (by simp [*, flg]; exact Is.mk) (by simp; exact IsB.mk) (by simp [*, flg]; exact IsK.mk) (by simp [*, flg]; exact IsK.mk) (by simp; exact IsK.mk)), ?_⟩)
      | (refine tri_step (id := 9) (C := ⟨[], [], []⟩) [2] [] gok_nil nodraw ?_; refine ⟨_, by (simp [*, flg]; exact Is.mk), ?_⟩)
      | (refine tri_last (id := 9) (C := ⟨[], [], []⟩) [2] [] gok_nil nodraw ?_; refine ⟨_, by (simp [*, flg]; exact Is.mk), ?_⟩)
      | (refine tri_step (id := 10) (C := ⟨[], [], []⟩) [2] [] gok_nil nodraw ?_; refine ⟨_, by (simp [*, flg]; exact Is.mk), ?_⟩)
      | (refine tri_last (id := 10) (C := ⟨[], [], []⟩) [2] [] gok_nil nodraw ?_; refine ⟨_, by (simp [*, flg]; exact Is.mk), ?_⟩)
      | (refine tri_cond (c := .tmp 8) (b_true (by simp; exact IsB.mk)) (fun hc => ?_) (fun hc => ?_))
      | (refine tri_cond (c := .tmp 13) (b_true (by simp; exact IsB.mk)) (fun hc => ?_) (fun hc => ?_))
      | (refine tri_cond (c := .tmp 33) (b_true (by simp; exact IsB.mk)) (fun hc => ?_) (fun hc => ?_))
      | (refine to_mk (by simp; exact IsK.mk))
      | (refine imp_ ?_)
      | ((simp; exact IsK.mk))
      | (refine tri_seq ?_)
      ))
  refine tri_loop (fun k st => ∃ (i : Nat) (n : Int), RefAt s i n ∧ k = s.size - i ∧ st = mkSt [(0, .v (.string s)), (3, .v (.int .i64 n)), (4, .v (.int .i64 i))] []) s.size _ (Le.refl _) ⟨0, 0, refAt0 s, rfl, rfl⟩ ?_
  rintro k st ⟨i, n, hr, hk, rfl⟩
  by_cases hlt : i < s.size
  · obtain ⟨c, hc0, hg⟩ : ∃ c : UInt8, s[i] = c ∧ ∀ h : i < s.size, s[i]'h = c := ⟨_, rfl, fun _ => rfl⟩
    obtain ⟨q1, q2, q3, q4, q5, q6⟩ := hr.step hlt hpre ((c.toNat : Nat) : Int) (by rw [hc0])
    clear hc0 hr
    cases he : evenB i with
    | true =>
      obtain ⟨u1, u2, u3⟩ := q5 he
      clear q5 q6
      all_goals (repeat' (first
      | (refine tri_condT (b_true (by simp; with_reducible exact IsB.mk)) ?_)
      | (refine tri_condF (b_true (by simp; with_reducible exact IsB.mk)) ?_)
      | (refine tri_skipT ?_)
      | (refine tri_skip ?_)
      | (refine then_to ?_)
      | (refine th_n ?_)
      | (refine in_n ?_)
      | (refine in_e ?_)
      | (refine in_x rfl ?_)
      | (refine th_e ?_)
      | (refine th_r ?_)
      | (refine in_r ?_)
      | (refine tri_ret ?_)
      | (refine tri_exit ?_)
      | (refine tri_block ?_)
      | (refine tri_step (id := 0) (C := ⟨[], [], []⟩) [0] [] gok_nil nodraw ?_; refine ⟨_, by (simp [*, flg]; exact Is.mk), ?_⟩)
      | (refine tri_last (id := 0) (C := ⟨[], [], []⟩) [0] [] gok_nil nodraw ?_; refine ⟨_, by (simp [*, flg]; exact Is.mk), ?_⟩)
      | (refine tri_step (id := 1) (C := ⟨[], [], []⟩) [0, 3] [] gok_nil nodraw ?_; refine ⟨_, by (simp [*, flg]; exact Is.mk), ?_⟩)
      | (refine tri_last (id := 1) (C := ⟨[], [], []⟩) [0, 3] [] gok_nil nodraw ?_; refine ⟨_, by (simp [*, flg]; exact Is.mk), ?_⟩)
      | (refine tri_step (id := 2) (C := ⟨[], [], []⟩) [0, 3, 4] [] gok_nil nodraw ?_; refine ⟨_, by (simp [*, flg]; exact Is.mk), ?_⟩)
      | (refine tri_last (id := 2) (C := ⟨[], [], []⟩) [0, 3, 4] [] gok_nil nodraw ?_; refine ⟨_, by (simp [*, flg]; exact Is.mk), ?_⟩)
      | (refine tri_step (id := 3) (C := ⟨[], [], []⟩) [0, 3, 4, 8] [] gok_nil nodraw ?_; refine ⟨_, by (simp [*, flg]; exact Is.mk), ?_⟩)
      | (refine tri_last (id := 3) (C := ⟨[], [], []⟩) [0, 3, 4, 8] [] gok_nil nodraw ?_; refine ⟨_, by (simp [*, flg]; exact Is.mk), ?_⟩)
      | (refine tri_step (id := 4) (C := ⟨[], [], []⟩) [0, 3, 4] [] gok_nil nodraw ?_; refine ⟨_, by (simp [*, flg]; exact Is.mk), ?_⟩)
      | (refine tri_last (id := 4) (C := ⟨[], [], []⟩) [0, 3, 4] [] gok_nil nodraw ?_; refine ⟨_, by (simp [*, flg]; exact Is.mk), ?_⟩)
      | (refine tri_step (id := 5) (C := ⟨[], [], []⟩) [0, 3, 4, 13] [] gok_nil nodraw ?_; refine ⟨_, by (simp [*, flg]; exact Is.mk), ?_⟩)
      | (refine tri_last (id := 5) (C := ⟨[], [], []⟩) [0, 3, 4, 13] [] gok_nil nodraw ?_; refine ⟨_, by (simp [*, flg]; exact Is.mk), ?_⟩)
      | (refine tri_step (id := 6) (C := ⟨[], [], []⟩) [0, 3, 4] [] gok_nil nodraw ?_; refine ⟨_, by (simp [*, flg]; exact Is.mk), ?_⟩)
      | (refine tri_last (id := 6) (C := ⟨[], [], []⟩) [0, 3, 4] [] gok_nil nodraw ?_; refine ⟨_, by (simp [*, flg]; exact Is.mk), ?_⟩)
      | (refine tri_step (id := 7) (C := ⟨[], [], []⟩) [0, 3, 4] [] gok_nil nodraw ?_; refine ⟨_, by (simp [*, flg]; exact Is.mk), ?_⟩)
      | (refine tri_last (id := 7) (C := ⟨[], [], []⟩) [0, 3, 4] [] gok_nil nodraw ?_; refine ⟨_, by (simp [*, flg]; exact Is.mk), ?_⟩)
      | (refine tri_stepG (id := 8) (C := ⟨[], [], []⟩) [3, 33] [] gok_nil nodraw ?_; refine ⟨_, (run_split 0 3 29 (by simp [*, flg]; exact Is.mk) (by simp; exact IsB.mk) (by simp [*, flg]; exact IsK.mk) (by simp [*, flg]; exact IsK.mk) (by simp; exact IsK.mk)), ?_⟩)
      | (refine tri_lastG (id := 8) (C := ⟨[], [], []⟩) [3, 33] [] gok_nil nodraw ?_; refine ⟨_, (run_split 0 3 29 (by simp [*, flg]; exact Is.mk) (by simp; exact IsB.mk) (by simp [*, flg]; exact IsK.mk) (by simp [*, flg]; exact IsK.mk) (by simp; exact IsK.mk)), ?_⟩)
      | (refine tri_step (id := 9) (C := ⟨[], [], []⟩) [2] [] gok_nil nodraw ?_; refine ⟨_, by (simp [*, flg]; exact Is.mk), ?_⟩)
      | (refine tri_last (id := 9) (C := ⟨[], [], []⟩) [2] [] gok_nil nodraw ?_; refine ⟨_, by (simp [*, flg]; exact Is.mk), ?_⟩)
      | (refine tri_step (id := 10) (C := ⟨[], [], []⟩) [2] [] gok_nil nodraw ?_; refine ⟨_, by (simp [*, flg]; exact Is.mk), ?_⟩)
      | (refine tri_last (id := 10) (C := ⟨[], [], []⟩) [2] [] gok_nil nodraw ?_; refine ⟨_, by (simp [*, flg]; exact Is.mk), ?_⟩)
      | (refine tri_cond (c := .tmp 8) (b_true (by simp; exact IsB.mk)) (fun hc => ?_) (fun hc => ?_))
      | (refine tri_cond (c := .tmp 13) (b_true (by simp; exact IsB.mk)) (fun hc => ?_) (fun hc => ?_))
      | (refine tri_cond (c := .tmp 33) (b_true (by simp; exact IsB.mk)) (fun hc => ?_) (fun hc => ?_))
      | (refine to_mk (by simp; exact IsK.mk))
      | (refine imp_ ?_)
      | ((simp; exact IsK.mk))
      | (refine tri_seq ?_)
      ))
      exact ⟨s.size - (i + 1), _, by omega, Le.refl _, i + 1, _, u3, rfl, rfl⟩
    | false =>
      obtain ⟨u1, u2, u3⟩ := q6 he
      clear q5 q6
      all_goals (repeat' (first
      | (refine tri_condT (b_true (by simp; with_reducible exact IsB.mk)) ?_)
      | (refine tri_condF (b_true (by simp; with_reducible exact IsB.mk)) ?_)
      | (refine tri_skipT ?_)
      | (refine tri_skip ?_)
      | (refine then_to ?_)
      | (refine th_n ?_)
      | (refine in_n ?_)
      | (refine in_e ?_)
      | (refine in_x rfl ?_)
      | (refine th_e ?_)
      | (refine th_r ?_)
      | (refine in_r ?_)
      | (refine tri_ret ?_)
      | (refine tri_exit ?_)
      | (refine tri_block ?_)
      | (refine tri_step (id := 0) (C := ⟨[], [], []⟩) [0] [] gok_nil nodraw ?_; refine ⟨_, by (simp [*, flg]; exact Is.mk), ?_⟩)
      | (refine tri_last (id := 0) (C := ⟨[], [], []⟩) [0] [] gok_nil nodraw ?_; refine ⟨_, by (simp [*, flg]; exact Is.mk), ?_⟩)
      | (refine tri_step (id := 1) (C := ⟨[], [], []⟩) [0, 3] [] gok_nil nodraw ?_; refine ⟨_, by (simp [*, flg]; exact Is.mk), ?_⟩)
      | (refine tri_last (id := 1) (C := ⟨[], [], []⟩) [0, 3] [] gok_nil nodraw ?_; refine ⟨_, by (simp [*, flg]; exact Is.mk), ?_⟩)
      | (refine tri_step (id := 2) (C := ⟨[], [], []⟩) [0, 3, 4] [] gok_nil nodraw ?_; refine ⟨_, by (simp [*, flg]; exact Is.mk), ?_⟩)
      | (refine tri_last (id := 2) (C := ⟨[], [], []⟩) [0, 3, 4] [] gok_nil nodraw ?_; refine ⟨_, by (simp [*, flg]; exact Is.mk), ?_⟩)
      | (refine tri_step (id := 3) (C := ⟨[], [], []⟩) [0, 3, 4, 8] [] gok_nil nodraw ?_; refine ⟨_, by (simp [*, flg]; exact Is.mk), ?_⟩)
      | (refine tri_last (id := 3) (C := ⟨[], [], []⟩) [0, 3, 4, 8] [] gok_nil nodraw ?_; refine ⟨_, by (simp [*, flg]; exact Is.mk), ?_⟩)
      | (refine tri_step (id := 4) (C := ⟨[], [], []⟩) [0, 3, 4] [] gok_nil nodraw ?_; refine ⟨_, by (simp [*, flg]; exact Is.mk), ?_⟩)
      | (refine tri_last (id := 4) (C := ⟨[], [], []⟩) [0, 3, 4] [] gok_nil nodraw ?_; refine ⟨_, by (simp [*, flg]; exact Is.mk), ?_⟩)
      | (refine tri_step (id := 5) (C := ⟨[], [], []⟩) [0, 3, 4, 13] [] gok_nil nodraw ?_; refine ⟨_, by (simp [*, flg]; exact Is.mk), ?_⟩)
      | (refine tri_last (id := 5) (C := ⟨[], [], []⟩) [0, 3, 4, 13] [] gok_nil nodraw ?_; refine ⟨_, by (simp [*, flg]; exact Is.mk), ?_⟩)
      | (refine tri_step (id := 6) (C := ⟨[], [], []⟩) [0, 3, 4] [] gok_nil nodraw ?_; refine ⟨_, by (simp [*, flg]; exact Is.mk), ?_⟩)
      | (refine tri_last (id := 6) (C := ⟨[], [], []⟩) [0, 3, 4] [] gok_nil nodraw ?_; refine ⟨_, by (simp [*, flg]; exact Is.mk), ?_⟩)
      | (refine tri_step (id := 7) (C := ⟨[], [], []⟩) [0, 3, 4] [] gok_nil nodraw ?_; refine ⟨_, by (simp [*, flg]; exact Is.mk), ?_⟩)
      | (refine tri_last (id := 7) (C := ⟨[], [], []⟩) [0, 3, 4] [] gok_nil nodraw ?_; refine ⟨_, by (simp [*, flg]; exact Is.mk), ?_⟩)
      | (refine tri_stepG (id := 8) (C := ⟨[], [], []⟩) [3, 33] [] gok_nil nodraw ?_; refine ⟨_, (run_split 0 3 29 (by simp [*, flg]; exact Is.mk) (by simp; exact IsB.mk) (by simp [*, flg]; exact IsK.mk) (by simp [*, flg]; exact IsK.mk) (by simp; exact IsK.mk)), ?_⟩)
      | (refine tri_lastG (id := 8) (C := ⟨[], [], []⟩) [3, 33] [] gok_nil nodraw ?_; refine ⟨_, (run_split 0 3 29 (by simp [*, flg]; exact Is.mk) (by simp; exact IsB.mk) (by simp [*, flg]; exact IsK.mk) (by simp [*, flg]; exact IsK.mk) (by simp; exact IsK.mk)), ?_⟩)
      | (refine tri_step (id := 9) (C := ⟨[], [], []⟩) [2] [] gok_nil nodraw ?_; refine ⟨_, by (simp [*, flg]; exact Is.mk), ?_⟩)
      | (refine tri_last (id := 9) (C := ⟨[], [], []⟩) [2] [] gok_nil nodraw ?_; refine ⟨_, by (simp [*, flg]; exact Is.mk), ?_⟩)
      | (refine tri_step (id := 10) (C := ⟨[], [], []⟩) [2] [] gok_nil nodraw ?_; refine ⟨_, by (simp [*, flg]; exact Is.mk), ?_⟩)
      | (refine tri_last (id := 10) (C := ⟨[], [], []⟩) [2] [] gok_nil nodraw ?_; refine ⟨_, by (simp [*, flg]; exact Is.mk), ?_⟩)
      | (refine tri_cond (c := .tmp 8) (b_true (by simp; exact IsB.mk)) (fun hc => ?_) (fun hc => ?_))
      | (refine tri_cond (c := .tmp 13) (b_true (by simp; exact IsB.mk)) (fun hc => ?_) (fun hc => ?_))
      | (refine tri_cond (c := .tmp 33) (b_true (by simp; exact IsB.mk)) (fun hc => ?_) (fun hc => ?_))
      | (refine to_mk (by simp; exact IsK.mk))
      | (refine imp_ ?_)
      | ((simp; exact IsK.mk))
      | (refine tri_seq ?_)
      ))
      exact ⟨s.size - (i + 1), _, by omega, Le.refl _, i + 1, _, u3, rfl, rfl⟩
  · have hn := hr.fin hlt
    subst hn
    have hlt2 : ¬ ((i : Nat) : Int) < ((s.size : Nat) : Int) := by omega
    clear hr
    have hs := sumF_eq (zb_u8 s)
    have hnn := longB_nn (zb s) true (zb_u8 s)
    generalize longB true (zb s) = N at *
    rcases nrm_cases hnn with ⟨e, v⟩ | ⟨e1, e2, v⟩ | ⟨e1, e2, e3, v⟩
    all_goals rw [v] at hs
    · subst e
      clear hnn
      all_goals (repeat' (first
      | (refine tri_condT (b_true (by simp; with_reducible exact IsB.mk)) ?_)
      | (refine tri_condF (b_true (by simp; with_reducible exact IsB.mk)) ?_)
      | (refine tri_skipT ?_)
      | (refine tri_skip ?_)
      | (refine then_to ?_)
      | (refine th_n ?_)
      | (refine in_n ?_)
      | (refine in_e ?_)
      | (refine in_x rfl ?_)
      | (refine th_e ?_)
      | (refine th_r ?_)
      | (refine in_r ?_)
      | (refine tri_ret ?_)
      | (refine tri_exit ?_)
      | (refine tri_block ?_)
      | (refine tri_step (id := 0) (C := ⟨[], [], []⟩) [0] [] gok_nil nodraw ?_; refine ⟨_, by (simp [*, flg]; exact Is.mk), ?_⟩)
      | (refine tri_last (id := 0) (C := ⟨[], [], []⟩) [0] [] gok_nil nodraw ?_; refine ⟨_, by (simp [*, flg]; exact Is.mk), ?_⟩)
      | (refine tri_step (id := 1) (C := ⟨[], [], []⟩) [0, 3] [] gok_nil nodraw ?_; refine ⟨_, by (simp [*, flg]; exact Is.mk), ?_⟩)
      | (refine tri_last (id := 1) (C := ⟨[], [], []⟩) [0, 3] [] gok_nil nodraw ?_; refine ⟨_, by (simp [*, flg]; exact Is.mk), ?_⟩)
      | (refine tri_step (id := 2) (C := ⟨[], [], []⟩) [0, 3, 4] [] gok_nil nodraw ?_; refine ⟨_, by (simp [*, flg]; exact Is.mk), ?_⟩)
      | (refine tri_last (id := 2) (C := ⟨[], [], []⟩) [0, 3, 4] [] gok_nil nodraw ?_; refine ⟨_, by (simp [*, flg]; exact Is.mk), ?_⟩)
      | (refine tri_step (id := 3) (C := ⟨[], [], []⟩) [0, 3, 4, 8] [] gok_nil nodraw ?_; refine ⟨_, by (simp [*, flg]; exact Is.mk), ?_⟩)
      | (refine tri_last (id := 3) (C := ⟨[], [], []⟩) [0, 3, 4, 8] [] gok_nil nodraw ?_; refine ⟨_, by (simp [*, flg]; exact Is.mk), ?_⟩)
      | (refine tri_step (id := 4) (C := ⟨[], [], []⟩) [0, 3, 4] [] gok_nil nodraw ?_; refine ⟨_, by (simp [*, flg]; exact Is.mk), ?_⟩)
      | (refine tri_last (id := 4) (C := ⟨[], [], []⟩) [0, 3, 4] [] gok_nil nodraw ?_; refine ⟨_, by (simp [*, flg]; exact Is.mk), ?_⟩)
      | (refine tri_step (id := 5) (C := ⟨[], [], []⟩) [0, 3, 4, 13] [] gok_nil nodraw ?_; refine ⟨_, by (simp [*, flg]; exact Is.mk), ?_⟩)
      | (refine tri_last (id := 5) (C := ⟨[], [], []⟩) [0, 3, 4, 13] [] gok_nil nodraw ?_; refine ⟨_, by (simp [*, flg]; exact Is.mk), ?_⟩)
      | (refine tri_step (id := 6) (C := ⟨[], [], []⟩) [0, 3, 4] [] gok_nil nodraw ?_; refine ⟨_, by (simp [*, flg]; exact Is.mk), ?_⟩)
      | (refine tri_last (id := 6) (C := ⟨[], [], []⟩) [0, 3, 4] [] gok_nil nodraw ?_; refine ⟨_, by (simp [*, flg]; exact Is.mk), ?_⟩)
      | (refine tri_step (id := 7) (C := ⟨[], [], []⟩) [0, 3, 4] [] gok_nil nodraw ?_; refine ⟨_, by (simp [*, flg]; exact Is.mk), ?_⟩)
      | (refine tri_last (id := 7) (C := ⟨[], [], []⟩) [0, 3, 4] [] gok_nil nodraw ?_; refine ⟨_, by (simp [*, flg]; exact Is.mk), ?_⟩)
      | (refine tri_stepG (id := 8) (C := ⟨[], [], []⟩) [3, 33] [] gok_nil nodraw ?_; refine ⟨_, (run_split 0 3 29 (by simp [*, flg]; exact Is.mk) (by simp; exact IsB.mk) (by simp [*, flg]; exact IsK.mk) (by simp [*, flg]; exact IsK.mk) (by simp; exact IsK.mk)), ?_⟩)
      | (refine tri_lastG (id := 8) (C := ⟨[], [], []⟩) [3, 33] [] gok_nil nodraw ?_; refine ⟨_, (run_split 0 3 29 (by simp [*, flg]; exact Is.mk) (by simp; exact IsB.mk) (by simp [*, flg]; exact IsK.mk) (by simp [*, flg]; exact IsK.mk) (by simp; exact IsK.mk)), ?_⟩)
      | (refine tri_step (id := 9) (C := ⟨[], [], []⟩) [2] [] gok_nil nodraw ?_; refine ⟨_, by (simp [*, flg]; exact Is.mk), ?_⟩)
      | (refine tri_last (id := 9) (C := ⟨[], [], []⟩) [2] [] gok_nil nodraw ?_; refine ⟨_, by (simp [*, flg]; exact Is.mk), ?_⟩)
      | (refine tri_step (id := 10) (C := ⟨[], [], []⟩) [2] [] gok_nil nodraw ?_; refine ⟨_, by (simp [*, flg]; exact Is.mk), ?_⟩)
      | (refine tri_last (id := 10) (C := ⟨[], [], []⟩) [2] [] gok_nil nodraw ?_; refine ⟨_, by (simp [*, flg]; exact Is.mk), ?_⟩)
      | (refine tri_cond (c := .tmp 8) (b_true (by simp; exact IsB.mk)) (fun hc => ?_) (fun hc => ?_))
      | (refine tri_cond (c := .tmp 13) (b_true (by simp; exact IsB.mk)) (fun hc => ?_) (fun hc => ?_))
      | (refine tri_cond (c := .tmp 33) (b_true (by simp; exact IsB.mk)) (fun hc => ?_) (fun hc => ?_))
      | (refine to_mk (by simp; exact IsK.mk))
      | (refine imp_ ?_)
      | ((simp; exact IsK.mk))
      | (refine tri_seq ?_)
      ))
      all_goals (refine post_plainV (P := Tryz.prog) (fn := Tryz.f26) (by simp; exact IsV.mk) rfl ?_)
      all_goals (first | (simp [hs]; done) | (simp [hs]; rfl) | (simp_all; done))
    · all_goals (repeat' (first
      | (refine tri_condT (b_true (by simp; with_reducible exact IsB.mk)) ?_)
      | (refine tri_condF (b_true (by simp; with_reducible exact IsB.mk)) ?_)
      | (refine tri_skipT ?_)
      | (refine tri_skip ?_)
      | (refine then_to ?_)
      | (refine th_n ?_)
      | (refine in_n ?_)
      | (refine in_e ?_)
      | (refine in_x rfl ?_)
      | (refine th_e ?_)
      | (refine th_r ?_)
      | (refine in_r ?_)
      | (refine tri_ret ?_)
      | (refine tri_exit ?_)
      | (refine tri_block ?_)
      | (refine tri_step (id := 0) (C := ⟨[], [], []⟩) [0] [] gok_nil nodraw ?_; refine ⟨_, by (simp [*, flg]; exact Is.mk), ?_⟩)
      | (refine tri_last (id := 0) (C := ⟨[], [], []⟩) [0] [] gok_nil nodraw ?_; refine ⟨_, by (simp [*, flg]; exact Is.mk), ?_⟩)
      | (refine tri_step (id := 1) (C := ⟨[], [], []⟩) [0, 3] [] gok_nil nodraw ?_; refine ⟨_, by (simp [*, flg]; exact Is.mk), ?_⟩)
      | (refine tri_last (id := 1) (C := ⟨[], [], []⟩) [0, 3] [] gok_nil nodraw ?_; refine ⟨_, by (simp [*, flg]; exact Is.mk), ?_⟩)
      | (refine tri_step (id := 2) (C := ⟨[], [], []⟩) [0, 3, 4] [] gok_nil nodraw ?_; refine ⟨_, by (simp [*, flg]; exact Is.mk), ?_⟩)
      | (refine tri_last (id := 2) (C := ⟨[], [], []⟩) [0, 3, 4] [] gok_nil nodraw ?_; refine ⟨_, by (simp [*, flg]; exact Is.mk), ?_⟩)
      | (refine tri_step (id := 3) (C := ⟨[], [], []⟩) [0, 3, 4, 8] [] gok_nil nodraw ?_; refine ⟨_, by (simp [*, flg]; exact Is.mk), ?_⟩)
      | (refine tri_last (id := 3) (C := ⟨[], [], []⟩) [0, 3, 4, 8] [] gok_nil nodraw ?_; refine ⟨_, by (simp [*, flg]; exact Is.mk), ?_⟩)
      | (refine tri_step (id := 4) (C := ⟨[], [], []⟩) [0, 3, 4] [] gok_nil nodraw ?_; refine ⟨_, by (simp [*, flg]; exact Is.mk), ?_⟩)
      | (refine tri_last (id := 4) (C := ⟨[], [], []⟩) [0, 3, 4] [] gok_nil nodraw ?_; refine ⟨_, by (simp [*, flg]; exact Is.mk), ?_⟩)
      | (refine tri_step (id := 5) (C := ⟨[], [], []⟩) [0, 3, 4, 13] [] gok_nil nodraw ?_; refine ⟨_, by (simp [*, flg]; exact Is.mk), ?_⟩)
      | (refine tri_last (id := 5) (C := ⟨[], [], []⟩) [0, 3, 4, 13] [] gok_nil nodraw ?_; refine ⟨_, by (simp [*, flg]; exact Is.mk), ?_⟩)
      | (refine tri_step (id := 6) (C := ⟨[], [], []⟩) [0, 3, 4] [] gok_nil nodraw ?_; refine ⟨_, by (simp [*, flg]; exact Is.mk), ?_⟩)
      | (refine tri_last (id := 6) (C := ⟨[], [], []⟩) [0, 3, 4] [] gok_nil nodraw ?_; refine ⟨_, by (simp [*, flg]; exact Is.mk), ?_⟩)
      | (refine tri_step (id := 7) (C := ⟨[], [], []⟩) [0, 3, 4] [] gok_nil nodraw ?_; refine ⟨_, by (simp [*, flg]; exact Is.mk), ?_⟩)
      | (refine tri_last (id := 7) (C := ⟨[], [], []⟩) [0, 3, 4] [] gok_nil nodraw ?_; refine ⟨_, by (simp [*, flg]; exact Is.mk), ?_⟩)
      | (refine tri_stepG (id := 8) (C := ⟨[], [], []⟩) [3, 33] [] gok_nil nodraw ?_; refine ⟨_, (run_split 0 3 29 (by simp [*, flg]; exact Is.mk) (by simp; exact IsB.mk) (by simp [*, flg]; exact IsK.mk) (by simp [*, flg]; exact IsK.mk) (by simp; exact IsK.mk)), ?_⟩)
      | (refine tri_lastG (id := 8) (C := ⟨[], [], []⟩) [3, 33] [] gok_nil nodraw ?_; refine ⟨_, (run_split 0 3 29 (by simp [*, flg]; exact Is.mk) (by simp; exact IsB.mk) (by simp [*, flg]; exact IsK.mk) (by simp [*, flg]; exact IsK.mk) (by simp; exact IsK.mk)), ?_⟩)
      | (refine tri_step (id := 9) (C := ⟨[], [], []⟩) [2] [] gok_nil nodraw ?_; refine ⟨_, by (simp [*, flg]; exact Is.mk), ?_⟩)
      | (refine tri_last (id := 9) (C := ⟨[], [], []⟩) [2] [] gok_nil nodraw ?_; refine ⟨_, by (simp [*, flg]; exact Is.mk), ?_⟩)
      | (refine tri_step (id := 10) (C := ⟨[], [], []⟩) [2] [] gok_nil nodraw ?_; refine ⟨_, by (simp [*, flg]; exact Is.mk), ?_⟩)
      | (refine tri_last (id := 10) (C := ⟨[], [], []⟩) [2] [] gok_nil nodraw ?_; refine ⟨_, by (simp [*, flg]; exact Is.mk), ?_⟩)
      | (refine tri_cond (c := .tmp 8) (b_true (by simp; exact IsB.mk)) (fun hc => ?_) (fun hc => ?_))
      | (refine tri_cond (c := .tmp 13) (b_true (by simp; exact IsB.mk)) (fun hc => ?_) (fun hc => ?_))
      | (refine tri_cond (c := .tmp 33) (b_true (by simp; exact IsB.mk)) (fun hc => ?_) (fun hc => ?_))
      | (refine to_mk (by simp; exact IsK.mk))
      | (refine imp_ ?_)
      | ((simp; exact IsK.mk))
      | (refine tri_seq ?_)
      ))
      all_goals (refine post_plainV (P := Tryz.prog) (fn := Tryz.f26) (by simp; exact IsV.mk) rfl ?_)
      all_goals (first | (simp [hs]; done) | (simp [hs]; rfl) | (simp_all; done))
    · all_goals (repeat' (first
      | (refine tri_condT (b_true (by simp; with_reducible exact IsB.mk)) ?_)
      | (refine tri_condF (b_true (by simp; with_reducible exact IsB.mk)) ?_)
      | (refine tri_skipT ?_)
      | (refine tri_skip ?_)
      | (refine then_to ?_)
      | (refine th_n ?_)
      | (refine in_n ?_)
      | (refine in_e ?_)
      | (refine in_x rfl ?_)
      | (refine th_e ?_)
      | (refine th_r ?_)
      | (refine in_r ?_)
      | (refine tri_ret ?_)
      | (refine tri_exit ?_)
      | (refine tri_block ?_)
      | (refine tri_step (id := 0) (C := ⟨[], [], []⟩) [0] [] gok_nil nodraw ?_; refine ⟨_, by (simp [*, flg]; exact Is.mk), ?_⟩)
      | (refine tri_last (id := 0) (C := ⟨[], [], []⟩) [0] [] gok_nil nodraw ?_; refine ⟨_, by (simp [*, flg]; exact Is.mk), ?_⟩)
      | (refine tri_step (id := 1) (C := ⟨[], [], []⟩) [0, 3] [] gok_nil nodraw ?_; refine ⟨_, by (simp [*, flg]; exact Is.mk), ?_⟩)
      | (refine tri_last (id := 1) (C := ⟨[], [], []⟩) [0, 3] [] gok_nil nodraw ?_; refine ⟨_, by (simp [*, flg]; exact Is.mk), ?_⟩)
      | (refine tri_step (id := 2) (C := ⟨[], [], []⟩) [0, 3, 4] [] gok_nil nodraw ?_; refine ⟨_, by (simp [*, flg]; exact Is.mk), ?_⟩)
      | (refine tri_last (id := 2) (C := ⟨[], [], []⟩) [0, 3, 4] [] gok_nil nodraw ?_; refine ⟨_, by (simp [*, flg]; exact Is.mk), ?_⟩)
      | (refine tri_step (id := 3) (C := ⟨[], [], []⟩) [0, 3, 4, 8] [] gok_nil nodraw ?_; refine ⟨_, by (simp [*, flg]; exact Is.mk), ?_⟩)
      | (refine tri_last (id := 3) (C := ⟨[], [], []⟩) [0, 3, 4, 8] [] gok_nil nodraw ?_; refine ⟨_, by (simp [*, flg]; exact Is.mk), ?_⟩)
      | (refine tri_step (id := 4) (C := ⟨[], [], []⟩) [0, 3, 4] [] gok_nil nodraw ?_; refine ⟨_, by (simp [*, flg]; exact Is.mk), ?_⟩)
      | (refine tri_last (id := 4) (C := ⟨[], [], []⟩) [0, 3, 4] [] gok_nil nodraw ?_; refine ⟨_, by (simp [*, flg]; exact Is.mk), ?_⟩)
      | (refine tri_step (id := 5) (C := ⟨[], [], []⟩) [0, 3, 4, 13] [] gok_nil nodraw ?_; refine ⟨_, by (simp [*, flg]; exact Is.mk), ?_⟩)
      | (refine tri_last (id := 5) (C := ⟨[], [], []⟩) [0, 3, 4, 13] [] gok_nil nodraw ?_; refine ⟨_, by (simp [*, flg]; exact Is.mk), ?_⟩)
      | (refine tri_step (id := 6) (C := ⟨[], [], []⟩) [0, 3, 4] [] gok_nil nodraw ?_; refine ⟨_, by (simp [*, flg]; exact Is.mk), ?_⟩)
      | (refine tri_last (id := 6) (C := ⟨[], [], []⟩) [0, 3, 4] [] gok_nil nodraw ?_; refine ⟨_, by (simp [*, flg]; exact Is.mk), ?_⟩)
      | (refine tri_step (id := 7) (C := ⟨[], [], []⟩) [0, 3, 4] [] gok_nil nodraw ?_; refine ⟨_, by (simp [*, flg]; exact Is.mk), ?_⟩)
      | (refine tri_last (id := 7) (C := ⟨[], [], []⟩) [0, 3, 4] [] gok_nil nodraw ?_; refine ⟨_, by (simp [*, flg]; exact Is.mk), ?_⟩)
      | (refine tri_stepG (id := 8) (C := ⟨[], [], []⟩) [3, 33] [] gok_nil nodraw ?_; refine ⟨_, (run_split 0 3 29 (by simp [*, flg]; exact Is.mk) (by simp; exact IsB.mk) (by simp [*, flg]; exact IsK.mk) (by simp [*, flg]; exact IsK.mk) (by simp; exact IsK.mk)), ?_⟩)
      | (refine tri_lastG (id := 8) (C := ⟨[], [], []⟩) [3, 33] [] gok_nil nodraw ?_; refine ⟨_, (run_split 0 3 29 (by simp [*, flg]; exact Is.mk) (by simp; exact IsB.mk) (by simp [*, flg]; exact IsK.mk) (by simp [*, flg]; exact IsK.mk) (by simp; exact IsK.mk)), ?_⟩)
      | (refine tri_step (id := 9) (C := ⟨[], [], []⟩) [2] [] gok_nil nodraw ?_; refine ⟨_, by (simp [*, flg]; exact Is.mk), ?_⟩)
      | (refine tri_last (id := 9) (C := ⟨[], [], []⟩) [2] [] gok_nil nodraw ?_; refine ⟨_, by (simp [*, flg]; exact Is.mk), ?_⟩)
      | (refine tri_step (id := 10) (C := ⟨[], [], []⟩) [2] [] gok_nil nodraw ?_; refine ⟨_, by (simp [*, flg]; exact Is.mk), ?_⟩)
      | (refine tri_last (id := 10) (C := ⟨[], [], []⟩) [2] [] gok_nil nodraw ?_; refine ⟨_, by (simp [*, flg]; exact Is.mk), ?_⟩)
      | (refine tri_cond (c := .tmp 8) (b_true (by simp; exact IsB.mk)) (fun hc => ?_) (fun hc => ?_))
      | (refine tri_cond (c := .tmp 13) (b_true (by simp; exact IsB.mk)) (fun hc => ?_) (fun hc => ?_))
      | (refine tri_cond (c := .tmp 33) (b_true (by simp; exact IsB.mk)) (fun hc => ?_) (fun hc => ?_))
      | (refine to_mk (by simp; exact IsK.mk))
      | (refine imp_ ?_)
      | ((simp; exact IsK.mk))
      | (refine tri_seq ?_)
      ))
      all_goals (refine post_plainV (P := Tryz.prog) (fn := Tryz.f26) (by simp; exact IsV.mk) rfl ?_)
      all_goals (first | (simp [hs]; done) | (simp [hs]; rfl) | (simp_all; done))
open Classical in
noncomputable def F26 : Fn1
  | [x0] => (dZ x0).bind fun s => if s.size ≤ 100000 then some ((.v (.int .u16 (sumF (zb s)))), none) else none
  | _ => none
theorem spec26 : Spec1 Tryz.prog 26 F26 := spec_of fun ys r o h => by
  unfold F26 at h
  split at h
  case h_2 => cases h
  obtain ⟨s, k0, h1⟩ := bind_some h
  obtain ⟨hpre, hz⟩ := ite_some h1
  cases hz
  exact ⟨_, at26 s hpre, rfl, le_plain ⟨dZ_co k0, trivial⟩ (by simp only [List.all_cons, List.all_nil, Bool.not_false, Bool.and_self, notRefB (dZ_co k0) rfl (by simp)]) rfl⟩
theorem en26 : Enters Tryz.prog 26 := enters_of Tryz.func26 (by kernel_rfl) rfl

end Go.Proofs.YtljlhooodbfpiaaGreatDoor

