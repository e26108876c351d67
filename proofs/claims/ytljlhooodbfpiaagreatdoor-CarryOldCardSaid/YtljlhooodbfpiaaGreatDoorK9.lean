import Derived.Test.YtljlhooodbfpiaaGreatDoorK7
import Derived.OpenShut
import Derived.Below
import Derived.ChangeOld
import Derived.Lib.LaidTab
import Derived.Lib.ItoaNum
import Derived.Stop.LaidErr
set_option linter.all false
/-! recvq.Accept and tcb, as the code has them. -/
namespace Caw
open Go
def aMark (q : Recv) (a : Int) (d : List Int) (e : Bool) : Recv :=
  if e = true ∧ q.known = false ∧ 0 ≤ seqDiff (seqAdd a d.length) q.next ∧ seqDiff (seqAdd a d.length) q.next ≤ recvWindow q ∧ recvBeyond q (seqAdd a d.length) = false then { q with known := true, fin := seqAdd a d.length } else q
def aTo (q : Recv) (a : Int) (d : List Int) (e : Bool) : Int :=
  if (aMark q a d e).known = true then minI (minI (IntKind.i64.wrap (seqDiff a q.next + d.length)) (recvWindow q)) (seqDiff (aMark q a d e).fin q.next) else minI (IntKind.i64.wrap (seqDiff a q.next + d.length)) (recvWindow q)
def aHi (q : Recv) (a : Int) (d : List Int) (e : Bool) : Int := IntKind.i64.wrap (IntKind.i64.wrap (accSkip q a + aTo q a d e) - accFrom q a)
def aPiece (q : Recv) (a : Int) (d : List Int) (e : Bool) : Piece := ⟨seqAdd q.next (accFrom q a), (d.take (aHi q a d e).toNat).drop (accSkip q a).toNat⟩
def aLay (q : Recv) (a : Int) (d : List Int) (e : Bool) : Recv := if accFrom q a < aTo q a d e then lay (aMark q a d e) (aPiece q a d e) else aMark q a d e
def aDone (q : Recv) : Recv := if q.known = true ∧ q.fin = q.next then { q with done := true, next := seqAdd q.next 1 } else q
def recvAcc (q : Recv) (a : Int) (d : List Int) (e : Bool) : Recv := if q.done = true then q else aDone (aLay q a d e)
def aOk (q : Recv) (a : Int) (d : List Int) (e : Bool) : Prop :=
  q.sm ∧ d.length ≤ 4096 ∧ (q.done = false → accFrom q a < aTo q a d e → 0 ≤ accSkip q a ∧ accSkip q a ≤ aHi q a d e ∧ aHi q a d e ≤ d.length ∧ layPre (aMark q a d e) (aPiece q a d e))
theorem aHi_fold (q : Recv) (a : Int) (d : List Int) (e : Bool) : IntKind.i64.wrap (IntKind.i64.wrap (accSkip q a + aTo q a d e) - accFrom q a) = aHi q a d e := rfl
theorem sm_part {d : List Int} (h : d.length ≤ 4096) (n m : Nat) : Sm ((d.take n).drop m) := by unfold Sm; simp; omega
end Caw
namespace Caw
open Go
section
variable (φ ψ : Nm → Option Nm) (s s2 : St)
theorem recvCells_coE {φ ψ : Nm → Option Nm} {s s2 : St} {x y : Recv} (e : x = y) : All2P (CoL φ ψ s s2) (recvCells x) (recvCells y) := by subst e; exact recvCells_co ..
theorem connCells_coE {φ ψ : Nm → Option Nm} {s s2 : St} {x y : Conn} (e : x = y) : All2P (CoL φ ψ s s2) (connCells x) (connCells y) := by subst e; exact connCells_co ..
end
end Caw
namespace Caw
open Go
theorem readN_fold (q : Recv) (n : Int) : maxI 0 (minI n q.data.length) = readN q n := rfl
theorem readN_ok (q : Recv) (n : Int) : 0 ≤ readN q n ∧ readN q n ≤ q.data.length := by
  unfold readN maxI minI
  constructor <;> (repeat' split) <;> omega
end Caw

/-! Layer tcb: sizes, and the parts of its functions. -/
namespace Caw
open Go
/-- What the code asks of an end's sizes. -/
def Conn.sm (c : Conn) : Prop := c.send.sm ∧ c.recv.sm
theorem Conn.sm.s {c : Conn} (h : c.sm) : c.send.sm := h.1
theorem Conn.sm.r {c : Conn} (h : c.sm) : c.recv.sm := h.2
theorem Send.sm.l {q : Send} (h : q.sm) : Sm q.data := by unfold Sm; have := h.2.2; omega
theorem recv0_sm : (⟨0, [], [], false, 0, false⟩ : Recv).sm := ⟨by simp, by simp, by simp⟩
/-- A new end, ahead of its first number. -/
def conn0 (phase : Int) (self peer : Addr) (first : Int) : Conn := ⟨phase, self, peer, first, ⟨0, [], 0, false, false, false⟩, ⟨0, [], [], false, 0, false⟩, 0, 64, rtoNew, 0, 0, false, 0, 0, 0, false, 0⟩
theorem conn0_sm (phase : Int) (self peer : Addr) (first : Int) : (conn0 phase self peer first).sm := ⟨⟨by simp [conn0], by simp [conn0], by simp [conn0]⟩, recv0_sm⟩
theorem pushW_fold (e : Ep) : (if e.conn.window = 0 ∧ sendFlight e.conn.send = 0 then 1 else e.conn.window) = pushW e := rfl
theorem pushN_fold (e : Ep) : sendNext e.conn.send (pushW e) e.conn.mss = pushN e := rfl
end Caw
namespace Caw
open Go
theorem pushLoop_stop {e : Ep} (h : ¬ (e.conn.phase = 3 ∧ (pushN e).2.2.2 = true)) : ∀ n, pushLoop n e = e
  | 0 => rfl
  | n + 1 => by simp only [pushLoop]; rw [if_neg h]
theorem sendNext_sm {q : Send} (w m : Int) (h : q.sm) : (sendNext q w m).1.sm := by
  unfold sendNext
  split
  · obtain ⟨a, b, c⟩ := nextN_le q w m h
    obtain ⟨h1, h2, h3⟩ := h
    exact ⟨by simp only; rw [c]; omega, by simp only; rw [c]; omega, h3⟩
  · exact h
theorem sendNext_data (q : Send) (w m : Int) : (sendNext q w m).1.data = q.data ∧ (sendNext q w m).1.fin = q.fin ∧ (sendNext q w m).1.una = q.una := by
  unfold sendNext; split <;> exact ⟨rfl, rfl, rfl⟩
theorem sendNext_M {q : Send} (w m : Int) (h : q.sm) (hok : (sendNext q w m).2.2.2 = true) : pushM (sendNext q w m).1 + 1 ≤ pushM q := by
  unfold sendNext at hok ⊢
  split at hok
  case isFalse => cases hok
  rename_i h0
  rw [if_pos h0]
  obtain ⟨a, b, c⟩ := nextN_le q w m h
  obtain ⟨h1, h2, h3⟩ := h
  unfold pushM
  simp only [c]
  unfold nextOk at h0
  by_cases hn : nextN q w m = 0
  · simp only [hn, decide_true, Bool.true_and, Bool.not_not] at h0
    have : nextF q w m = true := h0
    unfold nextF at this
    simp only [Bool.and_eq_true, Bool.not_eq_true', decide_eq_true_eq] at this
    simp [this.1.1, this.1.2, hn, h0]
  · have : (q.data.length - (q.sent + nextN q w m)).toNat + 1 ≤ (q.data.length - q.sent : Int).toNat := by omega
    have h4 : (if (q.fin && !(q.finSent || nextF q w m)) = true then 1 else 0) ≤ (if (q.fin && !q.finSent) = true then 1 else 0 : Nat) := by
      cases q.fin <;> cases q.finSent <;> cases nextF q w m <;> simp
    omega
theorem pushStep_send (e : Ep) : (pushStep e).conn.send = (pushN e).1 := by
  unfold pushStep
  simp only
  split <;> split <;> rfl
theorem pushStep_out (e : Ep) : (pushStep e).out.length = e.out.length + 1 := by
  unfold pushStep
  simp only
  split <;> split <;> simp [epArm, epTell]
theorem pushM_le {q : Send} (h : q.sm) : pushM q ≤ 4097 := by
  obtain ⟨h1, h2, h3⟩ := h
  unfold pushM
  split <;> omega
/-- A round of 'push'. -/
theorem push_round {e : Ep} {n : Nat} (h1 : pushM e.conn.send ≤ n) (h2 : e.conn.send.sm) (h3 : Rm n e.out) (hp : e.conn.phase = 3) (hok : (pushN e).2.2.2 = true) :
    ∃ k, n = k + 1 ∧ pushLoop n e = pushLoop k (pushStep e) ∧ pushM (pushStep e).conn.send ≤ k ∧ (pushStep e).conn.send.sm ∧ Rm k (pushStep e).out ∧ Rm 1 e.out := by
  have h4 := sendNext_M (pushW e) e.conn.mss h2 hok
  cases n with
  | zero => omega
  | succ k =>
    refine ⟨k, rfl, ?_, ?_, ?_, ?_, ?_⟩
    · simp only [pushLoop]; rw [if_pos ⟨hp, hok⟩]
    · rw [pushStep_send]; unfold pushN; omega
    · rw [pushStep_send]; exact sendNext_sm _ _ h2
    · unfold Rm at h3 ⊢; rw [pushStep_out]; omega
    · unfold Rm at h3 ⊢; omega
end Caw
namespace Caw
open Go
theorem flags_fold (p : Piece) (fin : Bool) : (if fin = true then bOr .u8 (if 0 < p.data.length then bOr .u8 16 8 else 16) 1 else if 0 < p.data.length then bOr .u8 16 8 else 16) = pshF p fin := rfl
def pushTold (e : Ep) : Ep := epTell { e with conn := { e.conn with send := (pushN e).1 } } (pshF (pushN e).2.1 (pushN e).2.2.1) (pushN e).2.1
theorem told_fold (e : Ep) : epTell { e with conn := { e.conn with send := (pushN e).1 } } (pshF (pushN e).2.1 (pushN e).2.2.1) (pushN e).2.1 = pushTold e := rfl
def pushSeq (e : Ep) : Int := seqAdd (pushN e).2.1.seq (segLen ⟨0, 0, 0, 0, pshF (pushN e).2.1 (pushN e).2.2.1, 0, 0, (pushN e).2.1.data⟩)
theorem seq_fold (e : Ep) : seqAdd (pushN e).2.1.seq (segLen ⟨0, 0, 0, 0, pshF (pushN e).2.1 (pushN e).2.2.1, 0, 0, (pushN e).2.1.data⟩) = pushSeq e := rfl
def pushTimed (e : Ep) : Ep := if (pushTold e).conn.timing = false then { pushTold e with conn := { (pushTold e).conn with timing := true, timedSeq := pushSeq e, timedAt := (pushTold e).now } } else pushTold e
theorem timed_fold (e : Ep) : (if (pushTold e).conn.timing = false then { pushTold e with conn := { (pushTold e).conn with timing := true, timedSeq := pushSeq e, timedAt := (pushTold e).now } } else pushTold e) = pushTimed e := rfl
theorem pushStep_eq (e : Ep) : pushStep e = if (pushTimed e).conn.due = 0 then epArm (pushTimed e) else pushTimed e := by
  have h : pushTimed e = (if (pushTold e).conn.timing then pushTold e else { pushTold e with conn := { (pushTold e).conn with timing := true, timedSeq := pushSeq e, timedAt := (pushTold e).now } }) := by
    unfold pushTimed
    cases (pushTold e).conn.timing <;> rfl
  rw [h]
  rfl
theorem epCells_le {N : Nat} {e e2 : Ep} (h : e = e2) : Le N (mkSt [(0, .ptr (0,1,0) 0)] [((0,1,0), epCells e (some ((0,1,38),0)))]) (mkSt [(0, .ptr (0,1,0) 0)] [((0,1,0), epCells e2 (some ((0,1,38),0)))]) := by subst h; exact Le.refl _
end Caw
namespace Caw
open Go
theorem hasF_fold (f b : Int) : (bAnd .u8 f b != 0) = hasF f b := rfl
/-! ### takes, in parts -/
def tk0 (e : Ep) (s : Seg) : Ep := if e.conn.phase = 2 then epOpened e s else e
def tkR (e : Ep) (s : Seg) : Send × Int × Int := sendAck e.conn.send s.ack
def tk1 (e : Ep) (s : Seg) : Ep := { e with conn := { e.conn with send := (tkR e s).1 } }
def tkM (e : Ep) (s : Seg) : Ep := epMeasure (tk1 e s) s.ack
def tk2 (e : Ep) (s : Seg) : Ep := { tkM e s with conn := { (tkM e s).conn with tries := 0, due := 0 } }
def tk3 (e : Ep) (s : Seg) : Ep := if 0 < sendFlight (tkR e s).1 then epArm (tk2 e s) else tk2 e s
def tk4 (e : Ep) (s : Seg) : Ep := if 0 < (tkR e s).2.1 then tk3 e s else tk1 e s
def tk5 (e : Ep) (s : Seg) : Ep := { tk4 e s with conn := { (tk4 e s).conn with window := IntKind.i64.wrap s.wnd } }
def tk6 (e : Ep) (s : Seg) : Ep := if IntKind.i64.wrap s.wnd = 0 then { tk5 e s with conn := { (tk5 e s).conn with tries := 0 } } else tk5 e s
def tk7 (e : Ep) (s : Seg) : Ep := if s.ack = (tkR e s).1.una then tk6 e s else tk4 e s
def tk8 (e : Ep) (s : Seg) : Ep := { tk7 e s with conn := { (tk7 e s).conn with recv := recvAcc (tk7 e s).conn.recv s.seq s.data (hasF s.flags 1) } }
def tk9 (e : Ep) (s : Seg) : Ep := epOver (tk8 e s)
def takesC (e : Ep) (s : Seg) : Ep := if (epPush e).out.length = e.out.length ∧ 0 < segLen s then epAck (epPush e) else epPush e
def takesB (e : Ep) (s : Seg) : Ep := if (tkR e s).2.2 = 0 then takesC (tk9 e s) s else epAck e
def takes (e : Ep) (s : Seg) : Ep := if e.conn.phase = 2 ∧ s.ack ≠ seqAdd e.conn.first 1 then { e with out := e.out ++ [refuse s] } else takesB (tk0 e s) s
section
variable (e : Ep) (s : Seg)
theorem tkR_fold : sendAck e.conn.send s.ack = tkR e s := rfl
theorem tk0_fold : (if e.conn.phase = 2 then epOpened e s else e) = tk0 e s := rfl
theorem tk1_fold : ({ e with conn := { e.conn with send := (tkR e s).1 } } : Ep) = tk1 e s := rfl
theorem tkM_fold : epMeasure (tk1 e s) s.ack = tkM e s := rfl
theorem tk2_fold : ({ tkM e s with conn := { (tkM e s).conn with tries := 0, due := 0 } } : Ep) = tk2 e s := rfl
theorem tk3_fold : (if 0 < sendFlight (tkR e s).1 then epArm (tk2 e s) else tk2 e s) = tk3 e s := rfl
theorem tk4_fold : (if 0 < (tkR e s).2.1 then tk3 e s else tk1 e s) = tk4 e s := rfl
theorem tk5_fold : ({ tk4 e s with conn := { (tk4 e s).conn with window := IntKind.i64.wrap s.wnd } } : Ep) = tk5 e s := rfl
theorem tk6_fold : (if IntKind.i64.wrap s.wnd = 0 then { tk5 e s with conn := { (tk5 e s).conn with window := IntKind.i64.wrap s.wnd, tries := 0 } } else tk5 e s) = tk6 e s := rfl
theorem tk5_window : (tk5 e s).conn.window = IntKind.i64.wrap s.wnd := rfl
theorem tk7_fold : (if s.ack = (tkR e s).1.una then tk6 e s else tk4 e s) = tk7 e s := rfl
theorem tk8_fold : ({ tk7 e s with conn := { (tk7 e s).conn with recv := recvAcc (tk7 e s).conn.recv s.seq s.data (hasF s.flags 1) } } : Ep) = tk8 e s := rfl
theorem tk9_fold : epOver (tk8 e s) = tk9 e s := rfl
theorem epMeasure_keeps (a : Int) : (epMeasure e a).conn.send = e.conn.send ∧ (epMeasure e a).conn.recv = e.conn.recv ∧ (epMeasure e a).out = e.out ∧ (epMeasure e a).conn.phase = e.conn.phase ∧ (epMeasure e a).conn.first = e.conn.first ∧ (epMeasure e a).conn.window = e.conn.window ∧ (epMeasure e a).conn.mss = e.conn.mss ∧ (epMeasure e a).conn.tries = e.conn.tries ∧ (epMeasure e a).conn.due = e.conn.due ∧ (epMeasure e a).conn.err = e.conn.err ∧ (epMeasure e a).conn.ended = e.conn.ended ∧ (epMeasure e a).now = e.now ∧ (epMeasure e a).conn.self = e.conn.self ∧ (epMeasure e a).conn.peer = e.conn.peer ∧ (epMeasure e a).conn.till = e.conn.till := by
  unfold epMeasure; split <;> exact ⟨rfl, rfl, rfl, rfl, rfl, rfl, rfl, rfl, rfl, rfl, rfl, rfl, rfl, rfl, rfl⟩
theorem tk0_keeps : (tk0 e s).conn.send = e.conn.send ∧ (tk0 e s).conn.recv = e.conn.recv ∧ (tk0 e s).out = e.out := by
  unfold tk0 epOpened
  split
  · obtain ⟨a, b, c, -⟩ := epMeasure_keeps { e with conn := { e.conn with phase := 3, tries := 0, due := 0 } } s.ack
    exact ⟨a, b, c⟩
  · exact ⟨rfl, rfl, rfl⟩
theorem tk4_keeps : (tk4 e s).conn.send = (tkR e s).1 ∧ (tk4 e s).conn.recv = e.conn.recv ∧ (tk4 e s).out = e.out := by
  obtain ⟨a, b, c, -⟩ := epMeasure_keeps (tk1 e s) s.ack
  unfold tk4
  split
  · unfold tk3
    split
    · exact ⟨a, b, c⟩
    · exact ⟨a, b, c⟩
  · exact ⟨rfl, rfl, rfl⟩
theorem tk7_keeps : (tk7 e s).conn.send = (tkR e s).1 ∧ (tk7 e s).conn.recv = e.conn.recv ∧ (tk7 e s).out = e.out := by
  obtain ⟨a, b, c⟩ := tk4_keeps e s
  unfold tk7
  split
  · unfold tk6
    split
    · exact ⟨a, b, c⟩
    · exact ⟨a, b, c⟩
  · exact ⟨a, b, c⟩
theorem epOver_keeps : (epOver e).conn.send = e.conn.send ∧ (epOver e).conn.recv = e.conn.recv ∧ (epOver e).out = e.out := by
  unfold epOver epShut
  split
  · exact ⟨rfl, rfl, rfl⟩
  · split <;> exact ⟨rfl, rfl, rfl⟩
theorem tk9_keeps : (tk9 e s).conn.send = (tkR e s).1 ∧ (tk9 e s).conn.recv = recvAcc e.conn.recv s.seq s.data (hasF s.flags 1) ∧ (tk9 e s).out = e.out := by
  obtain ⟨a, b, c⟩ := epOver_keeps (tk8 e s)
  obtain ⟨a1, b1, c1⟩ := tk7_keeps e s
  refine ⟨a.trans a1, b.trans ?_, c.trans c1⟩
  unfold tk8
  rw [b1]
theorem pushLoop_len : ∀ (n : Nat) (e : Ep), (pushLoop n e).out.length ≤ e.out.length + n
  | 0, e => Nat.le_refl _
  | n + 1, e => by
    simp only [pushLoop]
    split
    · have := pushLoop_len n (pushStep e)
      rw [pushStep_out] at this
      omega
    · omega
theorem epPush_len (h : e.conn.send.sm) : (epPush e).out.length ≤ e.out.length + 4097 := by
  have := pushLoop_len (pushM e.conn.send) e
  have := pushM_le h
  unfold epPush
  omega
theorem sendAck_sm {q : Send} (a : Int) (h : q.sm) : (sendAck q a).1.sm := by
  rcases ack_facts q a h with h2 | ⟨h2, h3, h4⟩
  · unfold sendAck; rw [if_pos h2]; exact h
  · unfold sendAck
    rw [if_neg h2]
    split
    · exact h
    · obtain ⟨h5, h6, h7⟩ := h
      have h8 : minI (seqDiff a q.una) q.sent ≤ q.sent := by unfold minI; split <;> omega
      have h9 : IntKind.i64.wrap (q.sent - minI (seqDiff a q.una) q.sent) = q.sent - minI (seqDiff a q.una) q.sent := wi_of (by omega) (by omega)
      refine ⟨?_, ?_, ?_⟩
      · simp only [h9]; omega
      · simp only [h9, List.length_drop]; omega
      · simp only [List.length_drop]; omega
/-- What 'takes' asks. -/
def takesPre (e : Ep) (s : Seg) : Prop := e.conn.send.sm ∧ aOk e.conn.recv s.seq s.data (hasF s.flags 1) ∧ e.out.length ≤ 90000
theorem takes_facts {e : Ep} {s : Seg} (h : takesPre e s) : Rm 1 e.out ∧ (tk0 e s).conn.send.sm ∧ Rm 1 (tk0 e s).out ∧ aOk (tk7 (tk0 e s) s).conn.recv s.seq s.data (hasF s.flags 1) ∧ (tk9 (tk0 e s) s).conn.send.sm ∧ Rm (pushM (tk9 (tk0 e s) s).conn.send) (tk9 (tk0 e s) s).out ∧ Rm 1 (epPush (tk9 (tk0 e s) s)).out := by
  obtain ⟨h1, h2, h3⟩ := h
  obtain ⟨a, b, c⟩ := tk0_keeps e s
  obtain ⟨a1, b1, c1⟩ := tk7_keeps (tk0 e s) s
  obtain ⟨a2, b2, c2⟩ := tk9_keeps (tk0 e s) s
  have h4 : (tk9 (tk0 e s) s).conn.send.sm := by rw [a2]; exact sendAck_sm _ (by rw [a]; exact h1)
  refine ⟨by unfold Rm; omega, by rw [a]; exact h1, by rw [c]; unfold Rm; omega, by rw [b1, b]; exact h2, h4, ?_, ?_⟩
  · have := pushM_le h4
    rw [c2, c]
    unfold Rm; omega
  · have := epPush_len (tk9 (tk0 e s) s) h4
    rw [c2, c] at this
    unfold Rm; omega
end
end Caw
namespace Caw
open Go
/-! ### the other functions of tcb -/
def bare (s : Seg) : Seg := ⟨s.src, s.dst, s.seq, s.ack, bAndNot .u8 s.flags 1, s.wnd, s.mss, []⟩
def lateB (e : Ep) (s : Seg) : Ep := if recvWindow e.conn.recv = 0 ∧ hasF s.flags 16 = true ∧ seqIn s.seq e.conn.recv.next 3 = true then takes e (bare s) else e
def late (e : Ep) (s : Seg) : Ep := if 0 < segLen s ∧ (lateB e s).out.length = 0 then epAck (lateB e s) else lateB e s
theorem bare_fold (s : Seg) : (⟨s.src, s.dst, s.seq, s.ack, bAndNot .u8 s.flags 1, s.wnd, s.mss, []⟩ : Seg) = bare s := rfl
theorem lateB_fold (e : Ep) (s : Seg) : (if recvWindow e.conn.recv = 0 ∧ hasF s.flags 16 = true ∧ seqIn s.seq e.conn.recv.next 3 = true then takes e (bare s) else e) = lateB e s := rfl
theorem takesC_len {e : Ep} (s : Seg) (h : e.conn.send.sm) : (takesC e s).out.length ≤ e.out.length + 4098 := by
  have := epPush_len e h
  unfold takesC
  split
  · simp only [epAck, epTell, List.length_append, List.length_singleton]; omega
  · omega
theorem takes_len {e : Ep} (s : Seg) (h : e.conn.send.sm) : (takes e s).out.length ≤ e.out.length + 4098 := by
  unfold takes
  split
  · simp
  · unfold takesB
    obtain ⟨a, b, c⟩ := tk0_keeps e s
    split
    · obtain ⟨a2, b2, c2⟩ := tk9_keeps (tk0 e s) s
      have := takesC_len (e := tk9 (tk0 e s) s) s (by rw [a2]; exact sendAck_sm _ (by rw [a]; exact h))
      rw [c2, c] at this
      exact this
    · simp only [epAck, epTell, List.length_append, List.length_singleton, c]; omega
theorem lateB_len {e : Ep} (s : Seg) (h : e.conn.send.sm) : (lateB e s).out.length ≤ e.out.length + 4098 := by
  unfold lateB
  split
  · exact takes_len _ h
  · omega
theorem late_facts {e : Ep} {s : Seg} (h : takesPre e (bare s)) : Rm 1 (lateB e s).out := by
  have := lateB_len s h.1
  have := h.2.2
  unfold Rm; omega
theorem epMeet_keeps (e : Ep) (s : Seg) : (epMeet e s).conn.send = e.conn.send ∧ (epMeet e s).out = e.out := ⟨rfl, rfl⟩
theorem epOpened_keeps (e : Ep) (s : Seg) : (epOpened e s).conn.send = e.conn.send ∧ (epOpened e s).out = e.out := by
  obtain ⟨a, b, c, -⟩ := epMeasure_keeps { e with conn := { e.conn with phase := 3, tries := 0, due := 0 } } s.ack
  exact ⟨a, c⟩
theorem epAck_keeps (e : Ep) : (epAck e).conn = e.conn ∧ (epAck e).out.length = e.out.length + 1 := ⟨rfl, by simp [epAck, epTell]⟩
def dialPre (e : Ep) : Prop := e.conn.send.sm ∧ e.out.length ≤ 90000
theorem dial_facts {e : Ep} (s : Seg) (h : dialPre e) : Rm 1 e.out ∧ Rm 1 (epOpened (epMeet e s) s).out ∧ (epAck (epOpened (epMeet e s) s)).conn.send.sm ∧ Rm (pushM (epAck (epOpened (epMeet e s) s)).conn.send) (epAck (epOpened (epMeet e s) s)).out ∧
    Rm 1 (epMeet { e with conn := { e.conn with phase := 2 } } s).out := by
  obtain ⟨h1, h2⟩ := h
  obtain ⟨a, b⟩ := epOpened_keeps (epMeet e s) s
  obtain ⟨c, d⟩ := epAck_keeps (epOpened (epMeet e s) s)
  have h3 : (epAck (epOpened (epMeet e s) s)).conn.send.sm := by rw [c, a]; exact h1
  have h4 := pushM_le h3
  refine ⟨by unfold Rm; omega, by rw [b]; unfold Rm; show e.out.length + 1 ≤ _; omega, h3, ?_, by unfold Rm; show e.out.length + 1 ≤ _; omega⟩
  unfold Rm
  rw [d, b]
  show e.out.length + 1 + _ ≤ _
  omega
theorem isMine_fold (e : Ep) (s : Seg) : (hasF s.flags 16 && decide (s.ack = seqAdd e.conn.first 1)) = isMine e s := rfl
/-- What 'Hear' asks. -/
def hearPre (c : Conn) (s : Seg) : Prop := c.sm ∧ aOk c.recv s.seq s.data (hasF s.flags 1) ∧ aOk c.recv s.seq [] (hasF (bAndNot .u8 s.flags 1) 1)
def hear (c : Conn) (s : Seg) (now : Int) : Ep :=
  let e : Ep := ⟨c, now, []⟩
  if c.phase = 0 then e
  else if c.phase = 1 then epDialling e s
  else if hasF s.flags 4 = true then (if seqFits s.seq 0 c.recv.next (recvWindow c.recv) = true then epBroken e else e)
  else if hasF s.flags 2 = true then epAck e
  else if seqFits s.seq (segLen s) c.recv.next (recvWindow c.recv) = false then late e s
  else if hasF s.flags 16 = true then takes e s
  else e
theorem hear_facts {c : Conn} {s : Seg} (now : Int) (h : hearPre c s) : takesPre ⟨c, now, []⟩ s ∧ takesPre ⟨c, now, []⟩ (bare s) ∧ dialPre ⟨c, now, []⟩ :=
  ⟨⟨h.1.s, h.2.1, by simp⟩, ⟨h.1.s, h.2.2, by simp⟩, h.1.s, by simp⟩
end Caw
namespace Caw
open Go
theorem dial_eq (e : Ep) (s : Seg) : (if hasF s.flags 4 = true then if hasF s.flags 16 = true ∧ s.ack = seqAdd e.conn.first 1 then epShut e 14 else e
    else
      if hasF s.flags 16 = true ∧ (hasF s.flags 16 = false ∨ ¬s.ack = seqAdd e.conn.first 1) then { e with out := e.out ++ [refuse s] }
      else
        if hasF s.flags 2 = true ∧ hasF s.flags 16 = true ∧ s.ack = seqAdd e.conn.first 1 then epPush (epAck (epOpened (epMeet e s) s))
        else if hasF s.flags 2 = true then epHello (epMeet { e with conn := { e.conn with phase := 2 } } s) else e) = epDialling e s := by
  unfold epDialling isMine
  by_cases ha : s.ack = seqAdd e.conn.first 1 <;> cases hasF s.flags 4 <;> cases hasF s.flags 16 <;> cases hasF s.flags 2 <;> simp [ha]
end Caw
namespace Caw
open Go
theorem sendWrite_sm {q : Send} (d : List Int) (h : q.sm) (h2 : q.data.length ≤ 256) : (sendWrite q d).1.sm := by
  obtain ⟨a, b, c, e⟩ := write_facts q d h2
  obtain ⟨h3, h4, h5⟩ := h
  have hr : sendRoom q ≤ 256 := by
    unfold sendRoom
    split
    · omega
    · rw [wi_of (by omega) (by omega)]; omega
  have hm : minI d.length (sendRoom q) ≤ 256 := by unfold minI; split <;> omega
  refine ⟨h3, ?_, ?_⟩
  · simp only [sendWrite, List.length_append, List.length_take]; omega
  · simp only [sendWrite, List.length_append, List.length_take]; omega
theorem write_pre {c : Conn} (d : List Int) (h : c.sm) (h2 : c.send.data.length ≤ 256) : (sendWrite c.send d).1.sm ∧ pushM (sendWrite c.send d).1 ≤ 100000 := by
  have := sendWrite_sm d h.s h2
  exact ⟨this, by have := pushM_le this; omega⟩
theorem close_pre {c : Conn} (h : c.sm) : (sendClose c.send).sm ∧ pushM (sendClose c.send) ≤ 100000 := by
  have h1 : (sendClose c.send).sm := h.s
  exact ⟨h1, by have := pushM_le h1; omega⟩
end Caw
namespace Caw
open Go
theorem epArm_out (e : Ep) : (epArm e).out = e.out := rfl
theorem epArm_send (e : Ep) : (epArm e).conn.send = e.conn.send := rfl
theorem one_seg0 (a b c d e f g : Int) : [AV.agg [.v (.int .u16 a), .v (.int .u16 b), .v (.int .u32 c), .v (.int .u32 d), .v (.int .u8 e), .v (.int .u16 f), .v (.int .u16 g), .sl 1 [] none]] = encS segCells [⟨a, b, c, d, e, f, g, []⟩] := by simp [encS, segCells]
def stOpen (c : Conn) : ByteArray :=
  if c.send.fin = false ∧ c.recv.done = false then ⟨#[69, 83, 84, 65, 66, 76, 73, 83, 72, 69, 68]⟩
  else if c.send.fin = false then ⟨#[67, 76, 79, 83, 69, 45, 87, 65, 73, 84]⟩
  else if c.recv.done = false ∧ c.send.finAcked = true then ⟨#[70, 73, 78, 45, 87, 65, 73, 84, 45, 50]⟩
  else if c.recv.done = false then ⟨#[70, 73, 78, 45, 87, 65, 73, 84, 45, 49]⟩
  else if c.ended = true then ⟨#[67, 76, 79, 83, 73, 78, 71]⟩
  else ⟨#[76, 65, 83, 84, 45, 65, 67, 75]⟩
def stName (c : Conn) : ByteArray :=
  if c.phase = 1 then ⟨#[83, 89, 78, 45, 83, 69, 78, 84]⟩
  else if c.phase = 2 then ⟨#[83, 89, 78, 45, 82, 69, 67, 69, 73, 86, 69, 68]⟩
  else if c.phase = 4 then ⟨#[84, 73, 77, 69, 45, 87, 65, 73, 84]⟩
  else if c.phase = 3 then stOpen c
  else ⟨#[67, 76, 79, 83, 69, 68]⟩
end Caw

/-! Printed by gencells2.py: the structures of the laws of layer tcb. -/
namespace Caw
open Go Go.RowKit
set_option linter.unusedSimpArgs false
set_option maxRecDepth 100000

@[ext] structure Talk where
  c0 : Conn
  c1 : Conn
  is0 : Bool
  is1 : Bool
  first0 : Int
  first1 : Int
  way0 : List Seg
  way1 : List Seg
  written0 : ByteArray
  written1 : ByteArray
  read0 : ByteArray
  read1 : ByteArray
  closed0 : Bool
  closed1 : Bool
  told0 : Bool
  told1 : Bool
  now : Int
  wrong : Bool
deriving Inhabited
def talkCells (x : Talk) : List AV := [.v (.int .i64 x.c0.phase), .v (.int .u8 x.c0.self.a), .v (.int .u8 x.c0.self.b), .v (.int .u8 x.c0.self.c), .v (.int .u8 x.c0.self.d), .v (.int .u16 x.c0.self.port), .v (.int .u8 x.c0.peer.a), .v (.int .u8 x.c0.peer.b), .v (.int .u8 x.c0.peer.c), .v (.int .u8 x.c0.peer.d), .v (.int .u16 x.c0.peer.port), .v (.int .u32 x.c0.first), .v (.int .u32 x.c0.send.una), .sl 1 (encB x.c0.send.data) none, .v (.int .i64 x.c0.send.sent), .v (.bool x.c0.send.fin), .v (.bool x.c0.send.finSent), .v (.bool x.c0.send.finAcked), .v (.int .u32 x.c0.recv.next), .sl 1 (encB x.c0.recv.data) none, .sl 2 (encS pieceCells x.c0.recv.ahead) none, .v (.bool x.c0.recv.known), .v (.int .u32 x.c0.recv.fin), .v (.bool x.c0.recv.done), .v (.int .i64 x.c0.window), .v (.int .i64 x.c0.mss), .v (.int .i64 x.c0.clock.smooth), .v (.int .i64 x.c0.clock.spread), .v (.int .i64 x.c0.clock.wait), .v (.int .u64 x.c0.due), .v (.int .i64 x.c0.tries), .v (.bool x.c0.timing), .v (.int .u32 x.c0.timedSeq), .v (.int .u64 x.c0.timedAt), .v (.int .u64 x.c0.till), .v (.bool x.c0.ended), .v (.int .i64 x.c0.err), .v (.int .i64 x.c1.phase), .v (.int .u8 x.c1.self.a), .v (.int .u8 x.c1.self.b), .v (.int .u8 x.c1.self.c), .v (.int .u8 x.c1.self.d), .v (.int .u16 x.c1.self.port), .v (.int .u8 x.c1.peer.a), .v (.int .u8 x.c1.peer.b), .v (.int .u8 x.c1.peer.c), .v (.int .u8 x.c1.peer.d), .v (.int .u16 x.c1.peer.port), .v (.int .u32 x.c1.first), .v (.int .u32 x.c1.send.una), .sl 1 (encB x.c1.send.data) none, .v (.int .i64 x.c1.send.sent), .v (.bool x.c1.send.fin), .v (.bool x.c1.send.finSent), .v (.bool x.c1.send.finAcked), .v (.int .u32 x.c1.recv.next), .sl 1 (encB x.c1.recv.data) none, .sl 2 (encS pieceCells x.c1.recv.ahead) none, .v (.bool x.c1.recv.known), .v (.int .u32 x.c1.recv.fin), .v (.bool x.c1.recv.done), .v (.int .i64 x.c1.window), .v (.int .i64 x.c1.mss), .v (.int .i64 x.c1.clock.smooth), .v (.int .i64 x.c1.clock.spread), .v (.int .i64 x.c1.clock.wait), .v (.int .u64 x.c1.due), .v (.int .i64 x.c1.tries), .v (.bool x.c1.timing), .v (.int .u32 x.c1.timedSeq), .v (.int .u64 x.c1.timedAt), .v (.int .u64 x.c1.till), .v (.bool x.c1.ended), .v (.int .i64 x.c1.err), .v (.bool x.is0), .v (.bool x.is1), .v (.int .u32 x.first0), .v (.int .u32 x.first1), .sl 8 (encS segCells x.way0) none, .sl 8 (encS segCells x.way1) none, .v (.string x.written0), .v (.string x.written1), .v (.string x.read0), .v (.string x.read1), .v (.bool x.closed0), .v (.bool x.closed1), .v (.bool x.told0), .v (.bool x.told1), .v (.int .u64 x.now), .v (.bool x.wrong)]
noncomputable def pTalk : List AV → Option (Talk × List AV) := fun cs => (pConn cs).bind fun (a0, cs) => (pConn cs).bind fun (a1, cs) => (pT cs).bind fun (a2, cs) => (pT cs).bind fun (a3, cs) => (pI .u32 cs).bind fun (a4, cs) => (pI .u32 cs).bind fun (a5, cs) => (pSl 8 pSeg segCells cs).bind fun (a6, cs) => (pSl 8 pSeg segCells cs).bind fun (a7, cs) => (pS cs).bind fun (a8, cs) => (pS cs).bind fun (a9, cs) => (pS cs).bind fun (a10, cs) => (pS cs).bind fun (a11, cs) => (pT cs).bind fun (a12, cs) => (pT cs).bind fun (a13, cs) => (pT cs).bind fun (a14, cs) => (pT cs).bind fun (a15, cs) => (pI .u64 cs).bind fun (a16, cs) => (pT cs).bind fun (a17, cs) => some (⟨a0, a1, a2, a3, a4, a5, a6, a7, a8, a9, a10, a11, a12, a13, a14, a15, a16, a17⟩, cs)
theorem pTalk_snd : Snd CoP pTalk (fun x => talkCells x) := by
  intro cs x r h0
  unfold pTalk at h0
  obtain ⟨a0, r0, q0, h1, e0, c0⟩ := Snd.step pConn_snd h0
  obtain ⟨a1, r1, q1, h2, e1, c1⟩ := Snd.step pConn_snd h1
  obtain ⟨a2, r2, q2, h3, e2, c2⟩ := Snd.step pT_snd h2
  obtain ⟨a3, r3, q3, h4, e3, c3⟩ := Snd.step pT_snd h3
  obtain ⟨a4, r4, q4, h5, e4, c4⟩ := Snd.step (pI_snd .u32) h4
  obtain ⟨a5, r5, q5, h6, e5, c5⟩ := Snd.step (pI_snd .u32) h5
  obtain ⟨a6, r6, q6, h7, e6, c6⟩ := Snd.step (pSl_snd 8 pSeg segCells) h6
  obtain ⟨a7, r7, q7, h8, e7, c7⟩ := Snd.step (pSl_snd 8 pSeg segCells) h7
  obtain ⟨a8, r8, q8, h9, e8, c8⟩ := Snd.step pS_snd h8
  obtain ⟨a9, r9, q9, h10, e9, c9⟩ := Snd.step pS_snd h9
  obtain ⟨a10, r10, q10, h11, e10, c10⟩ := Snd.step pS_snd h10
  obtain ⟨a11, r11, q11, h12, e11, c11⟩ := Snd.step pS_snd h11
  obtain ⟨a12, r12, q12, h13, e12, c12⟩ := Snd.step pT_snd h12
  obtain ⟨a13, r13, q13, h14, e13, c13⟩ := Snd.step pT_snd h13
  obtain ⟨a14, r14, q14, h15, e14, c14⟩ := Snd.step pT_snd h14
  obtain ⟨a15, r15, q15, h16, e15, c15⟩ := Snd.step pT_snd h15
  obtain ⟨a16, r16, q16, h17, e16, c16⟩ := Snd.step (pI_snd .u64) h16
  obtain ⟨a17, r17, q17, h18, e17, c17⟩ := Snd.step pT_snd h17
  cases h18
  subst e17 e16 e15 e14 e13 e12 e11 e10 e9 e8 e7 e6 e5 e4 e3 e2 e1 e0
  exact ⟨(q0 ++ (q1 ++ (q2 ++ (q3 ++ (q4 ++ (q5 ++ (q6 ++ (q7 ++ (q8 ++ (q9 ++ (q10 ++ (q11 ++ (q12 ++ (q13 ++ (q14 ++ (q15 ++ (q16 ++ q17))))))))))))))))), by simp only [List.append_assoc], (c0.app (c1.app (c2.app (c3.app (c4.app (c5.app (c6.app (c7.app (c8.app (c9.app (c10.app (c11.app (c12.app (c13.app (c14.app (c15.app (c16.app c17)))))))))))))))))⟩
@[simp] theorem pTalk_app (x : Talk) (r : List AV) : pTalk (talkCells x ++ r) = some (x, r) := by simp [pTalk, talkCells, pConn, pAddr, pSend, pRecv, decS_enc pPiece_all, pClock, decS_enc pSeg_all]
@[simp] theorem pTalk_all (x : Talk) : pTalk (talkCells x) = some (x, []) := by have := pTalk_app x []; rwa [List.append_nil] at this
@[simp] theorem talkCells_len (x : Talk) : (talkCells x).length = 90 := rfl
@[simp high] theorem mkAgg_talk (x : Talk) : mkAgg (talkCells x) = .agg (talkCells x) := rfl
@[simp] theorem whole_talk (x : Talk) : whole pTalk (.agg (talkCells x)) = some x := by simp
@[simp] theorem talk_cut_c0 (x : Talk) : cut (talkCells x) 0 37 = connCells x.c0 := rfl
@[simp] theorem talk_put_c0 (x : Talk) (y : Conn) : splice (talkCells x) 0 (connCells y) 37 = talkCells { x with c0 := y } := rfl
@[simp] theorem talk_get_c0_phase (x : Talk) : (talkCells x)[0]? = some (.v (.int .i64 x.c0.phase)) := rfl
@[simp] theorem talk_put_c0_phase (x : Talk) (y : Int) : splice (talkCells x) 0 [.v (.int .i64 y)] 1 = talkCells { x with c0 := { x.c0 with phase := y } } := rfl
@[simp] theorem talk_cut_c0_self (x : Talk) : cut (talkCells x) 1 5 = addrCells x.c0.self := rfl
@[simp] theorem talk_put_c0_self (x : Talk) (y : Addr) : splice (talkCells x) 1 (addrCells y) 5 = talkCells { x with c0 := { x.c0 with self := y } } := rfl
@[simp] theorem talk_get_c0_self_a (x : Talk) : (talkCells x)[1]? = some (.v (.int .u8 x.c0.self.a)) := rfl
@[simp] theorem talk_put_c0_self_a (x : Talk) (y : Int) : splice (talkCells x) 1 [.v (.int .u8 y)] 1 = talkCells { x with c0 := { x.c0 with self := { x.c0.self with a := y } } } := rfl
@[simp] theorem talk_get_c0_self_b (x : Talk) : (talkCells x)[2]? = some (.v (.int .u8 x.c0.self.b)) := rfl
@[simp] theorem talk_put_c0_self_b (x : Talk) (y : Int) : splice (talkCells x) 2 [.v (.int .u8 y)] 1 = talkCells { x with c0 := { x.c0 with self := { x.c0.self with b := y } } } := rfl
@[simp] theorem talk_get_c0_self_c (x : Talk) : (talkCells x)[3]? = some (.v (.int .u8 x.c0.self.c)) := rfl
@[simp] theorem talk_put_c0_self_c (x : Talk) (y : Int) : splice (talkCells x) 3 [.v (.int .u8 y)] 1 = talkCells { x with c0 := { x.c0 with self := { x.c0.self with c := y } } } := rfl
@[simp] theorem talk_get_c0_self_d (x : Talk) : (talkCells x)[4]? = some (.v (.int .u8 x.c0.self.d)) := rfl
@[simp] theorem talk_put_c0_self_d (x : Talk) (y : Int) : splice (talkCells x) 4 [.v (.int .u8 y)] 1 = talkCells { x with c0 := { x.c0 with self := { x.c0.self with d := y } } } := rfl
@[simp] theorem talk_get_c0_self_port (x : Talk) : (talkCells x)[5]? = some (.v (.int .u16 x.c0.self.port)) := rfl
@[simp] theorem talk_put_c0_self_port (x : Talk) (y : Int) : splice (talkCells x) 5 [.v (.int .u16 y)] 1 = talkCells { x with c0 := { x.c0 with self := { x.c0.self with port := y } } } := rfl
@[simp] theorem talk_cut_c0_peer (x : Talk) : cut (talkCells x) 6 5 = addrCells x.c0.peer := rfl
@[simp] theorem talk_put_c0_peer (x : Talk) (y : Addr) : splice (talkCells x) 6 (addrCells y) 5 = talkCells { x with c0 := { x.c0 with peer := y } } := rfl
@[simp] theorem talk_get_c0_peer_a (x : Talk) : (talkCells x)[6]? = some (.v (.int .u8 x.c0.peer.a)) := rfl
@[simp] theorem talk_put_c0_peer_a (x : Talk) (y : Int) : splice (talkCells x) 6 [.v (.int .u8 y)] 1 = talkCells { x with c0 := { x.c0 with peer := { x.c0.peer with a := y } } } := rfl
@[simp] theorem talk_get_c0_peer_b (x : Talk) : (talkCells x)[7]? = some (.v (.int .u8 x.c0.peer.b)) := rfl
@[simp] theorem talk_put_c0_peer_b (x : Talk) (y : Int) : splice (talkCells x) 7 [.v (.int .u8 y)] 1 = talkCells { x with c0 := { x.c0 with peer := { x.c0.peer with b := y } } } := rfl
@[simp] theorem talk_get_c0_peer_c (x : Talk) : (talkCells x)[8]? = some (.v (.int .u8 x.c0.peer.c)) := rfl
@[simp] theorem talk_put_c0_peer_c (x : Talk) (y : Int) : splice (talkCells x) 8 [.v (.int .u8 y)] 1 = talkCells { x with c0 := { x.c0 with peer := { x.c0.peer with c := y } } } := rfl
@[simp] theorem talk_get_c0_peer_d (x : Talk) : (talkCells x)[9]? = some (.v (.int .u8 x.c0.peer.d)) := rfl
@[simp] theorem talk_put_c0_peer_d (x : Talk) (y : Int) : splice (talkCells x) 9 [.v (.int .u8 y)] 1 = talkCells { x with c0 := { x.c0 with peer := { x.c0.peer with d := y } } } := rfl
@[simp] theorem talk_get_c0_peer_port (x : Talk) : (talkCells x)[10]? = some (.v (.int .u16 x.c0.peer.port)) := rfl
@[simp] theorem talk_put_c0_peer_port (x : Talk) (y : Int) : splice (talkCells x) 10 [.v (.int .u16 y)] 1 = talkCells { x with c0 := { x.c0 with peer := { x.c0.peer with port := y } } } := rfl
@[simp] theorem talk_get_c0_first (x : Talk) : (talkCells x)[11]? = some (.v (.int .u32 x.c0.first)) := rfl
@[simp] theorem talk_put_c0_first (x : Talk) (y : Int) : splice (talkCells x) 11 [.v (.int .u32 y)] 1 = talkCells { x with c0 := { x.c0 with first := y } } := rfl
@[simp] theorem talk_cut_c0_send (x : Talk) : cut (talkCells x) 12 6 = sendCells x.c0.send := rfl
@[simp] theorem talk_put_c0_send (x : Talk) (y : Send) : splice (talkCells x) 12 (sendCells y) 6 = talkCells { x with c0 := { x.c0 with send := y } } := rfl
@[simp] theorem talk_get_c0_send_una (x : Talk) : (talkCells x)[12]? = some (.v (.int .u32 x.c0.send.una)) := rfl
@[simp] theorem talk_put_c0_send_una (x : Talk) (y : Int) : splice (talkCells x) 12 [.v (.int .u32 y)] 1 = talkCells { x with c0 := { x.c0 with send := { x.c0.send with una := y } } } := rfl
@[simp] theorem talk_get_c0_send_data (x : Talk) : (talkCells x)[13]? = some (.sl 1 (encB x.c0.send.data) none) := rfl
@[simp] theorem talk_put_c0_send_data (x : Talk) (y : List Int) : splice (talkCells x) 13 [.sl 1 (encB y) none] 1 = talkCells { x with c0 := { x.c0 with send := { x.c0.send with data := y } } } := rfl
@[simp] theorem talk_get_c0_send_sent (x : Talk) : (talkCells x)[14]? = some (.v (.int .i64 x.c0.send.sent)) := rfl
@[simp] theorem talk_put_c0_send_sent (x : Talk) (y : Int) : splice (talkCells x) 14 [.v (.int .i64 y)] 1 = talkCells { x with c0 := { x.c0 with send := { x.c0.send with sent := y } } } := rfl
@[simp] theorem talk_get_c0_send_fin (x : Talk) : (talkCells x)[15]? = some (.v (.bool x.c0.send.fin)) := rfl
@[simp] theorem talk_put_c0_send_fin (x : Talk) (y : Bool) : splice (talkCells x) 15 [.v (.bool y)] 1 = talkCells { x with c0 := { x.c0 with send := { x.c0.send with fin := y } } } := rfl
@[simp] theorem talk_get_c0_send_finSent (x : Talk) : (talkCells x)[16]? = some (.v (.bool x.c0.send.finSent)) := rfl
@[simp] theorem talk_put_c0_send_finSent (x : Talk) (y : Bool) : splice (talkCells x) 16 [.v (.bool y)] 1 = talkCells { x with c0 := { x.c0 with send := { x.c0.send with finSent := y } } } := rfl
@[simp] theorem talk_get_c0_send_finAcked (x : Talk) : (talkCells x)[17]? = some (.v (.bool x.c0.send.finAcked)) := rfl
@[simp] theorem talk_put_c0_send_finAcked (x : Talk) (y : Bool) : splice (talkCells x) 17 [.v (.bool y)] 1 = talkCells { x with c0 := { x.c0 with send := { x.c0.send with finAcked := y } } } := rfl
@[simp] theorem talk_cut_c0_recv (x : Talk) : cut (talkCells x) 18 6 = recvCells x.c0.recv := rfl
@[simp] theorem talk_put_c0_recv (x : Talk) (y : Recv) : splice (talkCells x) 18 (recvCells y) 6 = talkCells { x with c0 := { x.c0 with recv := y } } := rfl
@[simp] theorem talk_get_c0_recv_next (x : Talk) : (talkCells x)[18]? = some (.v (.int .u32 x.c0.recv.next)) := rfl
@[simp] theorem talk_put_c0_recv_next (x : Talk) (y : Int) : splice (talkCells x) 18 [.v (.int .u32 y)] 1 = talkCells { x with c0 := { x.c0 with recv := { x.c0.recv with next := y } } } := rfl
@[simp] theorem talk_get_c0_recv_data (x : Talk) : (talkCells x)[19]? = some (.sl 1 (encB x.c0.recv.data) none) := rfl
@[simp] theorem talk_put_c0_recv_data (x : Talk) (y : List Int) : splice (talkCells x) 19 [.sl 1 (encB y) none] 1 = talkCells { x with c0 := { x.c0 with recv := { x.c0.recv with data := y } } } := rfl
@[simp] theorem talk_get_c0_recv_ahead (x : Talk) : (talkCells x)[20]? = some (.sl 2 (encS pieceCells x.c0.recv.ahead) none) := rfl
@[simp] theorem talk_put_c0_recv_ahead (x : Talk) (y : List Piece) : splice (talkCells x) 20 [.sl 2 (encS pieceCells y) none] 1 = talkCells { x with c0 := { x.c0 with recv := { x.c0.recv with ahead := y } } } := rfl
@[simp] theorem talk_get_c0_recv_known (x : Talk) : (talkCells x)[21]? = some (.v (.bool x.c0.recv.known)) := rfl
@[simp] theorem talk_put_c0_recv_known (x : Talk) (y : Bool) : splice (talkCells x) 21 [.v (.bool y)] 1 = talkCells { x with c0 := { x.c0 with recv := { x.c0.recv with known := y } } } := rfl
@[simp] theorem talk_get_c0_recv_fin (x : Talk) : (talkCells x)[22]? = some (.v (.int .u32 x.c0.recv.fin)) := rfl
@[simp] theorem talk_put_c0_recv_fin (x : Talk) (y : Int) : splice (talkCells x) 22 [.v (.int .u32 y)] 1 = talkCells { x with c0 := { x.c0 with recv := { x.c0.recv with fin := y } } } := rfl
@[simp] theorem talk_get_c0_recv_done (x : Talk) : (talkCells x)[23]? = some (.v (.bool x.c0.recv.done)) := rfl
@[simp] theorem talk_put_c0_recv_done (x : Talk) (y : Bool) : splice (talkCells x) 23 [.v (.bool y)] 1 = talkCells { x with c0 := { x.c0 with recv := { x.c0.recv with done := y } } } := rfl
@[simp] theorem talk_get_c0_window (x : Talk) : (talkCells x)[24]? = some (.v (.int .i64 x.c0.window)) := rfl
@[simp] theorem talk_put_c0_window (x : Talk) (y : Int) : splice (talkCells x) 24 [.v (.int .i64 y)] 1 = talkCells { x with c0 := { x.c0 with window := y } } := rfl
@[simp] theorem talk_get_c0_mss (x : Talk) : (talkCells x)[25]? = some (.v (.int .i64 x.c0.mss)) := rfl
@[simp] theorem talk_put_c0_mss (x : Talk) (y : Int) : splice (talkCells x) 25 [.v (.int .i64 y)] 1 = talkCells { x with c0 := { x.c0 with mss := y } } := rfl
@[simp] theorem talk_cut_c0_clock (x : Talk) : cut (talkCells x) 26 3 = clockCells x.c0.clock := rfl
@[simp] theorem talk_put_c0_clock (x : Talk) (y : Clock) : splice (talkCells x) 26 (clockCells y) 3 = talkCells { x with c0 := { x.c0 with clock := y } } := rfl
@[simp] theorem talk_get_c0_clock_smooth (x : Talk) : (talkCells x)[26]? = some (.v (.int .i64 x.c0.clock.smooth)) := rfl
@[simp] theorem talk_put_c0_clock_smooth (x : Talk) (y : Int) : splice (talkCells x) 26 [.v (.int .i64 y)] 1 = talkCells { x with c0 := { x.c0 with clock := { x.c0.clock with smooth := y } } } := rfl
@[simp] theorem talk_get_c0_clock_spread (x : Talk) : (talkCells x)[27]? = some (.v (.int .i64 x.c0.clock.spread)) := rfl
@[simp] theorem talk_put_c0_clock_spread (x : Talk) (y : Int) : splice (talkCells x) 27 [.v (.int .i64 y)] 1 = talkCells { x with c0 := { x.c0 with clock := { x.c0.clock with spread := y } } } := rfl
@[simp] theorem talk_get_c0_clock_wait (x : Talk) : (talkCells x)[28]? = some (.v (.int .i64 x.c0.clock.wait)) := rfl
@[simp] theorem talk_put_c0_clock_wait (x : Talk) (y : Int) : splice (talkCells x) 28 [.v (.int .i64 y)] 1 = talkCells { x with c0 := { x.c0 with clock := { x.c0.clock with wait := y } } } := rfl
@[simp] theorem talk_get_c0_due (x : Talk) : (talkCells x)[29]? = some (.v (.int .u64 x.c0.due)) := rfl
@[simp] theorem talk_put_c0_due (x : Talk) (y : Int) : splice (talkCells x) 29 [.v (.int .u64 y)] 1 = talkCells { x with c0 := { x.c0 with due := y } } := rfl
@[simp] theorem talk_get_c0_tries (x : Talk) : (talkCells x)[30]? = some (.v (.int .i64 x.c0.tries)) := rfl
@[simp] theorem talk_put_c0_tries (x : Talk) (y : Int) : splice (talkCells x) 30 [.v (.int .i64 y)] 1 = talkCells { x with c0 := { x.c0 with tries := y } } := rfl
@[simp] theorem talk_get_c0_timing (x : Talk) : (talkCells x)[31]? = some (.v (.bool x.c0.timing)) := rfl
@[simp] theorem talk_put_c0_timing (x : Talk) (y : Bool) : splice (talkCells x) 31 [.v (.bool y)] 1 = talkCells { x with c0 := { x.c0 with timing := y } } := rfl
@[simp] theorem talk_get_c0_timedSeq (x : Talk) : (talkCells x)[32]? = some (.v (.int .u32 x.c0.timedSeq)) := rfl
@[simp] theorem talk_put_c0_timedSeq (x : Talk) (y : Int) : splice (talkCells x) 32 [.v (.int .u32 y)] 1 = talkCells { x with c0 := { x.c0 with timedSeq := y } } := rfl
@[simp] theorem talk_get_c0_timedAt (x : Talk) : (talkCells x)[33]? = some (.v (.int .u64 x.c0.timedAt)) := rfl
@[simp] theorem talk_put_c0_timedAt (x : Talk) (y : Int) : splice (talkCells x) 33 [.v (.int .u64 y)] 1 = talkCells { x with c0 := { x.c0 with timedAt := y } } := rfl
@[simp] theorem talk_get_c0_till (x : Talk) : (talkCells x)[34]? = some (.v (.int .u64 x.c0.till)) := rfl
@[simp] theorem talk_put_c0_till (x : Talk) (y : Int) : splice (talkCells x) 34 [.v (.int .u64 y)] 1 = talkCells { x with c0 := { x.c0 with till := y } } := rfl
@[simp] theorem talk_get_c0_ended (x : Talk) : (talkCells x)[35]? = some (.v (.bool x.c0.ended)) := rfl
@[simp] theorem talk_put_c0_ended (x : Talk) (y : Bool) : splice (talkCells x) 35 [.v (.bool y)] 1 = talkCells { x with c0 := { x.c0 with ended := y } } := rfl
@[simp] theorem talk_get_c0_err (x : Talk) : (talkCells x)[36]? = some (.v (.int .i64 x.c0.err)) := rfl
@[simp] theorem talk_put_c0_err (x : Talk) (y : Int) : splice (talkCells x) 36 [.v (.int .i64 y)] 1 = talkCells { x with c0 := { x.c0 with err := y } } := rfl
@[simp] theorem talk_cut_c1 (x : Talk) : cut (talkCells x) 37 37 = connCells x.c1 := rfl
@[simp] theorem talk_put_c1 (x : Talk) (y : Conn) : splice (talkCells x) 37 (connCells y) 37 = talkCells { x with c1 := y } := rfl
@[simp] theorem talk_get_c1_phase (x : Talk) : (talkCells x)[37]? = some (.v (.int .i64 x.c1.phase)) := rfl
@[simp] theorem talk_put_c1_phase (x : Talk) (y : Int) : splice (talkCells x) 37 [.v (.int .i64 y)] 1 = talkCells { x with c1 := { x.c1 with phase := y } } := rfl
@[simp] theorem talk_cut_c1_self (x : Talk) : cut (talkCells x) 38 5 = addrCells x.c1.self := rfl
@[simp] theorem talk_put_c1_self (x : Talk) (y : Addr) : splice (talkCells x) 38 (addrCells y) 5 = talkCells { x with c1 := { x.c1 with self := y } } := rfl
@[simp] theorem talk_get_c1_self_a (x : Talk) : (talkCells x)[38]? = some (.v (.int .u8 x.c1.self.a)) := rfl
@[simp] theorem talk_put_c1_self_a (x : Talk) (y : Int) : splice (talkCells x) 38 [.v (.int .u8 y)] 1 = talkCells { x with c1 := { x.c1 with self := { x.c1.self with a := y } } } := rfl
@[simp] theorem talk_get_c1_self_b (x : Talk) : (talkCells x)[39]? = some (.v (.int .u8 x.c1.self.b)) := rfl
@[simp] theorem talk_put_c1_self_b (x : Talk) (y : Int) : splice (talkCells x) 39 [.v (.int .u8 y)] 1 = talkCells { x with c1 := { x.c1 with self := { x.c1.self with b := y } } } := rfl
@[simp] theorem talk_get_c1_self_c (x : Talk) : (talkCells x)[40]? = some (.v (.int .u8 x.c1.self.c)) := rfl
@[simp] theorem talk_put_c1_self_c (x : Talk) (y : Int) : splice (talkCells x) 40 [.v (.int .u8 y)] 1 = talkCells { x with c1 := { x.c1 with self := { x.c1.self with c := y } } } := rfl
@[simp] theorem talk_get_c1_self_d (x : Talk) : (talkCells x)[41]? = some (.v (.int .u8 x.c1.self.d)) := rfl
@[simp] theorem talk_put_c1_self_d (x : Talk) (y : Int) : splice (talkCells x) 41 [.v (.int .u8 y)] 1 = talkCells { x with c1 := { x.c1 with self := { x.c1.self with d := y } } } := rfl
@[simp] theorem talk_get_c1_self_port (x : Talk) : (talkCells x)[42]? = some (.v (.int .u16 x.c1.self.port)) := rfl
@[simp] theorem talk_put_c1_self_port (x : Talk) (y : Int) : splice (talkCells x) 42 [.v (.int .u16 y)] 1 = talkCells { x with c1 := { x.c1 with self := { x.c1.self with port := y } } } := rfl
@[simp] theorem talk_cut_c1_peer (x : Talk) : cut (talkCells x) 43 5 = addrCells x.c1.peer := rfl
@[simp] theorem talk_put_c1_peer (x : Talk) (y : Addr) : splice (talkCells x) 43 (addrCells y) 5 = talkCells { x with c1 := { x.c1 with peer := y } } := rfl
@[simp] theorem talk_get_c1_peer_a (x : Talk) : (talkCells x)[43]? = some (.v (.int .u8 x.c1.peer.a)) := rfl
@[simp] theorem talk_put_c1_peer_a (x : Talk) (y : Int) : splice (talkCells x) 43 [.v (.int .u8 y)] 1 = talkCells { x with c1 := { x.c1 with peer := { x.c1.peer with a := y } } } := rfl
@[simp] theorem talk_get_c1_peer_b (x : Talk) : (talkCells x)[44]? = some (.v (.int .u8 x.c1.peer.b)) := rfl
@[simp] theorem talk_put_c1_peer_b (x : Talk) (y : Int) : splice (talkCells x) 44 [.v (.int .u8 y)] 1 = talkCells { x with c1 := { x.c1 with peer := { x.c1.peer with b := y } } } := rfl
@[simp] theorem talk_get_c1_peer_c (x : Talk) : (talkCells x)[45]? = some (.v (.int .u8 x.c1.peer.c)) := rfl
@[simp] theorem talk_put_c1_peer_c (x : Talk) (y : Int) : splice (talkCells x) 45 [.v (.int .u8 y)] 1 = talkCells { x with c1 := { x.c1 with peer := { x.c1.peer with c := y } } } := rfl
@[simp] theorem talk_get_c1_peer_d (x : Talk) : (talkCells x)[46]? = some (.v (.int .u8 x.c1.peer.d)) := rfl
@[simp] theorem talk_put_c1_peer_d (x : Talk) (y : Int) : splice (talkCells x) 46 [.v (.int .u8 y)] 1 = talkCells { x with c1 := { x.c1 with peer := { x.c1.peer with d := y } } } := rfl
@[simp] theorem talk_get_c1_peer_port (x : Talk) : (talkCells x)[47]? = some (.v (.int .u16 x.c1.peer.port)) := rfl
@[simp] theorem talk_put_c1_peer_port (x : Talk) (y : Int) : splice (talkCells x) 47 [.v (.int .u16 y)] 1 = talkCells { x with c1 := { x.c1 with peer := { x.c1.peer with port := y } } } := rfl
@[simp] theorem talk_get_c1_first (x : Talk) : (talkCells x)[48]? = some (.v (.int .u32 x.c1.first)) := rfl
@[simp] theorem talk_put_c1_first (x : Talk) (y : Int) : splice (talkCells x) 48 [.v (.int .u32 y)] 1 = talkCells { x with c1 := { x.c1 with first := y } } := rfl
@[simp] theorem talk_cut_c1_send (x : Talk) : cut (talkCells x) 49 6 = sendCells x.c1.send := rfl
@[simp] theorem talk_put_c1_send (x : Talk) (y : Send) : splice (talkCells x) 49 (sendCells y) 6 = talkCells { x with c1 := { x.c1 with send := y } } := rfl
@[simp] theorem talk_get_c1_send_una (x : Talk) : (talkCells x)[49]? = some (.v (.int .u32 x.c1.send.una)) := rfl
@[simp] theorem talk_put_c1_send_una (x : Talk) (y : Int) : splice (talkCells x) 49 [.v (.int .u32 y)] 1 = talkCells { x with c1 := { x.c1 with send := { x.c1.send with una := y } } } := rfl
@[simp] theorem talk_get_c1_send_data (x : Talk) : (talkCells x)[50]? = some (.sl 1 (encB x.c1.send.data) none) := rfl
@[simp] theorem talk_put_c1_send_data (x : Talk) (y : List Int) : splice (talkCells x) 50 [.sl 1 (encB y) none] 1 = talkCells { x with c1 := { x.c1 with send := { x.c1.send with data := y } } } := rfl
@[simp] theorem talk_get_c1_send_sent (x : Talk) : (talkCells x)[51]? = some (.v (.int .i64 x.c1.send.sent)) := rfl
@[simp] theorem talk_put_c1_send_sent (x : Talk) (y : Int) : splice (talkCells x) 51 [.v (.int .i64 y)] 1 = talkCells { x with c1 := { x.c1 with send := { x.c1.send with sent := y } } } := rfl
@[simp] theorem talk_get_c1_send_fin (x : Talk) : (talkCells x)[52]? = some (.v (.bool x.c1.send.fin)) := rfl
@[simp] theorem talk_put_c1_send_fin (x : Talk) (y : Bool) : splice (talkCells x) 52 [.v (.bool y)] 1 = talkCells { x with c1 := { x.c1 with send := { x.c1.send with fin := y } } } := rfl
@[simp] theorem talk_get_c1_send_finSent (x : Talk) : (talkCells x)[53]? = some (.v (.bool x.c1.send.finSent)) := rfl
@[simp] theorem talk_put_c1_send_finSent (x : Talk) (y : Bool) : splice (talkCells x) 53 [.v (.bool y)] 1 = talkCells { x with c1 := { x.c1 with send := { x.c1.send with finSent := y } } } := rfl
@[simp] theorem talk_get_c1_send_finAcked (x : Talk) : (talkCells x)[54]? = some (.v (.bool x.c1.send.finAcked)) := rfl
@[simp] theorem talk_put_c1_send_finAcked (x : Talk) (y : Bool) : splice (talkCells x) 54 [.v (.bool y)] 1 = talkCells { x with c1 := { x.c1 with send := { x.c1.send with finAcked := y } } } := rfl
@[simp] theorem talk_cut_c1_recv (x : Talk) : cut (talkCells x) 55 6 = recvCells x.c1.recv := rfl
@[simp] theorem talk_put_c1_recv (x : Talk) (y : Recv) : splice (talkCells x) 55 (recvCells y) 6 = talkCells { x with c1 := { x.c1 with recv := y } } := rfl
@[simp] theorem talk_get_c1_recv_next (x : Talk) : (talkCells x)[55]? = some (.v (.int .u32 x.c1.recv.next)) := rfl
@[simp] theorem talk_put_c1_recv_next (x : Talk) (y : Int) : splice (talkCells x) 55 [.v (.int .u32 y)] 1 = talkCells { x with c1 := { x.c1 with recv := { x.c1.recv with next := y } } } := rfl
@[simp] theorem talk_get_c1_recv_data (x : Talk) : (talkCells x)[56]? = some (.sl 1 (encB x.c1.recv.data) none) := rfl
@[simp] theorem talk_put_c1_recv_data (x : Talk) (y : List Int) : splice (talkCells x) 56 [.sl 1 (encB y) none] 1 = talkCells { x with c1 := { x.c1 with recv := { x.c1.recv with data := y } } } := rfl
@[simp] theorem talk_get_c1_recv_ahead (x : Talk) : (talkCells x)[57]? = some (.sl 2 (encS pieceCells x.c1.recv.ahead) none) := rfl
@[simp] theorem talk_put_c1_recv_ahead (x : Talk) (y : List Piece) : splice (talkCells x) 57 [.sl 2 (encS pieceCells y) none] 1 = talkCells { x with c1 := { x.c1 with recv := { x.c1.recv with ahead := y } } } := rfl
@[simp] theorem talk_get_c1_recv_known (x : Talk) : (talkCells x)[58]? = some (.v (.bool x.c1.recv.known)) := rfl
@[simp] theorem talk_put_c1_recv_known (x : Talk) (y : Bool) : splice (talkCells x) 58 [.v (.bool y)] 1 = talkCells { x with c1 := { x.c1 with recv := { x.c1.recv with known := y } } } := rfl
@[simp] theorem talk_get_c1_recv_fin (x : Talk) : (talkCells x)[59]? = some (.v (.int .u32 x.c1.recv.fin)) := rfl
@[simp] theorem talk_put_c1_recv_fin (x : Talk) (y : Int) : splice (talkCells x) 59 [.v (.int .u32 y)] 1 = talkCells { x with c1 := { x.c1 with recv := { x.c1.recv with fin := y } } } := rfl
@[simp] theorem talk_get_c1_recv_done (x : Talk) : (talkCells x)[60]? = some (.v (.bool x.c1.recv.done)) := rfl
@[simp] theorem talk_put_c1_recv_done (x : Talk) (y : Bool) : splice (talkCells x) 60 [.v (.bool y)] 1 = talkCells { x with c1 := { x.c1 with recv := { x.c1.recv with done := y } } } := rfl
@[simp] theorem talk_get_c1_window (x : Talk) : (talkCells x)[61]? = some (.v (.int .i64 x.c1.window)) := rfl
@[simp] theorem talk_put_c1_window (x : Talk) (y : Int) : splice (talkCells x) 61 [.v (.int .i64 y)] 1 = talkCells { x with c1 := { x.c1 with window := y } } := rfl
@[simp] theorem talk_get_c1_mss (x : Talk) : (talkCells x)[62]? = some (.v (.int .i64 x.c1.mss)) := rfl
@[simp] theorem talk_put_c1_mss (x : Talk) (y : Int) : splice (talkCells x) 62 [.v (.int .i64 y)] 1 = talkCells { x with c1 := { x.c1 with mss := y } } := rfl
@[simp] theorem talk_cut_c1_clock (x : Talk) : cut (talkCells x) 63 3 = clockCells x.c1.clock := rfl
@[simp] theorem talk_put_c1_clock (x : Talk) (y : Clock) : splice (talkCells x) 63 (clockCells y) 3 = talkCells { x with c1 := { x.c1 with clock := y } } := rfl
@[simp] theorem talk_get_c1_clock_smooth (x : Talk) : (talkCells x)[63]? = some (.v (.int .i64 x.c1.clock.smooth)) := rfl
@[simp] theorem talk_put_c1_clock_smooth (x : Talk) (y : Int) : splice (talkCells x) 63 [.v (.int .i64 y)] 1 = talkCells { x with c1 := { x.c1 with clock := { x.c1.clock with smooth := y } } } := rfl
@[simp] theorem talk_get_c1_clock_spread (x : Talk) : (talkCells x)[64]? = some (.v (.int .i64 x.c1.clock.spread)) := rfl
@[simp] theorem talk_put_c1_clock_spread (x : Talk) (y : Int) : splice (talkCells x) 64 [.v (.int .i64 y)] 1 = talkCells { x with c1 := { x.c1 with clock := { x.c1.clock with spread := y } } } := rfl
@[simp] theorem talk_get_c1_clock_wait (x : Talk) : (talkCells x)[65]? = some (.v (.int .i64 x.c1.clock.wait)) := rfl
@[simp] theorem talk_put_c1_clock_wait (x : Talk) (y : Int) : splice (talkCells x) 65 [.v (.int .i64 y)] 1 = talkCells { x with c1 := { x.c1 with clock := { x.c1.clock with wait := y } } } := rfl
@[simp] theorem talk_get_c1_due (x : Talk) : (talkCells x)[66]? = some (.v (.int .u64 x.c1.due)) := rfl
@[simp] theorem talk_put_c1_due (x : Talk) (y : Int) : splice (talkCells x) 66 [.v (.int .u64 y)] 1 = talkCells { x with c1 := { x.c1 with due := y } } := rfl
@[simp] theorem talk_get_c1_tries (x : Talk) : (talkCells x)[67]? = some (.v (.int .i64 x.c1.tries)) := rfl
@[simp] theorem talk_put_c1_tries (x : Talk) (y : Int) : splice (talkCells x) 67 [.v (.int .i64 y)] 1 = talkCells { x with c1 := { x.c1 with tries := y } } := rfl
@[simp] theorem talk_get_c1_timing (x : Talk) : (talkCells x)[68]? = some (.v (.bool x.c1.timing)) := rfl
@[simp] theorem talk_put_c1_timing (x : Talk) (y : Bool) : splice (talkCells x) 68 [.v (.bool y)] 1 = talkCells { x with c1 := { x.c1 with timing := y } } := rfl
@[simp] theorem talk_get_c1_timedSeq (x : Talk) : (talkCells x)[69]? = some (.v (.int .u32 x.c1.timedSeq)) := rfl
@[simp] theorem talk_put_c1_timedSeq (x : Talk) (y : Int) : splice (talkCells x) 69 [.v (.int .u32 y)] 1 = talkCells { x with c1 := { x.c1 with timedSeq := y } } := rfl
@[simp] theorem talk_get_c1_timedAt (x : Talk) : (talkCells x)[70]? = some (.v (.int .u64 x.c1.timedAt)) := rfl
@[simp] theorem talk_put_c1_timedAt (x : Talk) (y : Int) : splice (talkCells x) 70 [.v (.int .u64 y)] 1 = talkCells { x with c1 := { x.c1 with timedAt := y } } := rfl
@[simp] theorem talk_get_c1_till (x : Talk) : (talkCells x)[71]? = some (.v (.int .u64 x.c1.till)) := rfl
@[simp] theorem talk_put_c1_till (x : Talk) (y : Int) : splice (talkCells x) 71 [.v (.int .u64 y)] 1 = talkCells { x with c1 := { x.c1 with till := y } } := rfl
@[simp] theorem talk_get_c1_ended (x : Talk) : (talkCells x)[72]? = some (.v (.bool x.c1.ended)) := rfl
@[simp] theorem talk_put_c1_ended (x : Talk) (y : Bool) : splice (talkCells x) 72 [.v (.bool y)] 1 = talkCells { x with c1 := { x.c1 with ended := y } } := rfl
@[simp] theorem talk_get_c1_err (x : Talk) : (talkCells x)[73]? = some (.v (.int .i64 x.c1.err)) := rfl
@[simp] theorem talk_put_c1_err (x : Talk) (y : Int) : splice (talkCells x) 73 [.v (.int .i64 y)] 1 = talkCells { x with c1 := { x.c1 with err := y } } := rfl
@[simp] theorem talk_get_is0 (x : Talk) : (talkCells x)[74]? = some (.v (.bool x.is0)) := rfl
@[simp] theorem talk_put_is0 (x : Talk) (y : Bool) : splice (talkCells x) 74 [.v (.bool y)] 1 = talkCells { x with is0 := y } := rfl
@[simp] theorem talk_get_is1 (x : Talk) : (talkCells x)[75]? = some (.v (.bool x.is1)) := rfl
@[simp] theorem talk_put_is1 (x : Talk) (y : Bool) : splice (talkCells x) 75 [.v (.bool y)] 1 = talkCells { x with is1 := y } := rfl
@[simp] theorem talk_get_first0 (x : Talk) : (talkCells x)[76]? = some (.v (.int .u32 x.first0)) := rfl
@[simp] theorem talk_put_first0 (x : Talk) (y : Int) : splice (talkCells x) 76 [.v (.int .u32 y)] 1 = talkCells { x with first0 := y } := rfl
@[simp] theorem talk_get_first1 (x : Talk) : (talkCells x)[77]? = some (.v (.int .u32 x.first1)) := rfl
@[simp] theorem talk_put_first1 (x : Talk) (y : Int) : splice (talkCells x) 77 [.v (.int .u32 y)] 1 = talkCells { x with first1 := y } := rfl
@[simp] theorem talk_get_way0 (x : Talk) : (talkCells x)[78]? = some (.sl 8 (encS segCells x.way0) none) := rfl
@[simp] theorem talk_put_way0 (x : Talk) (y : List Seg) : splice (talkCells x) 78 [.sl 8 (encS segCells y) none] 1 = talkCells { x with way0 := y } := rfl
@[simp] theorem talk_get_way1 (x : Talk) : (talkCells x)[79]? = some (.sl 8 (encS segCells x.way1) none) := rfl
@[simp] theorem talk_put_way1 (x : Talk) (y : List Seg) : splice (talkCells x) 79 [.sl 8 (encS segCells y) none] 1 = talkCells { x with way1 := y } := rfl
@[simp] theorem talk_get_written0 (x : Talk) : (talkCells x)[80]? = some (.v (.string x.written0)) := rfl
@[simp] theorem talk_put_written0 (x : Talk) (y : ByteArray) : splice (talkCells x) 80 [.v (.string y)] 1 = talkCells { x with written0 := y } := rfl
@[simp] theorem talk_get_written1 (x : Talk) : (talkCells x)[81]? = some (.v (.string x.written1)) := rfl
@[simp] theorem talk_put_written1 (x : Talk) (y : ByteArray) : splice (talkCells x) 81 [.v (.string y)] 1 = talkCells { x with written1 := y } := rfl
@[simp] theorem talk_get_read0 (x : Talk) : (talkCells x)[82]? = some (.v (.string x.read0)) := rfl
@[simp] theorem talk_put_read0 (x : Talk) (y : ByteArray) : splice (talkCells x) 82 [.v (.string y)] 1 = talkCells { x with read0 := y } := rfl
@[simp] theorem talk_get_read1 (x : Talk) : (talkCells x)[83]? = some (.v (.string x.read1)) := rfl
@[simp] theorem talk_put_read1 (x : Talk) (y : ByteArray) : splice (talkCells x) 83 [.v (.string y)] 1 = talkCells { x with read1 := y } := rfl
@[simp] theorem talk_get_closed0 (x : Talk) : (talkCells x)[84]? = some (.v (.bool x.closed0)) := rfl
@[simp] theorem talk_put_closed0 (x : Talk) (y : Bool) : splice (talkCells x) 84 [.v (.bool y)] 1 = talkCells { x with closed0 := y } := rfl
@[simp] theorem talk_get_closed1 (x : Talk) : (talkCells x)[85]? = some (.v (.bool x.closed1)) := rfl
@[simp] theorem talk_put_closed1 (x : Talk) (y : Bool) : splice (talkCells x) 85 [.v (.bool y)] 1 = talkCells { x with closed1 := y } := rfl
@[simp] theorem talk_get_told0 (x : Talk) : (talkCells x)[86]? = some (.v (.bool x.told0)) := rfl
@[simp] theorem talk_put_told0 (x : Talk) (y : Bool) : splice (talkCells x) 86 [.v (.bool y)] 1 = talkCells { x with told0 := y } := rfl
@[simp] theorem talk_get_told1 (x : Talk) : (talkCells x)[87]? = some (.v (.bool x.told1)) := rfl
@[simp] theorem talk_put_told1 (x : Talk) (y : Bool) : splice (talkCells x) 87 [.v (.bool y)] 1 = talkCells { x with told1 := y } := rfl
@[simp] theorem talk_get_now (x : Talk) : (talkCells x)[88]? = some (.v (.int .u64 x.now)) := rfl
@[simp] theorem talk_put_now (x : Talk) (y : Int) : splice (talkCells x) 88 [.v (.int .u64 y)] 1 = talkCells { x with now := y } := rfl
@[simp] theorem talk_get_wrong (x : Talk) : (talkCells x)[89]? = some (.v (.bool x.wrong)) := rfl
@[simp] theorem talk_put_wrong (x : Talk) (y : Bool) : splice (talkCells x) 89 [.v (.bool y)] 1 = talkCells { x with wrong := y } := rfl
@[simp] theorem talk_whole (x : Talk) (ys : List AV) : splice (talkCells x) 0 ys 90 = ys := by simp [splice, talkCells]
@[simp] theorem talk_cutall (x : Talk) : cut (talkCells x) 0 90 = talkCells x := rfl
@[simp] theorem talkCells_leafH (x : Talk) : (talkCells x).all leafH = true := rfl
@[simp] theorem talkCells_leafP (x : Talk) : (talkCells x).all leafP = true := rfl
@[simp] theorem talkCells_leafOk (x : Talk) : (talkCells x).all leafOk = true := rfl
@[simp] theorem talkCells_kL (s : St) (M : List Nm) (x : Talk) : (talkCells x).map (kL s M) = talkCells x := rfl
@[simp] theorem talkCells_strip (x : Talk) : (talkCells x).map strip = talkCells x := rfl
@[simp] theorem talkCells_stripL (x : Talk) : (talkCells x).map stripL = talkCells x := rfl
@[simp] theorem talkCells_name (g : Nm → Nat) (d i k : Nat) (x : Talk) : nameC g d i k (talkCells x) = talkCells x := rfl
@[simp] theorem talkCells_flag (s : St) (x : Talk) : (talkCells x).map (flagL s) = talkCells x := rfl
@[simp] theorem talkCells_tags (s : St) (x : Talk) : tagsOf s (talkCells x) = [] := by simp [talkCells, tagsOf]
@[simp] theorem talkCells_co (φ ψ : Nm → Option Nm) (s s2 : St) (x : Talk) : All2P (CoL φ ψ s s2) (talkCells x) (talkCells x) := by simp [talkCells]

@[ext] structure Stp where
  kind : Int
  side : Int
  idx : Int
  num : Int
  data : List Int
deriving Inhabited
def stpCells (x : Stp) : List AV := [.v (.int .i64 x.kind), .v (.int .i64 x.side), .v (.int .i64 x.idx), .v (.int .i64 x.num), .sl 1 (encB x.data) none]
noncomputable def pStp : List AV → Option (Stp × List AV) := fun cs => (pI .i64 cs).bind fun (a0, cs) => (pI .i64 cs).bind fun (a1, cs) => (pI .i64 cs).bind fun (a2, cs) => (pI .i64 cs).bind fun (a3, cs) => (pB cs).bind fun (a4, cs) => some (⟨a0, a1, a2, a3, a4⟩, cs)
theorem pStp_snd : Snd CoP pStp (fun x => stpCells x) := by
  intro cs x r h0
  unfold pStp at h0
  obtain ⟨a0, r0, q0, h1, e0, c0⟩ := Snd.step (pI_snd .i64) h0
  obtain ⟨a1, r1, q1, h2, e1, c1⟩ := Snd.step (pI_snd .i64) h1
  obtain ⟨a2, r2, q2, h3, e2, c2⟩ := Snd.step (pI_snd .i64) h2
  obtain ⟨a3, r3, q3, h4, e3, c3⟩ := Snd.step (pI_snd .i64) h3
  obtain ⟨a4, r4, q4, h5, e4, c4⟩ := Snd.step pB_snd h4
  cases h5
  subst e4 e3 e2 e1 e0
  exact ⟨(q0 ++ (q1 ++ (q2 ++ (q3 ++ q4)))), by simp only [List.append_assoc], (c0.app (c1.app (c2.app (c3.app c4))))⟩
@[simp] theorem pStp_app (x : Stp) (r : List AV) : pStp (stpCells x ++ r) = some (x, r) := by simp [pStp, stpCells]
@[simp] theorem pStp_all (x : Stp) : pStp (stpCells x) = some (x, []) := by have := pStp_app x []; rwa [List.append_nil] at this
@[simp] theorem stpCells_len (x : Stp) : (stpCells x).length = 5 := rfl
@[simp high] theorem mkAgg_stp (x : Stp) : mkAgg (stpCells x) = .agg (stpCells x) := rfl
@[simp] theorem whole_stp (x : Stp) : whole pStp (.agg (stpCells x)) = some x := by simp
@[simp] theorem stp_get_kind (x : Stp) : (stpCells x)[0]? = some (.v (.int .i64 x.kind)) := rfl
@[simp] theorem stp_put_kind (x : Stp) (y : Int) : splice (stpCells x) 0 [.v (.int .i64 y)] 1 = stpCells { x with kind := y } := rfl
@[simp] theorem stp_get_side (x : Stp) : (stpCells x)[1]? = some (.v (.int .i64 x.side)) := rfl
@[simp] theorem stp_put_side (x : Stp) (y : Int) : splice (stpCells x) 1 [.v (.int .i64 y)] 1 = stpCells { x with side := y } := rfl
@[simp] theorem stp_get_idx (x : Stp) : (stpCells x)[2]? = some (.v (.int .i64 x.idx)) := rfl
@[simp] theorem stp_put_idx (x : Stp) (y : Int) : splice (stpCells x) 2 [.v (.int .i64 y)] 1 = stpCells { x with idx := y } := rfl
@[simp] theorem stp_get_num (x : Stp) : (stpCells x)[3]? = some (.v (.int .i64 x.num)) := rfl
@[simp] theorem stp_put_num (x : Stp) (y : Int) : splice (stpCells x) 3 [.v (.int .i64 y)] 1 = stpCells { x with num := y } := rfl
@[simp] theorem stp_get_data (x : Stp) : (stpCells x)[4]? = some (.sl 1 (encB x.data) none) := rfl
@[simp] theorem stp_put_data (x : Stp) (y : List Int) : splice (stpCells x) 4 [.sl 1 (encB y) none] 1 = stpCells { x with data := y } := rfl
@[simp] theorem stp_whole (x : Stp) (ys : List AV) : splice (stpCells x) 0 ys 5 = ys := by simp [splice, stpCells]
@[simp] theorem stp_cutall (x : Stp) : cut (stpCells x) 0 5 = stpCells x := rfl
@[simp] theorem stpCells_leafH (x : Stp) : (stpCells x).all leafH = true := rfl
@[simp] theorem stpCells_leafP (x : Stp) : (stpCells x).all leafP = true := rfl
@[simp] theorem stpCells_leafOk (x : Stp) : (stpCells x).all leafOk = true := rfl
@[simp] theorem stpCells_kL (s : St) (M : List Nm) (x : Stp) : (stpCells x).map (kL s M) = stpCells x := rfl
@[simp] theorem stpCells_strip (x : Stp) : (stpCells x).map strip = stpCells x := rfl
@[simp] theorem stpCells_stripL (x : Stp) : (stpCells x).map stripL = stpCells x := rfl
@[simp] theorem stpCells_name (g : Nm → Nat) (d i k : Nat) (x : Stp) : nameC g d i k (stpCells x) = stpCells x := rfl
@[simp] theorem stpCells_flag (s : St) (x : Stp) : (stpCells x).map (flagL s) = stpCells x := rfl
@[simp] theorem stpCells_tags (s : St) (x : Stp) : tagsOf s (stpCells x) = [] := by simp [stpCells, tagsOf]
@[simp] theorem stpCells_co (φ ψ : Nm → Option Nm) (s s2 : St) (x : Stp) : All2P (CoL φ ψ s s2) (stpCells x) (stpCells x) := by simp [stpCells]

@[ext] structure Far where
  seq : Int
  ack : Int
  flags : Int
  wnd : Int
  mss : Int
  data : List Int
deriving Inhabited
def farCells (x : Far) : List AV := [.v (.int .i64 x.seq), .v (.int .i64 x.ack), .v (.int .u8 x.flags), .v (.int .u16 x.wnd), .v (.int .u16 x.mss), .sl 1 (encB x.data) none]
noncomputable def pFar : List AV → Option (Far × List AV) := fun cs => (pI .i64 cs).bind fun (a0, cs) => (pI .i64 cs).bind fun (a1, cs) => (pI .u8 cs).bind fun (a2, cs) => (pI .u16 cs).bind fun (a3, cs) => (pI .u16 cs).bind fun (a4, cs) => (pB cs).bind fun (a5, cs) => some (⟨a0, a1, a2, a3, a4, a5⟩, cs)
theorem pFar_snd : Snd CoP pFar (fun x => farCells x) := by
  intro cs x r h0
  unfold pFar at h0
  obtain ⟨a0, r0, q0, h1, e0, c0⟩ := Snd.step (pI_snd .i64) h0
  obtain ⟨a1, r1, q1, h2, e1, c1⟩ := Snd.step (pI_snd .i64) h1
  obtain ⟨a2, r2, q2, h3, e2, c2⟩ := Snd.step (pI_snd .u8) h2
  obtain ⟨a3, r3, q3, h4, e3, c3⟩ := Snd.step (pI_snd .u16) h3
  obtain ⟨a4, r4, q4, h5, e4, c4⟩ := Snd.step (pI_snd .u16) h4
  obtain ⟨a5, r5, q5, h6, e5, c5⟩ := Snd.step pB_snd h5
  cases h6
  subst e5 e4 e3 e2 e1 e0
  exact ⟨(q0 ++ (q1 ++ (q2 ++ (q3 ++ (q4 ++ q5))))), by simp only [List.append_assoc], (c0.app (c1.app (c2.app (c3.app (c4.app c5)))))⟩
@[simp] theorem pFar_app (x : Far) (r : List AV) : pFar (farCells x ++ r) = some (x, r) := by simp [pFar, farCells]
@[simp] theorem pFar_all (x : Far) : pFar (farCells x) = some (x, []) := by have := pFar_app x []; rwa [List.append_nil] at this
@[simp] theorem farCells_len (x : Far) : (farCells x).length = 6 := rfl
@[simp high] theorem mkAgg_far (x : Far) : mkAgg (farCells x) = .agg (farCells x) := rfl
@[simp] theorem whole_far (x : Far) : whole pFar (.agg (farCells x)) = some x := by simp
@[simp] theorem far_get_seq (x : Far) : (farCells x)[0]? = some (.v (.int .i64 x.seq)) := rfl
@[simp] theorem far_put_seq (x : Far) (y : Int) : splice (farCells x) 0 [.v (.int .i64 y)] 1 = farCells { x with seq := y } := rfl
@[simp] theorem far_get_ack (x : Far) : (farCells x)[1]? = some (.v (.int .i64 x.ack)) := rfl
@[simp] theorem far_put_ack (x : Far) (y : Int) : splice (farCells x) 1 [.v (.int .i64 y)] 1 = farCells { x with ack := y } := rfl
@[simp] theorem far_get_flags (x : Far) : (farCells x)[2]? = some (.v (.int .u8 x.flags)) := rfl
@[simp] theorem far_put_flags (x : Far) (y : Int) : splice (farCells x) 2 [.v (.int .u8 y)] 1 = farCells { x with flags := y } := rfl
@[simp] theorem far_get_wnd (x : Far) : (farCells x)[3]? = some (.v (.int .u16 x.wnd)) := rfl
@[simp] theorem far_put_wnd (x : Far) (y : Int) : splice (farCells x) 3 [.v (.int .u16 y)] 1 = farCells { x with wnd := y } := rfl
@[simp] theorem far_get_mss (x : Far) : (farCells x)[4]? = some (.v (.int .u16 x.mss)) := rfl
@[simp] theorem far_put_mss (x : Far) (y : Int) : splice (farCells x) 4 [.v (.int .u16 y)] 1 = farCells { x with mss := y } := rfl
@[simp] theorem far_get_data (x : Far) : (farCells x)[5]? = some (.sl 1 (encB x.data) none) := rfl
@[simp] theorem far_put_data (x : Far) (y : List Int) : splice (farCells x) 5 [.sl 1 (encB y) none] 1 = farCells { x with data := y } := rfl
@[simp] theorem far_whole (x : Far) (ys : List AV) : splice (farCells x) 0 ys 6 = ys := by simp [splice, farCells]
@[simp] theorem far_cutall (x : Far) : cut (farCells x) 0 6 = farCells x := rfl
@[simp] theorem farCells_leafH (x : Far) : (farCells x).all leafH = true := rfl
@[simp] theorem farCells_leafP (x : Far) : (farCells x).all leafP = true := rfl
@[simp] theorem farCells_leafOk (x : Far) : (farCells x).all leafOk = true := rfl
@[simp] theorem farCells_kL (s : St) (M : List Nm) (x : Far) : (farCells x).map (kL s M) = farCells x := rfl
@[simp] theorem farCells_strip (x : Far) : (farCells x).map strip = farCells x := rfl
@[simp] theorem farCells_stripL (x : Far) : (farCells x).map stripL = farCells x := rfl
@[simp] theorem farCells_name (g : Nm → Nat) (d i k : Nat) (x : Far) : nameC g d i k (farCells x) = farCells x := rfl
@[simp] theorem farCells_flag (s : St) (x : Far) : (farCells x).map (flagL s) = farCells x := rfl
@[simp] theorem farCells_tags (s : St) (x : Far) : tagsOf s (farCells x) = [] := by simp [farCells, tagsOf]
@[simp] theorem farCells_co (φ ψ : Nm → Option Nm) (s s2 : St) (x : Far) : All2P (CoL φ ψ s s2) (farCells x) (farCells x) := by simp [farCells]

@[simp] theorem talkCells_kLr (s : St) (l : List (Nm × Nm)) (M : List Nm) (x : Talk) : (talkCells x).map (kLr s l M) = talkCells x := rfl
@[simp] theorem talkCells_tagsAt (s : St) (n : Nm) (k : Nat) (x : Talk) : tagsAt s n k (talkCells x) = [] := by simp [talkCells, tagsAt]
@[simp] theorem mergeC_talk (b : Bool) (x y : Talk) : mergeC b (talkCells x) (talkCells y) = talkCells (if b = true then x else y) := by cases b <;> rfl
@[simp] theorem ite_talkCells (c : Prop) [Decidable c] (x y : Talk) : (if c then talkCells x else talkCells y) = talkCells (if c then x else y) := by split <;> rfl
theorem talkCells_coE {φ ψ : Nm → Option Nm} {s s2 : St} {x y : Talk} (e : x = y) : All2P (CoL φ ψ s s2) (talkCells x) (talkCells y) := by subst e; exact talkCells_co ..
@[simp] theorem stpCells_kLr (s : St) (l : List (Nm × Nm)) (M : List Nm) (x : Stp) : (stpCells x).map (kLr s l M) = stpCells x := rfl
@[simp] theorem stpCells_tagsAt (s : St) (n : Nm) (k : Nat) (x : Stp) : tagsAt s n k (stpCells x) = [] := by simp [stpCells, tagsAt]
@[simp] theorem mergeC_stp (b : Bool) (x y : Stp) : mergeC b (stpCells x) (stpCells y) = stpCells (if b = true then x else y) := by cases b <;> rfl
@[simp] theorem ite_stpCells (c : Prop) [Decidable c] (x y : Stp) : (if c then stpCells x else stpCells y) = stpCells (if c then x else y) := by split <;> rfl
theorem stpCells_coE {φ ψ : Nm → Option Nm} {s s2 : St} {x y : Stp} (e : x = y) : All2P (CoL φ ψ s s2) (stpCells x) (stpCells y) := by subst e; exact stpCells_co ..
@[simp] theorem farCells_kLr (s : St) (l : List (Nm × Nm)) (M : List Nm) (x : Far) : (farCells x).map (kLr s l M) = farCells x := rfl
@[simp] theorem farCells_tagsAt (s : St) (n : Nm) (k : Nat) (x : Far) : tagsAt s n k (farCells x) = [] := by simp [farCells, tagsAt]
@[simp] theorem mergeC_far (b : Bool) (x y : Far) : mergeC b (farCells x) (farCells y) = farCells (if b = true then x else y) := by cases b <;> rfl
@[simp] theorem ite_farCells (c : Prop) [Decidable c] (x y : Far) : (if c then farCells x else farCells y) = farCells (if c then x else y) := by split <;> rfl
theorem farCells_coE {φ ψ : Nm → Option Nm} {s s2 : St} {x y : Far} (e : x = y) : All2P (CoL φ ψ s s2) (farCells x) (farCells y) := by subst e; exact farCells_co ..
end Caw

/-! Printed by gencells2.py: the structures of the laws of layer tcb. -/
namespace Caw
open Go Go.RowKit
set_option linter.unusedSimpArgs false
set_option maxRecDepth 100000

@[ext] structure Two where
  a : Int
  b : Int
deriving Inhabited
def twoCells (x : Two) : List AV := [.v (.int .u32 x.a), .v (.int .u32 x.b)]
noncomputable def pTwo : List AV → Option (Two × List AV) := fun cs => (pI .u32 cs).bind fun (a0, cs) => (pI .u32 cs).bind fun (a1, cs) => some (⟨a0, a1⟩, cs)
theorem pTwo_snd : Snd CoP pTwo (fun x => twoCells x) := by
  intro cs x r h0
  unfold pTwo at h0
  obtain ⟨a0, r0, q0, h1, e0, c0⟩ := Snd.step (pI_snd .u32) h0
  obtain ⟨a1, r1, q1, h2, e1, c1⟩ := Snd.step (pI_snd .u32) h1
  cases h2
  subst e1 e0
  exact ⟨(q0 ++ q1), by simp only [List.append_assoc], (c0.app c1)⟩
@[simp] theorem pTwo_app (x : Two) (r : List AV) : pTwo (twoCells x ++ r) = some (x, r) := by simp [pTwo, twoCells]
@[simp] theorem pTwo_all (x : Two) : pTwo (twoCells x) = some (x, []) := by have := pTwo_app x []; rwa [List.append_nil] at this
@[simp] theorem twoCells_len (x : Two) : (twoCells x).length = 2 := rfl
def encTwo (x : Two) : AV := .v (.agg #[.int .u32 x.a, .int .u32 x.b])
@[simp high] theorem mkAgg_two (x : Two) : mkAgg (twoCells x) = encTwo x := rfl
@[simp] theorem flat_encTwo (x : Two) : flat (encTwo x) = twoCells x := by simp [encTwo, flat, twoCells]
@[simp] theorem whole_encTwo (x : Two) : whole pTwo (encTwo x) = some x := by simp [encTwo, pTwo]
@[simp high] theorem encTwo_kT (x : Two) (s : St) (M : List Nm) : kT s M (encTwo x) = encTwo x := rfl
@[simp high] theorem encTwo_kA (x : Two) (s : St) (M : List Nm) : kA s M (encTwo x) = encTwo x := rfl
@[simp high] theorem encTwo_kL (x : Two) (s : St) (M : List Nm) : kL s M (encTwo x) = encTwo x := rfl
@[simp high] theorem encTwo_leafP (x : Two)  : leafP (encTwo x) = true := rfl
@[simp high] theorem encTwo_isPure (x : Two)  : isPure (encTwo x) = true := rfl
@[simp high] theorem encTwo_leafH (x : Two)  : leafH (encTwo x) = true := rfl
@[simp high] theorem encTwo_isHand (x : Two)  : isHand (encTwo x) = true := rfl
@[simp high] theorem encTwo_live (x : Two)  : live (encTwo x) = true := rfl
@[simp high] theorem encTwo_isRes (x : Two)  : isRes (encTwo x) = true := rfl
@[simp high] theorem encTwo_isRef (x : Two)  : isRef (encTwo x) = false := rfl
@[simp high] theorem encTwo_strip (x : Two)  : strip (encTwo x) = encTwo x := rfl
@[simp high] theorem encTwo_stripL (x : Two)  : stripL (encTwo x) = encTwo x := rfl
@[simp high] theorem encTwo_stripA (x : Two)  : stripA (encTwo x) = encTwo x := rfl
@[simp high] theorem encTwo_flagL (x : Two) (s : St) : flagL s (encTwo x) = encTwo x := rfl
@[simp high] theorem encTwo_nameL (x : Two) (g : Nm → Nat) (m : Nm) : nameL g m (encTwo x) = encTwo x := rfl
@[simp high] theorem encTwo_nameX (x : Two) (g : Nm → Nat) (d k : Nat) : nameX g d k (encTwo x) = encTwo x := rfl
@[simp high] theorem encTwo_nameR (x : Two) (g : Nm → Nat) (d : Nat) : nameR g d (encTwo x) = encTwo x := rfl
@[simp high] theorem encTwo_toV (x : Two)  : toV (encTwo x) = some (.agg #[.int .u32 x.a, .int .u32 x.b]) := rfl
@[simp high] theorem encTwo_coA (x : Two) (φ ψ : Nm → Option Nm) (s s2 : St) (ys : List AV) : CoA φ ψ s s2 (encTwo x) (.agg ys) = All2P (CoL φ ψ s s2) (twoCells x) ys := rfl
@[simp high] theorem encTwo_co (x : Two) (φ ψ : Nm → Option Nm) (s s2 : St) (ys : List AV) : Co φ ψ s s2 (encTwo x) (.agg ys) = All2P (CoL φ ψ s s2) (twoCells x) ys := rfl
@[simp] theorem encTwo_ne_ptr (x : Two) (n : Nm) (k : Nat) : (encTwo x = .ptr n k) = False := eq_false (fun h => by cases h)
@[simp] theorem encTwo_ne_tup (x : Two) (c : List AV) : (encTwo x = .tup c) = False := eq_false (fun h => by cases h)
@[simp] theorem encTwo_ne_agg (x : Two) (c : List AV) : (encTwo x = .agg c) = False := eq_false (fun h => by cases h)
@[simp] theorem encTwo_ne_ref (x : Two) (c : List AV) : (encTwo x = .ref c) = False := eq_false (fun h => by cases h)
@[simp] theorem encTwo_ne_rptr (x : Two) (y : AV) (k : Nat) : (encTwo x = .rptr y k) = False := eq_false (fun h => by cases h)
@[simp] theorem ite_encTwo (c : Prop) [Decidable c] (x y : Two) : (if c then encTwo x else encTwo y) = encTwo (if c then x else y) := by split <;> rfl
@[simp] theorem two_get_a (x : Two) : (twoCells x)[0]? = some (.v (.int .u32 x.a)) := rfl
@[simp] theorem two_put_a (x : Two) (y : Int) : splice (twoCells x) 0 [.v (.int .u32 y)] 1 = twoCells { x with a := y } := rfl
@[simp] theorem two_get_b (x : Two) : (twoCells x)[1]? = some (.v (.int .u32 x.b)) := rfl
@[simp] theorem two_put_b (x : Two) (y : Int) : splice (twoCells x) 1 [.v (.int .u32 y)] 1 = twoCells { x with b := y } := rfl
@[simp] theorem two_whole (x : Two) (ys : List AV) : splice (twoCells x) 0 ys 2 = ys := by simp [splice, twoCells]
@[simp] theorem two_cutall (x : Two) : cut (twoCells x) 0 2 = twoCells x := rfl
@[simp] theorem twoCells_leafH (x : Two) : (twoCells x).all leafH = true := rfl
@[simp] theorem twoCells_leafP (x : Two) : (twoCells x).all leafP = true := rfl
@[simp] theorem twoCells_leafOk (x : Two) : (twoCells x).all leafOk = true := rfl
@[simp] theorem twoCells_kL (s : St) (M : List Nm) (x : Two) : (twoCells x).map (kL s M) = twoCells x := rfl
@[simp] theorem twoCells_strip (x : Two) : (twoCells x).map strip = twoCells x := rfl
@[simp] theorem twoCells_stripL (x : Two) : (twoCells x).map stripL = twoCells x := rfl
@[simp] theorem twoCells_name (g : Nm → Nat) (d i k : Nat) (x : Two) : nameC g d i k (twoCells x) = twoCells x := rfl
@[simp] theorem twoCells_flag (s : St) (x : Two) : (twoCells x).map (flagL s) = twoCells x := rfl
@[simp] theorem twoCells_tags (s : St) (x : Two) : tagsOf s (twoCells x) = [] := by simp [twoCells, tagsOf]
@[simp] theorem twoCells_co (φ ψ : Nm → Option Nm) (s s2 : St) (x : Two) : All2P (CoL φ ψ s s2) (twoCells x) (twoCells x) := by simp [twoCells]

@[simp] theorem twoCells_kLr (s : St) (l : List (Nm × Nm)) (M : List Nm) (x : Two) : (twoCells x).map (kLr s l M) = twoCells x := rfl
@[simp] theorem twoCells_tagsAt (s : St) (n : Nm) (k : Nat) (x : Two) : tagsAt s n k (twoCells x) = [] := by simp [twoCells, tagsAt]
@[simp] theorem mergeC_two (b : Bool) (x y : Two) : mergeC b (twoCells x) (twoCells y) = twoCells (if b = true then x else y) := by cases b <;> rfl
@[simp] theorem ite_twoCells (c : Prop) [Decidable c] (x y : Two) : (if c then twoCells x else twoCells y) = twoCells (if c then x else y) := by split <;> rfl
theorem twoCells_coE {φ ψ : Nm → Option Nm} {s s2 : St} {x y : Two} (e : x = y) : All2P (CoL φ ψ s s2) (twoCells x) (twoCells y) := by subst e; exact twoCells_co ..
end Caw

/-! What comes in, as its reading tells it. -/
set_option linter.unusedVariables false
namespace Caw
open Go Go.RowKit
/-- All that there is, is protected. -/
def pr0 (W : World) : Pr := fun b _ => b < W.heap.size
section
variable {H : Type} {enc : TypeId × Value → H} {P : Program} {W : World} {base : Nat} {spare : Nat → Bool} {held : Bool}
theorem cell_lt {a : Go.Addr} {v : Value} (h : W.cell? a = some v) : a.block < W.heap.size := by
  unfold World.cell? at h
  by_cases hh : a.block < W.heap.size
  · exact hh
  · simp [hh] at h
/-- A slice of rows, each of which can be read. -/
theorem rd_rowsQ {α : Type} [Inhabited α] {t e : TypeId} {sz : Nat} (E : α → AV) (R : α → Prop) (ht : P.underlying t = some (.slice e)) (hce : P.cellsOf e = sz) (hpos : 0 < sz)
    (hE : ∀ x, (flat (E x)).length = sz)
    (hrd : ∀ n cs y, DataW.trod enc P W base spare held n e cs = some y → ∃ x : α, R x ∧ ∀ j (hj : j < (flat (E x)).length), PV W (pr0 W) (flat (E x))[j] (cs.getD j undef))
    {n : Nat} {c : Value} {y : DataW H × List MemPlace} (h : DataW.trod enc P W base spare held n t [c] = some y) :
    ∃ l : List α, l.length ≤ 9223372036854775807 ∧ (∀ x ∈ l, R x) ∧ PV W (pr0 W) (.sl sz (l.map E) none) c := by
  rcases DataW.trod_slice ht h with ⟨h0, _⟩ | ⟨a, len, cap, elems, rest, m, _, h0, _, hb, hle, hmax, hlen, hel, _, _⟩
  · simp only [List.cons.injEq, and_true] at h0
    subst h0
    exact ⟨[], by simp, by simp, .nil _ _⟩
  simp only [List.cons.injEq, and_true] at h0
  subst h0
  by_cases hz : len = 0
  · subst hz
    exact ⟨[], by simp, by simp, .nil _ _⟩
  have hone : ∀ i, i < len → ∃ cs x, W.cells? base (a.add (i * sz)) sz = some cs ∧ R x ∧ ∀ j (hj : j < (flat (E x)).length), PV W (pr0 W) (flat (E x))[j] (cs.getD j undef) := by
    intro i hi
    have h1 := hel i hi
    rw [hce, List.getElem?_eq_getElem (by omega), Option.bind_eq_some_iff] at h1
    obtain ⟨cs, hcs, h2⟩ := h1
    obtain ⟨x, hx1, hx⟩ := hrd _ _ _ h2
    exact ⟨cs, x, hcs, hx1, hx⟩
  have hall : ∀ i, ∃ p : List Value × α, i < len → W.cells? base (a.add (i * sz)) sz = some p.1 ∧ R p.2 ∧ ∀ j (hj : j < (flat (E p.2)).length), PV W (pr0 W) (flat (E p.2))[j] (p.1.getD j undef) := by
    intro i
    by_cases hi : i < len
    · obtain ⟨cs, x, h1, h2, h3⟩ := hone i hi
      exact ⟨(cs, x), fun _ => ⟨h1, h2, h3⟩⟩
    · exact ⟨([], default), fun h => absurd h hi⟩
  obtain ⟨f, hf⟩ := Classical.axiomOfChoice hall
  have hcell : ∀ i, i < len → ∀ j, j < sz → W.cell? (a.add (i * sz + j)) = some ((f i).1.getD j undef) := by
    intro i hi j hj
    obtain ⟨_, hl, hc⟩ := World.cells?_some (hf i hi).1
    have := hc j hj
    rw [Addr.add_add] at this
    rw [this]
    have hj2 : j < (f i).1.length := by omega
    simp [List.getD, hj2]
  obtain ⟨b, off, spot⟩ := a
  have hspot : spot = none := by
    have := World.cell?_spot (hcell 0 (by omega) 0 hpos)
    simpa [Addr.add] using this
  subst hspot
  have hlb : b < W.heap.size := by
    have := cell_lt (hcell 0 (by omega) 0 hpos)
    simpa [Addr.add] using this
  refine ⟨(List.range len).map fun i => (f i).2, ?_, fun x hx => ?_, ?_⟩
  · have : maxLen = 9223372036854775807 := by decide
    simp
    omega
  · obtain ⟨i, hi, rfl⟩ := List.mem_map.1 hx
    exact (hf i (List.mem_range.1 hi)).2.1
  have hll : (((List.range len).map fun i => (f i).2).map E).length = len := by simp
  have hget : ∀ i (hi : i < (((List.range len).map fun i => (f i).2).map E).length), (((List.range len).map fun i => (f i).2).map E)[i] = E (f i).2 := by
    intro i hi
    simp
  have hpv : PV W (pr0 W) (.sl sz (((List.range len).map fun i => (f i).2).map E) none) (.slice (some ⟨b, off, none⟩) (((List.range len).map fun i => (f i).2).map E).length cap) := by
    refine .sl (fun i j => (f i).1.getD j undef) (by rw [hll]; exact hle) (fun i hi => by rw [hget i hi]; exact hE _) (fun i hi j hj => hlb) (fun i hi j hj => ?_) (fun i hi j hj => ?_)
    · have hi' : i < len := by rw [hll] at hi; exact hi
      have hj' : j < (flat (E (f i).2)).length := by rw [hget i hi] at hj; exact hj
      have := (hf i hi').2.2 j hj'
      have e1 : (flat (((List.range len).map fun i => (f i).2).map E)[i])[j] = (flat (E (f i).2))[j] := by
        congr 1
        rw [hget i hi]
      rw [e1]; exact this
    · have hi' : i < len := by rw [hll] at hi; exact hi
      have := hcell i hi' j hj
      rw [Addr.add_mid] at this
      exact this
  rw [hll] at hpv
  exact hpv
/-- A slice of rows, of which nothing more is told. -/
theorem rd_rows {α : Type} [Inhabited α] {t e : TypeId} {sz : Nat} (E : α → AV) (ht : P.underlying t = some (.slice e)) (hce : P.cellsOf e = sz) (hpos : 0 < sz)
    (hE : ∀ x, (flat (E x)).length = sz)
    (hrd : ∀ n cs y, DataW.trod enc P W base spare held n e cs = some y → ∃ x : α, ∀ j (hj : j < (flat (E x)).length), PV W (pr0 W) (flat (E x))[j] (cs.getD j undef))
    {n : Nat} {c : Value} {y : DataW H × List MemPlace} (h : DataW.trod enc P W base spare held n t [c] = some y) :
    ∃ l : List α, l.length ≤ 9223372036854775807 ∧ PV W (pr0 W) (.sl sz (l.map E) none) c := by
  obtain ⟨l, h1, _, h2⟩ := rd_rowsQ E (fun _ => True) ht hce hpos hE (fun n cs y h => by
    obtain ⟨x, hx⟩ := hrd n cs y h
    exact ⟨x, trivial, hx⟩) h
  exact ⟨l, h1, h2⟩
theorem rd_int {t : TypeId} {k : IntKind} (ht : P.underlying t = some (.int k)) {n : Nat} {c : Value} {y : DataW H × List MemPlace} (h : DataW.trod enc P W base spare held n t [c] = some y) : ∃ z, c = .int k z := by
  obtain ⟨z, h1, _⟩ := DataW.trod_int ht h
  exact ⟨z, by simpa using h1⟩
/-- A slice of bytes. -/
theorem rd_bytes {t e : TypeId} (ht : P.underlying t = some (.slice e)) (he : P.underlying e = some (.int .u8)) (hce : P.cellsOf e = 1) {n : Nat} {c : Value} {y : DataW H × List MemPlace}
    (h : DataW.trod enc P W base spare held n t [c] = some y) : ∃ l : List Int, PV W (pr0 W) (.sl 1 (encB l) none) c := by
  obtain ⟨l, _, hl⟩ := rd_rows (fun n : Int => AV.v (.int .u8 n)) ht hce (by omega) (fun x => rfl) (fun n cs y h => by
    obtain ⟨z, h1, _⟩ := DataW.trod_int he h
    refine ⟨z, fun j hj => ?_⟩
    have hj0 : j = 0 := by simp [flat] at hj; omega
    subst hj0
    subst h1
    exact .v _) h
  exact ⟨l, hl⟩
/-- A step. -/
theorem rd_stp {t e : TypeId} {f0 f1 f2 f3 f4 : Field} (ht : P.underlying t = some (.struct #[f0, f1, f2, f3, f4])) (hI : P.underlying f0.type = some (.int .i64)) (h1 : f1.type = f0.type) (h2 : f2.type = f0.type) (h3 : f3.type = f0.type)
    (h4 : P.underlying f4.type = some (.slice e)) (he : P.underlying e = some (.int .u8)) (hce : P.cellsOf e = 1) (hc0 : P.cellsOf f0.type = 1) (hc4 : P.cellsOf f4.type = 1) (hct : P.cellsOf t = 5)
    (o0 : f0.offset = 0) (o1 : f1.offset = 1) (o2 : f2.offset = 2) (o3 : f3.offset = 3) (o4 : f4.offset = 4)
    {n : Nat} {cs : List Value} {y : DataW H × List MemPlace} (h : DataW.trod enc P W base spare held n t cs = some y) :
    ∃ x : Stp, ∀ j (hj : j < (flat (.agg (stpCells x))).length), PV W (pr0 W) (flat (.agg (stpCells x)))[j] (cs.getD j undef) := by
  obtain ⟨xs, m, _, _, hl, hxs, hf⟩ := DataW.trod_struct ht h
  rw [hct] at hl
  match cs, hl with
  | [c0, c1, c2, c3, c4], _ =>
    have g0 := hf 0 f0 rfl
    have g1 := hf 1 f1 rfl
    have g2 := hf 2 f2 rfl
    have g3 := hf 3 f3 rfl
    have g4 := hf 4 f4 rfl
    simp only [h1, h2, h3, o0, o1, o2, o3, o4, hc0, hc4, List.drop, List.take] at g0 g1 g2 g3 g4
    match xs, hxs with
    | [y0, y1, y2, y3, y4], _ =>
      obtain ⟨z0, rfl⟩ := rd_int hI (by simpa using g0)
      obtain ⟨z1, rfl⟩ := rd_int hI (by simpa using g1)
      obtain ⟨z2, rfl⟩ := rd_int hI (by simpa using g2)
      obtain ⟨z3, rfl⟩ := rd_int hI (by simpa using g3)
      obtain ⟨l, hp⟩ := rd_bytes h4 he hce (by simpa using g4)
      refine ⟨⟨z0, z1, z2, z3, l⟩, fun j hj => ?_⟩
      have hj5 : j < 5 := hj
      match j, hj5 with
      | 0, _ => exact .v _
      | 1, _ => exact .v _
      | 2, _ => exact .v _
      | 3, _ => exact .v _
      | 4, _ => exact hp
/-- A segment that anybody may send. -/
def FarOk (x : Far) : Prop := (0 ≤ x.wnd ∧ x.wnd ≤ 65535) ∧ (0 ≤ x.mss ∧ x.mss ≤ 65535)
theorem rd_far {t e : TypeId} {f0 f1 f2 f3 f4 f5 : Field} (ht : P.underlying t = some (.struct #[f0, f1, f2, f3, f4, f5])) (hI : P.underlying f0.type = some (.int .i64)) (h1 : f1.type = f0.type) (hB : P.underlying f2.type = some (.int .u8)) (hS : P.underlying f3.type = some (.int .u16)) (h4 : f4.type = f3.type)
    (h5 : P.underlying f5.type = some (.slice e)) (he : P.underlying e = some (.int .u8)) (hce : P.cellsOf e = 1) (hc0 : P.cellsOf f0.type = 1) (hc2 : P.cellsOf f2.type = 1) (hc3 : P.cellsOf f3.type = 1) (hc5 : P.cellsOf f5.type = 1) (hct : P.cellsOf t = 6)
    (o0 : f0.offset = 0) (o1 : f1.offset = 1) (o2 : f2.offset = 2) (o3 : f3.offset = 3) (o4 : f4.offset = 4) (o5 : f5.offset = 5)
    {n : Nat} {cs : List Value} {y : DataW H × List MemPlace} (h : DataW.trod enc P W base spare held n t cs = some y) :
    ∃ x : Far, FarOk x ∧ ∀ j (hj : j < (flat (.agg (farCells x))).length), PV W (pr0 W) (flat (.agg (farCells x)))[j] (cs.getD j undef) := by
  obtain ⟨xs, m, _, _, hl, hxs, hf⟩ := DataW.trod_struct ht h
  rw [hct] at hl
  match cs, hl with
  | [c0, c1, c2, c3, c4, c5], _ =>
    have g0 := hf 0 f0 rfl
    have g1 := hf 1 f1 rfl
    have g2 := hf 2 f2 rfl
    have g3 := hf 3 f3 rfl
    have g4 := hf 4 f4 rfl
    have g5 := hf 5 f5 rfl
    simp only [h1, h4, o0, o1, o2, o3, o4, o5, hc0, hc2, hc3, hc5, List.drop, List.take] at g0 g1 g2 g3 g4 g5
    match xs, hxs with
    | [y0, y1, y2, y3, y4, y5], _ =>
      obtain ⟨z0, rfl⟩ := rd_int hI (by simpa using g0)
      obtain ⟨z1, rfl⟩ := rd_int hI (by simpa using g1)
      obtain ⟨z2, rfl⟩ := rd_int hB (by simpa using g2)
      obtain ⟨z3, hz3, _, b3⟩ := DataW.trod_int hS (by simpa using g3)
      obtain ⟨z4, hz4, _, b4⟩ := DataW.trod_int hS (by simpa using g4)
      simp only [List.cons.injEq, and_true] at hz3 hz4
      subst hz3 hz4
      obtain ⟨l, hp⟩ := rd_bytes h5 he hce (by simpa using g5)
      refine ⟨⟨z0, z1, z2, z3, z4, l⟩, ⟨bounds_u16 b3, bounds_u16 b4⟩, fun j hj => ?_⟩
      have hj6 : j < 6 := hj
      match j, hj6 with
      | 0, _ => exact .v _
      | 1, _ => exact .v _
      | 2, _ => exact .v _
      | 3, _ => exact .v _
      | 4, _ => exact .v _
      | 5, _ => exact hp
/-- Two numbers. -/
theorem rd_two {t e : TypeId} (ht : P.underlying t = some (.array 2 e)) (he : P.underlying e = some (.int .u32)) (hce : P.cellsOf e = 1) (hct : P.cellsOf t = 2) {n : Nat} {cs : Array Value} {y : DataW H × List MemPlace}
    (h : DataW.trod enc P W base spare held n t cs.toList = some y) : ∃ x : Two, PV W (pr0 W) (.agg (twoCells x)) (.agg cs) := by
  obtain ⟨xs, m, _, _, hl, hxs, hf⟩ := DataW.trod_array ht h
  rw [hct] at hl
  obtain ⟨l⟩ := cs
  match l, hl with
  | [c0, c1], _ =>
    have g0 := hf 0 (by omega)
    have g1 := hf 1 (by omega)
    simp only [hce, Nat.zero_mul, Nat.one_mul, List.drop, List.take] at g0 g1
    match xs, hxs with
    | [y0, y1], _ =>
      obtain ⟨z0, rfl⟩ := rd_int he (by simpa using g0)
      obtain ⟨z1, rfl⟩ := rd_int he (by simpa using g1)
      refine ⟨⟨z0, z1⟩, .agg rfl fun i hi => ?_⟩
      have hi2 : i < 2 := hi
      match i, hi2 with
      | 0, _ => exact .v _
      | 1, _ => exact .v _
end
theorem okWide_arr {P : Program} {w : World} {r : Reach} {base : Nat} {t n e : TypeId} {v : Value} (ht : P.underlying t = some (.array n e)) (h : Value.okWide P w r base t v) : ∃ cs, v = .agg cs ∧ cs.size = P.cellsOf t := by
  unfold Value.okWide at h
  rw [ht] at h
  obtain ⟨cs, h1, h2, _⟩ := h
  exact ⟨cs, h1, h2⟩
/-! ### From a contract to the calls of a world -/
def base0 (w : World) (n : Nat) : Base := ⟨pr0 w, fun _ => False, w, n, 0⟩
def env0 (w : World) : Env := ⟨fun _ => 0, fun _ => none, pr0 w⟩
theorem V_leaf {w : World} {st : St} {x : AV} {y : Value} (h : PV w (pr0 w) x y) (hx : (∃ z, x = .v z) ∨ ∃ sz es, x = .sl sz es none) : V (env0 w) st w x y := by
  rcases hx with ⟨z, rfl⟩ | ⟨sz, es, rfl⟩
  · cases h; exact .v _
  · exact .sl h (fun n g hn => by cases hn)
theorem V_agg0 {w : World} {st : St} {cs : List AV} {y : Value} (h : PV w (pr0 w) (.agg cs) y) (hx : ∀ x ∈ cs, (∃ z, x = .v z) ∨ ∃ sz es, x = .sl sz es none) : V (env0 w) st w (.agg cs) y := by
  cases h with
  | agg hl h => exact .agg hl (fun i hi => V_leaf (h i hi) (hx _ (List.getElem_mem hi)))
theorem enter_rel {ys : List AV} {args : Array Value} (w : World) (hlen : args.size = ys.length) (he : enterSt ys = ⟨fun i => ys.getD i (.v undef), fun _ => none, zg⟩)
    (hv : ∀ i (hi : i < ys.length) (st : St), V (env0 w) st w ys[i] (args.getD i undef)) : Rel0 (base0 w args.size) (env0 w) (enterSt ys) ⟨args, []⟩ w := by
  rw [he]
  refine ⟨fun i => ?_, fun n cs h => (by cases h), fun n m h => absurd rfl h, fun n h => absurd rfl h, fun n h => absurd rfl h, fun n b e h => (by cases h), fun n m b e e' h => (by cases h),
    Fr.refl _ _, fun b hb => rfl, fun b k h => h, fun b k h => .inl h, fun b k h => h, fun h => absurd rfl h, rfl, rfl⟩
  by_cases hi : i < ys.length
  · have e1 : ys.getD i (.v undef) = ys[i] := by simp [List.getD, hi]
    simp only [e1]
    exact hv i hi _
  · have e1 : ys.getD i (.v undef) = .v undef := by simp [List.getD, List.getElem?_eq_none (by omega : ys.length ≤ i)]
    have e2 : args.getD i undef = undef := by
      have : ¬ i < args.size := by omega
      simp [Array.getD, this]
    simp only [e1, e2]
    exact .v _
theorem calls_of {P : Program} {f : FuncId} {ys : List AV} {args : Array Value} {b : Bool} (w : World) (hTb : TabB P (base0 w args.size)) (h : SpecAt P f ys (.v (.bool b)) none) (hlen : args.size = ys.length) (he : enterSt ys = ⟨fun i => ys.getD i (.v undef), fun _ => none, zg⟩)
    (hv : ∀ i (hi : i < ys.length) (st : St), V (env0 w) st w ys[i] (args.getD i undef)) : Calls P f args w fun e w' => e = .returned (.bool b) ∧ Below w.heap.size w w' := by
  refine (h (base0 w args.size) (env0 w) args w rfl hTb (enter_rel w hlen he hv) hlen).mono fun e w' hq => ?_
  obtain ⟨y, E', rfl, hr⟩ := hq
  have h0 := hr.sl 0
  simp only [leaveSt, resSlot] at h0
  have hy : y = .bool b := by
    have h1 : V E' (leaveSt (.v (.bool b)) none) w' (.v (.bool b)) y := by simpa [nameR, nameX] using h0
    cases h1
    rfl
  subst hy
  refine ⟨rfl, ?_⟩
  have hf := hr.frame
  exact ⟨hf.os, hf.tape, hf.output, hf.size, fun k hk => hf.whole k hk fun j => hk⟩
end Caw

/-! The table of strconv's, out of a card's list; numbers that come in. -/
set_option linter.all false
namespace Caw
open Go Go.RowKit
theorem tabT_of {P : Program} {W : World} {n : Nat} (ht : Lib.TabIs P W "internal/strconv.uint64pow10" .u64 Lib.pow10Tab) : TabB P (base0 W n) := by
  intro g hg
  have hlt : g < W.heap.size := by
    have h2 := ht
    unfold Lib.TabIs World.var? at h2
    rw [hg, Option.bind_some] at h2
    split at h2
    · rename_i h; exact (Array.getElem?_eq_some_iff.1 h).1
    · cases h2
  exact ⟨hlt, fun _ => hlt, ht⟩
theorem tabT_laid {P : Program} {W : World} {n : Nat} {x y : String × DataW Unit} {rest : List (String × DataW Unit)} {g : Nat} {t e : TypeId}
    (hg : P.globalNamed "internal/strconv.uint64pow10" = some g) (hty : (P.globals[g]?).map (·.type) = some t) (ht : P.underlying t = some (.array 20 e)) (he : P.underlying e = some (.int .u64)) (hce : P.cellsOf e = 1) (hct : P.cellsOf t = 20)
    (h : laidMet P (x :: y :: ("internal/strconv.uint64pow10", Lib.tabData .u64 Lib.pow10Tab) :: rest) W) : TabB P (base0 W n) :=
  tabT_of (Lib.tabIs_of_head hg hty ht he hce hct h.tail.tail)
theorem bounds_u32 {n : Int} (h : (Lit.int .u32 n).wf = true) : 0 ≤ n ∧ n < 4294967296 := by
  have e1 : IntKind.min .u32 = 0 := rfl
  have e2 : IntKind.max .u32 = 4294967295 := rfl
  simp [Lit.wf] at h
  omega
end Caw

