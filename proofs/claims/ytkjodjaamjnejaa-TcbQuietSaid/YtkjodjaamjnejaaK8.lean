import Derived.Test.YtkjodjaamjnejaaK7
set_option linter.all false
/-! Printed by gencells2.py: the structures of the laws of layer tcb. -/
namespace Caw
open Go Go.RowKit
set_option linter.unusedSimpArgs false
set_option maxRecDepth 100000

@[ext] structure Talk where
  c0 : Conn
  c1 : Conn
  is0 : Bool
  is1 : Bool
  first0 : Int
  first1 : Int
  way0 : List Seg
  way1 : List Seg
  written0 : ByteArray
  written1 : ByteArray
  read0 : ByteArray
  read1 : ByteArray
  closed0 : Bool
  closed1 : Bool
  told0 : Bool
  told1 : Bool
  now : Int
  wrong : Bool
deriving Inhabited
def talkCells (x : Talk) : List AV := [.v (.int .i64 x.c0.phase), .v (.int .u8 x.c0.self.a), .v (.int .u8 x.c0.self.b), .v (.int .u8 x.c0.self.c), .v (.int .u8 x.c0.self.d), .v (.int .u16 x.c0.self.port), .v (.int .u8 x.c0.peer.a), .v (.int .u8 x.c0.peer.b), .v (.int .u8 x.c0.peer.c), .v (.int .u8 x.c0.peer.d), .v (.int .u16 x.c0.peer.port), .v (.int .u32 x.c0.first), .v (.int .u32 x.c0.send.una), .sl 1 (encB x.c0.send.data) none, .v (.int .i64 x.c0.send.sent), .v (.bool x.c0.send.fin), .v (.bool x.c0.send.finSent), .v (.bool x.c0.send.finAcked), .v (.int .u32 x.c0.recv.next), .sl 1 (encB x.c0.recv.data) none, .sl 2 (encS pieceCells x.c0.recv.ahead) none, .v (.bool x.c0.recv.known), .v (.int .u32 x.c0.recv.fin), .v (.bool x.c0.recv.done), .v (.int .i64 x.c0.window), .v (.int .i64 x.c0.mss), .v (.int .i64 x.c0.clock.smooth), .v (.int .i64 x.c0.clock.spread), .v (.int .i64 x.c0.clock.wait), .v (.int .u64 x.c0.due), .v (.int .i64 x.c0.tries), .v (.bool x.c0.timing), .v (.int .u32 x.c0.timedSeq), .v (.int .u64 x.c0.timedAt), .v (.int .u64 x.c0.till), .v (.bool x.c0.ended), .v (.int .i64 x.c0.err), .v (.int .i64 x.c1.phase), .v (.int .u8 x.c1.self.a), .v (.int .u8 x.c1.self.b), .v (.int .u8 x.c1.self.c), .v (.int .u8 x.c1.self.d), .v (.int .u16 x.c1.self.port), .v (.int .u8 x.c1.peer.a), .v (.int .u8 x.c1.peer.b), .v (.int .u8 x.c1.peer.c), .v (.int .u8 x.c1.peer.d), .v (.int .u16 x.c1.peer.port), .v (.int .u32 x.c1.first), .v (.int .u32 x.c1.send.una), .sl 1 (encB x.c1.send.data) none, .v (.int .i64 x.c1.send.sent), .v (.bool x.c1.send.fin), .v (.bool x.c1.send.finSent), .v (.bool x.c1.send.finAcked), .v (.int .u32 x.c1.recv.next), .sl 1 (encB x.c1.recv.data) none, .sl 2 (encS pieceCells x.c1.recv.ahead) none, .v (.bool x.c1.recv.known), .v (.int .u32 x.c1.recv.fin), .v (.bool x.c1.recv.done), .v (.int .i64 x.c1.window), .v (.int .i64 x.c1.mss), .v (.int .i64 x.c1.clock.smooth), .v (.int .i64 x.c1.clock.spread), .v (.int .i64 x.c1.clock.wait), .v (.int .u64 x.c1.due), .v (.int .i64 x.c1.tries), .v (.bool x.c1.timing), .v (.int .u32 x.c1.timedSeq), .v (.int .u64 x.c1.timedAt), .v (.int .u64 x.c1.till), .v (.bool x.c1.ended), .v (.int .i64 x.c1.err), .v (.bool x.is0), .v (.bool x.is1), .v (.int .u32 x.first0), .v (.int .u32 x.first1), .sl 8 (encS segCells x.way0) none, .sl 8 (encS segCells x.way1) none, .v (.string x.written0), .v (.string x.written1), .v (.string x.read0), .v (.string x.read1), .v (.bool x.closed0), .v (.bool x.closed1), .v (.bool x.told0), .v (.bool x.told1), .v (.int .u64 x.now), .v (.bool x.wrong)]
noncomputable def pTalk : List AV → Option (Talk × List AV) := fun cs => (pConn cs).bind fun (a0, cs) => (pConn cs).bind fun (a1, cs) => (pT cs).bind fun (a2, cs) => (pT cs).bind fun (a3, cs) => (pI .u32 cs).bind fun (a4, cs) => (pI .u32 cs).bind fun (a5, cs) => (pSl 8 pSeg segCells cs).bind fun (a6, cs) => (pSl 8 pSeg segCells cs).bind fun (a7, cs) => (pS cs).bind fun (a8, cs) => (pS cs).bind fun (a9, cs) => (pS cs).bind fun (a10, cs) => (pS cs).bind fun (a11, cs) => (pT cs).bind fun (a12, cs) => (pT cs).bind fun (a13, cs) => (pT cs).bind fun (a14, cs) => (pT cs).bind fun (a15, cs) => (pI .u64 cs).bind fun (a16, cs) => (pT cs).bind fun (a17, cs) => some (⟨a0, a1, a2, a3, a4, a5, a6, a7, a8, a9, a10, a11, a12, a13, a14, a15, a16, a17⟩, cs)
theorem pTalk_snd : Snd CoP pTalk (fun x => talkCells x) := by
  intro cs x r h0
  unfold pTalk at h0
  obtain ⟨a0, r0, q0, h1, e0, c0⟩ := Snd.step pConn_snd h0
  obtain ⟨a1, r1, q1, h2, e1, c1⟩ := Snd.step pConn_snd h1
  obtain ⟨a2, r2, q2, h3, e2, c2⟩ := Snd.step pT_snd h2
  obtain ⟨a3, r3, q3, h4, e3, c3⟩ := Snd.step pT_snd h3
  obtain ⟨a4, r4, q4, h5, e4, c4⟩ := Snd.step (pI_snd .u32) h4
  obtain ⟨a5, r5, q5, h6, e5, c5⟩ := Snd.step (pI_snd .u32) h5
  obtain ⟨a6, r6, q6, h7, e6, c6⟩ := Snd.step (pSl_snd 8 pSeg segCells) h6
  obtain ⟨a7, r7, q7, h8, e7, c7⟩ := Snd.step (pSl_snd 8 pSeg segCells) h7
  obtain ⟨a8, r8, q8, h9, e8, c8⟩ := Snd.step pS_snd h8
  obtain ⟨a9, r9, q9, h10, e9, c9⟩ := Snd.step pS_snd h9
  obtain ⟨a10, r10, q10, h11, e10, c10⟩ := Snd.step pS_snd h10
  obtain ⟨a11, r11, q11, h12, e11, c11⟩ := Snd.step pS_snd h11
  obtain ⟨a12, r12, q12, h13, e12, c12⟩ := Snd.step pT_snd h12
  obtain ⟨a13, r13, q13, h14, e13, c13⟩ := Snd.step pT_snd h13
  obtain ⟨a14, r14, q14, h15, e14, c14⟩ := Snd.step pT_snd h14
  obtain ⟨a15, r15, q15, h16, e15, c15⟩ := Snd.step pT_snd h15
  obtain ⟨a16, r16, q16, h17, e16, c16⟩ := Snd.step (pI_snd .u64) h16
  obtain ⟨a17, r17, q17, h18, e17, c17⟩ := Snd.step pT_snd h17
  cases h18
  subst e17 e16 e15 e14 e13 e12 e11 e10 e9 e8 e7 e6 e5 e4 e3 e2 e1 e0
  exact ⟨(q0 ++ (q1 ++ (q2 ++ (q3 ++ (q4 ++ (q5 ++ (q6 ++ (q7 ++ (q8 ++ (q9 ++ (q10 ++ (q11 ++ (q12 ++ (q13 ++ (q14 ++ (q15 ++ (q16 ++ q17))))))))))))))))), by simp only [List.append_assoc], (c0.app (c1.app (c2.app (c3.app (c4.app (c5.app (c6.app (c7.app (c8.app (c9.app (c10.app (c11.app (c12.app (c13.app (c14.app (c15.app (c16.app c17)))))))))))))))))⟩
@[simp] theorem pTalk_app (x : Talk) (r : List AV) : pTalk (talkCells x ++ r) = some (x, r) := by simp [pTalk, talkCells, pConn, pAddr, pSend, pRecv, decS_enc pPiece_all, pClock, decS_enc pSeg_all]
@[simp] theorem pTalk_all (x : Talk) : pTalk (talkCells x) = some (x, []) := by have := pTalk_app x []; rwa [List.append_nil] at this
@[simp] theorem talkCells_len (x : Talk) : (talkCells x).length = 90 := rfl
@[simp high] theorem mkAgg_talk (x : Talk) : mkAgg (talkCells x) = .agg (talkCells x) := rfl
@[simp] theorem whole_talk (x : Talk) : whole pTalk (.agg (talkCells x)) = some x := by simp
@[simp] theorem talk_cut_c0 (x : Talk) : cut (talkCells x) 0 37 = connCells x.c0 := rfl
@[simp] theorem talk_put_c0 (x : Talk) (y : Conn) : splice (talkCells x) 0 (connCells y) 37 = talkCells { x with c0 := y } := rfl
@[simp] theorem talk_get_c0_phase (x : Talk) : (talkCells x)[0]? = some (.v (.int .i64 x.c0.phase)) := rfl
@[simp] theorem talk_put_c0_phase (x : Talk) (y : Int) : splice (talkCells x) 0 [.v (.int .i64 y)] 1 = talkCells { x with c0 := { x.c0 with phase := y } } := rfl
@[simp] theorem talk_cut_c0_self (x : Talk) : cut (talkCells x) 1 5 = addrCells x.c0.self := rfl
@[simp] theorem talk_put_c0_self (x : Talk) (y : Addr) : splice (talkCells x) 1 (addrCells y) 5 = talkCells { x with c0 := { x.c0 with self := y } } := rfl
@[simp] theorem talk_get_c0_self_a (x : Talk) : (talkCells x)[1]? = some (.v (.int .u8 x.c0.self.a)) := rfl
@[simp] theorem talk_put_c0_self_a (x : Talk) (y : Int) : splice (talkCells x) 1 [.v (.int .u8 y)] 1 = talkCells { x with c0 := { x.c0 with self := { x.c0.self with a := y } } } := rfl
@[simp] theorem talk_get_c0_self_b (x : Talk) : (talkCells x)[2]? = some (.v (.int .u8 x.c0.self.b)) := rfl
@[simp] theorem talk_put_c0_self_b (x : Talk) (y : Int) : splice (talkCells x) 2 [.v (.int .u8 y)] 1 = talkCells { x with c0 := { x.c0 with self := { x.c0.self with b := y } } } := rfl
@[simp] theorem talk_get_c0_self_c (x : Talk) : (talkCells x)[3]? = some (.v (.int .u8 x.c0.self.c)) := rfl
@[simp] theorem talk_put_c0_self_c (x : Talk) (y : Int) : splice (talkCells x) 3 [.v (.int .u8 y)] 1 = talkCells { x with c0 := { x.c0 with self := { x.c0.self with c := y } } } := rfl
@[simp] theorem talk_get_c0_self_d (x : Talk) : (talkCells x)[4]? = some (.v (.int .u8 x.c0.self.d)) := rfl
@[simp] theorem talk_put_c0_self_d (x : Talk) (y : Int) : splice (talkCells x) 4 [.v (.int .u8 y)] 1 = talkCells { x with c0 := { x.c0 with self := { x.c0.self with d := y } } } := rfl
@[simp] theorem talk_get_c0_self_port (x : Talk) : (talkCells x)[5]? = some (.v (.int .u16 x.c0.self.port)) := rfl
@[simp] theorem talk_put_c0_self_port (x : Talk) (y : Int) : splice (talkCells x) 5 [.v (.int .u16 y)] 1 = talkCells { x with c0 := { x.c0 with self := { x.c0.self with port := y } } } := rfl
@[simp] theorem talk_cut_c0_peer (x : Talk) : cut (talkCells x) 6 5 = addrCells x.c0.peer := rfl
@[simp] theorem talk_put_c0_peer (x : Talk) (y : Addr) : splice (talkCells x) 6 (addrCells y) 5 = talkCells { x with c0 := { x.c0 with peer := y } } := rfl
@[simp] theorem talk_get_c0_peer_a (x : Talk) : (talkCells x)[6]? = some (.v (.int .u8 x.c0.peer.a)) := rfl
@[simp] theorem talk_put_c0_peer_a (x : Talk) (y : Int) : splice (talkCells x) 6 [.v (.int .u8 y)] 1 = talkCells { x with c0 := { x.c0 with peer := { x.c0.peer with a := y } } } := rfl
@[simp] theorem talk_get_c0_peer_b (x : Talk) : (talkCells x)[7]? = some (.v (.int .u8 x.c0.peer.b)) := rfl
@[simp] theorem talk_put_c0_peer_b (x : Talk) (y : Int) : splice (talkCells x) 7 [.v (.int .u8 y)] 1 = talkCells { x with c0 := { x.c0 with peer := { x.c0.peer with b := y } } } := rfl
@[simp] theorem talk_get_c0_peer_c (x : Talk) : (talkCells x)[8]? = some (.v (.int .u8 x.c0.peer.c)) := rfl
@[simp] theorem talk_put_c0_peer_c (x : Talk) (y : Int) : splice (talkCells x) 8 [.v (.int .u8 y)] 1 = talkCells { x with c0 := { x.c0 with peer := { x.c0.peer with c := y } } } := rfl
@[simp] theorem talk_get_c0_peer_d (x : Talk) : (talkCells x)[9]? = some (.v (.int .u8 x.c0.peer.d)) := rfl
@[simp] theorem talk_put_c0_peer_d (x : Talk) (y : Int) : splice (talkCells x) 9 [.v (.int .u8 y)] 1 = talkCells { x with c0 := { x.c0 with peer := { x.c0.peer with d := y } } } := rfl
@[simp] theorem talk_get_c0_peer_port (x : Talk) : (talkCells x)[10]? = some (.v (.int .u16 x.c0.peer.port)) := rfl
@[simp] theorem talk_put_c0_peer_port (x : Talk) (y : Int) : splice (talkCells x) 10 [.v (.int .u16 y)] 1 = talkCells { x with c0 := { x.c0 with peer := { x.c0.peer with port := y } } } := rfl
@[simp] theorem talk_get_c0_first (x : Talk) : (talkCells x)[11]? = some (.v (.int .u32 x.c0.first)) := rfl
@[simp] theorem talk_put_c0_first (x : Talk) (y : Int) : splice (talkCells x) 11 [.v (.int .u32 y)] 1 = talkCells { x with c0 := { x.c0 with first := y } } := rfl
@[simp] theorem talk_cut_c0_send (x : Talk) : cut (talkCells x) 12 6 = sendCells x.c0.send := rfl
@[simp] theorem talk_put_c0_send (x : Talk) (y : Send) : splice (talkCells x) 12 (sendCells y) 6 = talkCells { x with c0 := { x.c0 with send := y } } := rfl
@[simp] theorem talk_get_c0_send_una (x : Talk) : (talkCells x)[12]? = some (.v (.int .u32 x.c0.send.una)) := rfl
@[simp] theorem talk_put_c0_send_una (x : Talk) (y : Int) : splice (talkCells x) 12 [.v (.int .u32 y)] 1 = talkCells { x with c0 := { x.c0 with send := { x.c0.send with una := y } } } := rfl
@[simp] theorem talk_get_c0_send_data (x : Talk) : (talkCells x)[13]? = some (.sl 1 (encB x.c0.send.data) none) := rfl
@[simp] theorem talk_put_c0_send_data (x : Talk) (y : List Int) : splice (talkCells x) 13 [.sl 1 (encB y) none] 1 = talkCells { x with c0 := { x.c0 with send := { x.c0.send with data := y } } } := rfl
@[simp] theorem talk_get_c0_send_sent (x : Talk) : (talkCells x)[14]? = some (.v (.int .i64 x.c0.send.sent)) := rfl
@[simp] theorem talk_put_c0_send_sent (x : Talk) (y : Int) : splice (talkCells x) 14 [.v (.int .i64 y)] 1 = talkCells { x with c0 := { x.c0 with send := { x.c0.send with sent := y } } } := rfl
@[simp] theorem talk_get_c0_send_fin (x : Talk) : (talkCells x)[15]? = some (.v (.bool x.c0.send.fin)) := rfl
@[simp] theorem talk_put_c0_send_fin (x : Talk) (y : Bool) : splice (talkCells x) 15 [.v (.bool y)] 1 = talkCells { x with c0 := { x.c0 with send := { x.c0.send with fin := y } } } := rfl
@[simp] theorem talk_get_c0_send_finSent (x : Talk) : (talkCells x)[16]? = some (.v (.bool x.c0.send.finSent)) := rfl
@[simp] theorem talk_put_c0_send_finSent (x : Talk) (y : Bool) : splice (talkCells x) 16 [.v (.bool y)] 1 = talkCells { x with c0 := { x.c0 with send := { x.c0.send with finSent := y } } } := rfl
@[simp] theorem talk_get_c0_send_finAcked (x : Talk) : (talkCells x)[17]? = some (.v (.bool x.c0.send.finAcked)) := rfl
@[simp] theorem talk_put_c0_send_finAcked (x : Talk) (y : Bool) : splice (talkCells x) 17 [.v (.bool y)] 1 = talkCells { x with c0 := { x.c0 with send := { x.c0.send with finAcked := y } } } := rfl
@[simp] theorem talk_cut_c0_recv (x : Talk) : cut (talkCells x) 18 6 = recvCells x.c0.recv := rfl
@[simp] theorem talk_put_c0_recv (x : Talk) (y : Recv) : splice (talkCells x) 18 (recvCells y) 6 = talkCells { x with c0 := { x.c0 with recv := y } } := rfl
@[simp] theorem talk_get_c0_recv_next (x : Talk) : (talkCells x)[18]? = some (.v (.int .u32 x.c0.recv.next)) := rfl
@[simp] theorem talk_put_c0_recv_next (x : Talk) (y : Int) : splice (talkCells x) 18 [.v (.int .u32 y)] 1 = talkCells { x with c0 := { x.c0 with recv := { x.c0.recv with next := y } } } := rfl
@[simp] theorem talk_get_c0_recv_data (x : Talk) : (talkCells x)[19]? = some (.sl 1 (encB x.c0.recv.data) none) := rfl
@[simp] theorem talk_put_c0_recv_data (x : Talk) (y : List Int) : splice (talkCells x) 19 [.sl 1 (encB y) none] 1 = talkCells { x with c0 := { x.c0 with recv := { x.c0.recv with data := y } } } := rfl
@[simp] theorem talk_get_c0_recv_ahead (x : Talk) : (talkCells x)[20]? = some (.sl 2 (encS pieceCells x.c0.recv.ahead) none) := rfl
@[simp] theorem talk_put_c0_recv_ahead (x : Talk) (y : List Piece) : splice (talkCells x) 20 [.sl 2 (encS pieceCells y) none] 1 = talkCells { x with c0 := { x.c0 with recv := { x.c0.recv with ahead := y } } } := rfl
@[simp] theorem talk_get_c0_recv_known (x : Talk) : (talkCells x)[21]? = some (.v (.bool x.c0.recv.known)) := rfl
@[simp] theorem talk_put_c0_recv_known (x : Talk) (y : Bool) : splice (talkCells x) 21 [.v (.bool y)] 1 = talkCells { x with c0 := { x.c0 with recv := { x.c0.recv with known := y } } } := rfl
@[simp] theorem talk_get_c0_recv_fin (x : Talk) : (talkCells x)[22]? = some (.v (.int .u32 x.c0.recv.fin)) := rfl
@[simp] theorem talk_put_c0_recv_fin (x : Talk) (y : Int) : splice (talkCells x) 22 [.v (.int .u32 y)] 1 = talkCells { x with c0 := { x.c0 with recv := { x.c0.recv with fin := y } } } := rfl
@[simp] theorem talk_get_c0_recv_done (x : Talk) : (talkCells x)[23]? = some (.v (.bool x.c0.recv.done)) := rfl
@[simp] theorem talk_put_c0_recv_done (x : Talk) (y : Bool) : splice (talkCells x) 23 [.v (.bool y)] 1 = talkCells { x with c0 := { x.c0 with recv := { x.c0.recv with done := y } } } := rfl
@[simp] theorem talk_get_c0_window (x : Talk) : (talkCells x)[24]? = some (.v (.int .i64 x.c0.window)) := rfl
@[simp] theorem talk_put_c0_window (x : Talk) (y : Int) : splice (talkCells x) 24 [.v (.int .i64 y)] 1 = talkCells { x with c0 := { x.c0 with window := y } } := rfl
@[simp] theorem talk_get_c0_mss (x : Talk) : (talkCells x)[25]? = some (.v (.int .i64 x.c0.mss)) := rfl
@[simp] theorem talk_put_c0_mss (x : Talk) (y : Int) : splice (talkCells x) 25 [.v (.int .i64 y)] 1 = talkCells { x with c0 := { x.c0 with mss := y } } := rfl
@[simp] theorem talk_cut_c0_clock (x : Talk) : cut (talkCells x) 26 3 = clockCells x.c0.clock := rfl
@[simp] theorem talk_put_c0_clock (x : Talk) (y : Clock) : splice (talkCells x) 26 (clockCells y) 3 = talkCells { x with c0 := { x.c0 with clock := y } } := rfl
@[simp] theorem talk_get_c0_clock_smooth (x : Talk) : (talkCells x)[26]? = some (.v (.int .i64 x.c0.clock.smooth)) := rfl
@[simp] theorem talk_put_c0_clock_smooth (x : Talk) (y : Int) : splice (talkCells x) 26 [.v (.int .i64 y)] 1 = talkCells { x with c0 := { x.c0 with clock := { x.c0.clock with smooth := y } } } := rfl
@[simp] theorem talk_get_c0_clock_spread (x : Talk) : (talkCells x)[27]? = some (.v (.int .i64 x.c0.clock.spread)) := rfl
@[simp] theorem talk_put_c0_clock_spread (x : Talk) (y : Int) : splice (talkCells x) 27 [.v (.int .i64 y)] 1 = talkCells { x with c0 := { x.c0 with clock := { x.c0.clock with spread := y } } } := rfl
@[simp] theorem talk_get_c0_clock_wait (x : Talk) : (talkCells x)[28]? = some (.v (.int .i64 x.c0.clock.wait)) := rfl
@[simp] theorem talk_put_c0_clock_wait (x : Talk) (y : Int) : splice (talkCells x) 28 [.v (.int .i64 y)] 1 = talkCells { x with c0 := { x.c0 with clock := { x.c0.clock with wait := y } } } := rfl
@[simp] theorem talk_get_c0_due (x : Talk) : (talkCells x)[29]? = some (.v (.int .u64 x.c0.due)) := rfl
@[simp] theorem talk_put_c0_due (x : Talk) (y : Int) : splice (talkCells x) 29 [.v (.int .u64 y)] 1 = talkCells { x with c0 := { x.c0 with due := y } } := rfl
@[simp] theorem talk_get_c0_tries (x : Talk) : (talkCells x)[30]? = some (.v (.int .i64 x.c0.tries)) := rfl
@[simp] theorem talk_put_c0_tries (x : Talk) (y : Int) : splice (talkCells x) 30 [.v (.int .i64 y)] 1 = talkCells { x with c0 := { x.c0 with tries := y } } := rfl
@[simp] theorem talk_get_c0_timing (x : Talk) : (talkCells x)[31]? = some (.v (.bool x.c0.timing)) := rfl
@[simp] theorem talk_put_c0_timing (x : Talk) (y : Bool) : splice (talkCells x) 31 [.v (.bool y)] 1 = talkCells { x with c0 := { x.c0 with timing := y } } := rfl
@[simp] theorem talk_get_c0_timedSeq (x : Talk) : (talkCells x)[32]? = some (.v (.int .u32 x.c0.timedSeq)) := rfl
@[simp] theorem talk_put_c0_timedSeq (x : Talk) (y : Int) : splice (talkCells x) 32 [.v (.int .u32 y)] 1 = talkCells { x with c0 := { x.c0 with timedSeq := y } } := rfl
@[simp] theorem talk_get_c0_timedAt (x : Talk) : (talkCells x)[33]? = some (.v (.int .u64 x.c0.timedAt)) := rfl
@[simp] theorem talk_put_c0_timedAt (x : Talk) (y : Int) : splice (talkCells x) 33 [.v (.int .u64 y)] 1 = talkCells { x with c0 := { x.c0 with timedAt := y } } := rfl
@[simp] theorem talk_get_c0_till (x : Talk) : (talkCells x)[34]? = some (.v (.int .u64 x.c0.till)) := rfl
@[simp] theorem talk_put_c0_till (x : Talk) (y : Int) : splice (talkCells x) 34 [.v (.int .u64 y)] 1 = talkCells { x with c0 := { x.c0 with till := y } } := rfl
@[simp] theorem talk_get_c0_ended (x : Talk) : (talkCells x)[35]? = some (.v (.bool x.c0.ended)) := rfl
@[simp] theorem talk_put_c0_ended (x : Talk) (y : Bool) : splice (talkCells x) 35 [.v (.bool y)] 1 = talkCells { x with c0 := { x.c0 with ended := y } } := rfl
@[simp] theorem talk_get_c0_err (x : Talk) : (talkCells x)[36]? = some (.v (.int .i64 x.c0.err)) := rfl
@[simp] theorem talk_put_c0_err (x : Talk) (y : Int) : splice (talkCells x) 36 [.v (.int .i64 y)] 1 = talkCells { x with c0 := { x.c0 with err := y } } := rfl
@[simp] theorem talk_cut_c1 (x : Talk) : cut (talkCells x) 37 37 = connCells x.c1 := rfl
@[simp] theorem talk_put_c1 (x : Talk) (y : Conn) : splice (talkCells x) 37 (connCells y) 37 = talkCells { x with c1 := y } := rfl
@[simp] theorem talk_get_c1_phase (x : Talk) : (talkCells x)[37]? = some (.v (.int .i64 x.c1.phase)) := rfl
@[simp] theorem talk_put_c1_phase (x : Talk) (y : Int) : splice (talkCells x) 37 [.v (.int .i64 y)] 1 = talkCells { x with c1 := { x.c1 with phase := y } } := rfl
@[simp] theorem talk_cut_c1_self (x : Talk) : cut (talkCells x) 38 5 = addrCells x.c1.self := rfl
@[simp] theorem talk_put_c1_self (x : Talk) (y : Addr) : splice (talkCells x) 38 (addrCells y) 5 = talkCells { x with c1 := { x.c1 with self := y } } := rfl
@[simp] theorem talk_get_c1_self_a (x : Talk) : (talkCells x)[38]? = some (.v (.int .u8 x.c1.self.a)) := rfl
@[simp] theorem talk_put_c1_self_a (x : Talk) (y : Int) : splice (talkCells x) 38 [.v (.int .u8 y)] 1 = talkCells { x with c1 := { x.c1 with self := { x.c1.self with a := y } } } := rfl
@[simp] theorem talk_get_c1_self_b (x : Talk) : (talkCells x)[39]? = some (.v (.int .u8 x.c1.self.b)) := rfl
@[simp] theorem talk_put_c1_self_b (x : Talk) (y : Int) : splice (talkCells x) 39 [.v (.int .u8 y)] 1 = talkCells { x with c1 := { x.c1 with self := { x.c1.self with b := y } } } := rfl
@[simp] theorem talk_get_c1_self_c (x : Talk) : (talkCells x)[40]? = some (.v (.int .u8 x.c1.self.c)) := rfl
@[simp] theorem talk_put_c1_self_c (x : Talk) (y : Int) : splice (talkCells x) 40 [.v (.int .u8 y)] 1 = talkCells { x with c1 := { x.c1 with self := { x.c1.self with c := y } } } := rfl
@[simp] theorem talk_get_c1_self_d (x : Talk) : (talkCells x)[41]? = some (.v (.int .u8 x.c1.self.d)) := rfl
@[simp] theorem talk_put_c1_self_d (x : Talk) (y : Int) : splice (talkCells x) 41 [.v (.int .u8 y)] 1 = talkCells { x with c1 := { x.c1 with self := { x.c1.self with d := y } } } := rfl
@[simp] theorem talk_get_c1_self_port (x : Talk) : (talkCells x)[42]? = some (.v (.int .u16 x.c1.self.port)) := rfl
@[simp] theorem talk_put_c1_self_port (x : Talk) (y : Int) : splice (talkCells x) 42 [.v (.int .u16 y)] 1 = talkCells { x with c1 := { x.c1 with self := { x.c1.self with port := y } } } := rfl
@[simp] theorem talk_cut_c1_peer (x : Talk) : cut (talkCells x) 43 5 = addrCells x.c1.peer := rfl
@[simp] theorem talk_put_c1_peer (x : Talk) (y : Addr) : splice (talkCells x) 43 (addrCells y) 5 = talkCells { x with c1 := { x.c1 with peer := y } } := rfl
@[simp] theorem talk_get_c1_peer_a (x : Talk) : (talkCells x)[43]? = some (.v (.int .u8 x.c1.peer.a)) := rfl
@[simp] theorem talk_put_c1_peer_a (x : Talk) (y : Int) : splice (talkCells x) 43 [.v (.int .u8 y)] 1 = talkCells { x with c1 := { x.c1 with peer := { x.c1.peer with a := y } } } := rfl
@[simp] theorem talk_get_c1_peer_b (x : Talk) : (talkCells x)[44]? = some (.v (.int .u8 x.c1.peer.b)) := rfl
@[simp] theorem talk_put_c1_peer_b (x : Talk) (y : Int) : splice (talkCells x) 44 [.v (.int .u8 y)] 1 = talkCells { x with c1 := { x.c1 with peer := { x.c1.peer with b := y } } } := rfl
@[simp] theorem talk_get_c1_peer_c (x : Talk) : (talkCells x)[45]? = some (.v (.int .u8 x.c1.peer.c)) := rfl
@[simp] theorem talk_put_c1_peer_c (x : Talk) (y : Int) : splice (talkCells x) 45 [.v (.int .u8 y)] 1 = talkCells { x with c1 := { x.c1 with peer := { x.c1.peer with c := y } } } := rfl
@[simp] theorem talk_get_c1_peer_d (x : Talk) : (talkCells x)[46]? = some (.v (.int .u8 x.c1.peer.d)) := rfl
@[simp] theorem talk_put_c1_peer_d (x : Talk) (y : Int) : splice (talkCells x) 46 [.v (.int .u8 y)] 1 = talkCells { x with c1 := { x.c1 with peer := { x.c1.peer with d := y } } } := rfl
@[simp] theorem talk_get_c1_peer_port (x : Talk) : (talkCells x)[47]? = some (.v (.int .u16 x.c1.peer.port)) := rfl
@[simp] theorem talk_put_c1_peer_port (x : Talk) (y : Int) : splice (talkCells x) 47 [.v (.int .u16 y)] 1 = talkCells { x with c1 := { x.c1 with peer := { x.c1.peer with port := y } } } := rfl
@[simp] theorem talk_get_c1_first (x : Talk) : (talkCells x)[48]? = some (.v (.int .u32 x.c1.first)) := rfl
@[simp] theorem talk_put_c1_first (x : Talk) (y : Int) : splice (talkCells x) 48 [.v (.int .u32 y)] 1 = talkCells { x with c1 := { x.c1 with first := y } } := rfl
@[simp] theorem talk_cut_c1_send (x : Talk) : cut (talkCells x) 49 6 = sendCells x.c1.send := rfl
@[simp] theorem talk_put_c1_send (x : Talk) (y : Send) : splice (talkCells x) 49 (sendCells y) 6 = talkCells { x with c1 := { x.c1 with send := y } } := rfl
@[simp] theorem talk_get_c1_send_una (x : Talk) : (talkCells x)[49]? = some (.v (.int .u32 x.c1.send.una)) := rfl
@[simp] theorem talk_put_c1_send_una (x : Talk) (y : Int) : splice (talkCells x) 49 [.v (.int .u32 y)] 1 = talkCells { x with c1 := { x.c1 with send := { x.c1.send with una := y } } } := rfl
@[simp] theorem talk_get_c1_send_data (x : Talk) : (talkCells x)[50]? = some (.sl 1 (encB x.c1.send.data) none) := rfl
@[simp] theorem talk_put_c1_send_data (x : Talk) (y : List Int) : splice (talkCells x) 50 [.sl 1 (encB y) none] 1 = talkCells { x with c1 := { x.c1 with send := { x.c1.send with data := y } } } := rfl
@[simp] theorem talk_get_c1_send_sent (x : Talk) : (talkCells x)[51]? = some (.v (.int .i64 x.c1.send.sent)) := rfl
@[simp] theorem talk_put_c1_send_sent (x : Talk) (y : Int) : splice (talkCells x) 51 [.v (.int .i64 y)] 1 = talkCells { x with c1 := { x.c1 with send := { x.c1.send with sent := y } } } := rfl
@[simp] theorem talk_get_c1_send_fin (x : Talk) : (talkCells x)[52]? = some (.v (.bool x.c1.send.fin)) := rfl
@[simp] theorem talk_put_c1_send_fin (x : Talk) (y : Bool) : splice (talkCells x) 52 [.v (.bool y)] 1 = talkCells { x with c1 := { x.c1 with send := { x.c1.send with fin := y } } } := rfl
@[simp] theorem talk_get_c1_send_finSent (x : Talk) : (talkCells x)[53]? = some (.v (.bool x.c1.send.finSent)) := rfl
@[simp] theorem talk_put_c1_send_finSent (x : Talk) (y : Bool) : splice (talkCells x) 53 [.v (.bool y)] 1 = talkCells { x with c1 := { x.c1 with send := { x.c1.send with finSent := y } } } := rfl
@[simp] theorem talk_get_c1_send_finAcked (x : Talk) : (talkCells x)[54]? = some (.v (.bool x.c1.send.finAcked)) := rfl
@[simp] theorem talk_put_c1_send_finAcked (x : Talk) (y : Bool) : splice (talkCells x) 54 [.v (.bool y)] 1 = talkCells { x with c1 := { x.c1 with send := { x.c1.send with finAcked := y } } } := rfl
@[simp] theorem talk_cut_c1_recv (x : Talk) : cut (talkCells x) 55 6 = recvCells x.c1.recv := rfl
@[simp] theorem talk_put_c1_recv (x : Talk) (y : Recv) : splice (talkCells x) 55 (recvCells y) 6 = talkCells { x with c1 := { x.c1 with recv := y } } := rfl
@[simp] theorem talk_get_c1_recv_next (x : Talk) : (talkCells x)[55]? = some (.v (.int .u32 x.c1.recv.next)) := rfl
@[simp] theorem talk_put_c1_recv_next (x : Talk) (y : Int) : splice (talkCells x) 55 [.v (.int .u32 y)] 1 = talkCells { x with c1 := { x.c1 with recv := { x.c1.recv with next := y } } } := rfl
@[simp] theorem talk_get_c1_recv_data (x : Talk) : (talkCells x)[56]? = some (.sl 1 (encB x.c1.recv.data) none) := rfl
@[simp] theorem talk_put_c1_recv_data (x : Talk) (y : List Int) : splice (talkCells x) 56 [.sl 1 (encB y) none] 1 = talkCells { x with c1 := { x.c1 with recv := { x.c1.recv with data := y } } } := rfl
@[simp] theorem talk_get_c1_recv_ahead (x : Talk) : (talkCells x)[57]? = some (.sl 2 (encS pieceCells x.c1.recv.ahead) none) := rfl
@[simp] theorem talk_put_c1_recv_ahead (x : Talk) (y : List Piece) : splice (talkCells x) 57 [.sl 2 (encS pieceCells y) none] 1 = talkCells { x with c1 := { x.c1 with recv := { x.c1.recv with ahead := y } } } := rfl
@[simp] theorem talk_get_c1_recv_known (x : Talk) : (talkCells x)[58]? = some (.v (.bool x.c1.recv.known)) := rfl
@[simp] theorem talk_put_c1_recv_known (x : Talk) (y : Bool) : splice (talkCells x) 58 [.v (.bool y)] 1 = talkCells { x with c1 := { x.c1 with recv := { x.c1.recv with known := y } } } := rfl
@[simp] theorem talk_get_c1_recv_fin (x : Talk) : (talkCells x)[59]? = some (.v (.int .u32 x.c1.recv.fin)) := rfl
@[simp] theorem talk_put_c1_recv_fin (x : Talk) (y : Int) : splice (talkCells x) 59 [.v (.int .u32 y)] 1 = talkCells { x with c1 := { x.c1 with recv := { x.c1.recv with fin := y } } } := rfl
@[simp] theorem talk_get_c1_recv_done (x : Talk) : (talkCells x)[60]? = some (.v (.bool x.c1.recv.done)) := rfl
@[simp] theorem talk_put_c1_recv_done (x : Talk) (y : Bool) : splice (talkCells x) 60 [.v (.bool y)] 1 = talkCells { x with c1 := { x.c1 with recv := { x.c1.recv with done := y } } } := rfl
@[simp] theorem talk_get_c1_window (x : Talk) : (talkCells x)[61]? = some (.v (.int .i64 x.c1.window)) := rfl
@[simp] theorem talk_put_c1_window (x : Talk) (y : Int) : splice (talkCells x) 61 [.v (.int .i64 y)] 1 = talkCells { x with c1 := { x.c1 with window := y } } := rfl
@[simp] theorem talk_get_c1_mss (x : Talk) : (talkCells x)[62]? = some (.v (.int .i64 x.c1.mss)) := rfl
@[simp] theorem talk_put_c1_mss (x : Talk) (y : Int) : splice (talkCells x) 62 [.v (.int .i64 y)] 1 = talkCells { x with c1 := { x.c1 with mss := y } } := rfl
@[simp] theorem talk_cut_c1_clock (x : Talk) : cut (talkCells x) 63 3 = clockCells x.c1.clock := rfl
@[simp] theorem talk_put_c1_clock (x : Talk) (y : Clock) : splice (talkCells x) 63 (clockCells y) 3 = talkCells { x with c1 := { x.c1 with clock := y } } := rfl
@[simp] theorem talk_get_c1_clock_smooth (x : Talk) : (talkCells x)[63]? = some (.v (.int .i64 x.c1.clock.smooth)) := rfl
@[simp] theorem talk_put_c1_clock_smooth (x : Talk) (y : Int) : splice (talkCells x) 63 [.v (.int .i64 y)] 1 = talkCells { x with c1 := { x.c1 with clock := { x.c1.clock with smooth := y } } } := rfl
@[simp] theorem talk_get_c1_clock_spread (x : Talk) : (talkCells x)[64]? = some (.v (.int .i64 x.c1.clock.spread)) := rfl
@[simp] theorem talk_put_c1_clock_spread (x : Talk) (y : Int) : splice (talkCells x) 64 [.v (.int .i64 y)] 1 = talkCells { x with c1 := { x.c1 with clock := { x.c1.clock with spread := y } } } := rfl
@[simp] theorem talk_get_c1_clock_wait (x : Talk) : (talkCells x)[65]? = some (.v (.int .i64 x.c1.clock.wait)) := rfl
@[simp] theorem talk_put_c1_clock_wait (x : Talk) (y : Int) : splice (talkCells x) 65 [.v (.int .i64 y)] 1 = talkCells { x with c1 := { x.c1 with clock := { x.c1.clock with wait := y } } } := rfl
@[simp] theorem talk_get_c1_due (x : Talk) : (talkCells x)[66]? = some (.v (.int .u64 x.c1.due)) := rfl
@[simp] theorem talk_put_c1_due (x : Talk) (y : Int) : splice (talkCells x) 66 [.v (.int .u64 y)] 1 = talkCells { x with c1 := { x.c1 with due := y } } := rfl
@[simp] theorem talk_get_c1_tries (x : Talk) : (talkCells x)[67]? = some (.v (.int .i64 x.c1.tries)) := rfl
@[simp] theorem talk_put_c1_tries (x : Talk) (y : Int) : splice (talkCells x) 67 [.v (.int .i64 y)] 1 = talkCells { x with c1 := { x.c1 with tries := y } } := rfl
@[simp] theorem talk_get_c1_timing (x : Talk) : (talkCells x)[68]? = some (.v (.bool x.c1.timing)) := rfl
@[simp] theorem talk_put_c1_timing (x : Talk) (y : Bool) : splice (talkCells x) 68 [.v (.bool y)] 1 = talkCells { x with c1 := { x.c1 with timing := y } } := rfl
@[simp] theorem talk_get_c1_timedSeq (x : Talk) : (talkCells x)[69]? = some (.v (.int .u32 x.c1.timedSeq)) := rfl
@[simp] theorem talk_put_c1_timedSeq (x : Talk) (y : Int) : splice (talkCells x) 69 [.v (.int .u32 y)] 1 = talkCells { x with c1 := { x.c1 with timedSeq := y } } := rfl
@[simp] theorem talk_get_c1_timedAt (x : Talk) : (talkCells x)[70]? = some (.v (.int .u64 x.c1.timedAt)) := rfl
@[simp] theorem talk_put_c1_timedAt (x : Talk) (y : Int) : splice (talkCells x) 70 [.v (.int .u64 y)] 1 = talkCells { x with c1 := { x.c1 with timedAt := y } } := rfl
@[simp] theorem talk_get_c1_till (x : Talk) : (talkCells x)[71]? = some (.v (.int .u64 x.c1.till)) := rfl
@[simp] theorem talk_put_c1_till (x : Talk) (y : Int) : splice (talkCells x) 71 [.v (.int .u64 y)] 1 = talkCells { x with c1 := { x.c1 with till := y } } := rfl
@[simp] theorem talk_get_c1_ended (x : Talk) : (talkCells x)[72]? = some (.v (.bool x.c1.ended)) := rfl
@[simp] theorem talk_put_c1_ended (x : Talk) (y : Bool) : splice (talkCells x) 72 [.v (.bool y)] 1 = talkCells { x with c1 := { x.c1 with ended := y } } := rfl
@[simp] theorem talk_get_c1_err (x : Talk) : (talkCells x)[73]? = some (.v (.int .i64 x.c1.err)) := rfl
@[simp] theorem talk_put_c1_err (x : Talk) (y : Int) : splice (talkCells x) 73 [.v (.int .i64 y)] 1 = talkCells { x with c1 := { x.c1 with err := y } } := rfl
@[simp] theorem talk_get_is0 (x : Talk) : (talkCells x)[74]? = some (.v (.bool x.is0)) := rfl
@[simp] theorem talk_put_is0 (x : Talk) (y : Bool) : splice (talkCells x) 74 [.v (.bool y)] 1 = talkCells { x with is0 := y } := rfl
@[simp] theorem talk_get_is1 (x : Talk) : (talkCells x)[75]? = some (.v (.bool x.is1)) := rfl
@[simp] theorem talk_put_is1 (x : Talk) (y : Bool) : splice (talkCells x) 75 [.v (.bool y)] 1 = talkCells { x with is1 := y } := rfl
@[simp] theorem talk_get_first0 (x : Talk) : (talkCells x)[76]? = some (.v (.int .u32 x.first0)) := rfl
@[simp] theorem talk_put_first0 (x : Talk) (y : Int) : splice (talkCells x) 76 [.v (.int .u32 y)] 1 = talkCells { x with first0 := y } := rfl
@[simp] theorem talk_get_first1 (x : Talk) : (talkCells x)[77]? = some (.v (.int .u32 x.first1)) := rfl
@[simp] theorem talk_put_first1 (x : Talk) (y : Int) : splice (talkCells x) 77 [.v (.int .u32 y)] 1 = talkCells { x with first1 := y } := rfl
@[simp] theorem talk_get_way0 (x : Talk) : (talkCells x)[78]? = some (.sl 8 (encS segCells x.way0) none) := rfl
@[simp] theorem talk_put_way0 (x : Talk) (y : List Seg) : splice (talkCells x) 78 [.sl 8 (encS segCells y) none] 1 = talkCells { x with way0 := y } := rfl
@[simp] theorem talk_get_way1 (x : Talk) : (talkCells x)[79]? = some (.sl 8 (encS segCells x.way1) none) := rfl
@[simp] theorem talk_put_way1 (x : Talk) (y : List Seg) : splice (talkCells x) 79 [.sl 8 (encS segCells y) none] 1 = talkCells { x with way1 := y } := rfl
@[simp] theorem talk_get_written0 (x : Talk) : (talkCells x)[80]? = some (.v (.string x.written0)) := rfl
@[simp] theorem talk_put_written0 (x : Talk) (y : ByteArray) : splice (talkCells x) 80 [.v (.string y)] 1 = talkCells { x with written0 := y } := rfl
@[simp] theorem talk_get_written1 (x : Talk) : (talkCells x)[81]? = some (.v (.string x.written1)) := rfl
@[simp] theorem talk_put_written1 (x : Talk) (y : ByteArray) : splice (talkCells x) 81 [.v (.string y)] 1 = talkCells { x with written1 := y } := rfl
@[simp] theorem talk_get_read0 (x : Talk) : (talkCells x)[82]? = some (.v (.string x.read0)) := rfl
@[simp] theorem talk_put_read0 (x : Talk) (y : ByteArray) : splice (talkCells x) 82 [.v (.string y)] 1 = talkCells { x with read0 := y } := rfl
@[simp] theorem talk_get_read1 (x : Talk) : (talkCells x)[83]? = some (.v (.string x.read1)) := rfl
@[simp] theorem talk_put_read1 (x : Talk) (y : ByteArray) : splice (talkCells x) 83 [.v (.string y)] 1 = talkCells { x with read1 := y } := rfl
@[simp] theorem talk_get_closed0 (x : Talk) : (talkCells x)[84]? = some (.v (.bool x.closed0)) := rfl
@[simp] theorem talk_put_closed0 (x : Talk) (y : Bool) : splice (talkCells x) 84 [.v (.bool y)] 1 = talkCells { x with closed0 := y } := rfl
@[simp] theorem talk_get_closed1 (x : Talk) : (talkCells x)[85]? = some (.v (.bool x.closed1)) := rfl
@[simp] theorem talk_put_closed1 (x : Talk) (y : Bool) : splice (talkCells x) 85 [.v (.bool y)] 1 = talkCells { x with closed1 := y } := rfl
@[simp] theorem talk_get_told0 (x : Talk) : (talkCells x)[86]? = some (.v (.bool x.told0)) := rfl
@[simp] theorem talk_put_told0 (x : Talk) (y : Bool) : splice (talkCells x) 86 [.v (.bool y)] 1 = talkCells { x with told0 := y } := rfl
@[simp] theorem talk_get_told1 (x : Talk) : (talkCells x)[87]? = some (.v (.bool x.told1)) := rfl
@[simp] theorem talk_put_told1 (x : Talk) (y : Bool) : splice (talkCells x) 87 [.v (.bool y)] 1 = talkCells { x with told1 := y } := rfl
@[simp] theorem talk_get_now (x : Talk) : (talkCells x)[88]? = some (.v (.int .u64 x.now)) := rfl
@[simp] theorem talk_put_now (x : Talk) (y : Int) : splice (talkCells x) 88 [.v (.int .u64 y)] 1 = talkCells { x with now := y } := rfl
@[simp] theorem talk_get_wrong (x : Talk) : (talkCells x)[89]? = some (.v (.bool x.wrong)) := rfl
@[simp] theorem talk_put_wrong (x : Talk) (y : Bool) : splice (talkCells x) 89 [.v (.bool y)] 1 = talkCells { x with wrong := y } := rfl
@[simp] theorem talk_whole (x : Talk) (ys : List AV) : splice (talkCells x) 0 ys 90 = ys := by simp [splice, talkCells]
@[simp] theorem talk_cutall (x : Talk) : cut (talkCells x) 0 90 = talkCells x := rfl
@[simp] theorem talkCells_leafH (x : Talk) : (talkCells x).all leafH = true := rfl
@[simp] theorem talkCells_leafP (x : Talk) : (talkCells x).all leafP = true := rfl
@[simp] theorem talkCells_leafOk (x : Talk) : (talkCells x).all leafOk = true := rfl
@[simp] theorem talkCells_kL (s : St) (M : List Nm) (x : Talk) : (talkCells x).map (kL s M) = talkCells x := rfl
@[simp] theorem talkCells_strip (x : Talk) : (talkCells x).map strip = talkCells x := rfl
@[simp] theorem talkCells_stripL (x : Talk) : (talkCells x).map stripL = talkCells x := rfl
@[simp] theorem talkCells_name (g : Nm → Nat) (d i k : Nat) (x : Talk) : nameC g d i k (talkCells x) = talkCells x := rfl
@[simp] theorem talkCells_flag (s : St) (x : Talk) : (talkCells x).map (flagL s) = talkCells x := rfl
@[simp] theorem talkCells_tags (s : St) (x : Talk) : tagsOf s (talkCells x) = [] := by simp [talkCells, tagsOf]
@[simp] theorem talkCells_co (φ ψ : Nm → Option Nm) (s s2 : St) (x : Talk) : All2P (CoL φ ψ s s2) (talkCells x) (talkCells x) := by simp [talkCells]

@[ext] structure Stp where
  kind : Int
  side : Int
  idx : Int
  num : Int
  data : List Int
deriving Inhabited
def stpCells (x : Stp) : List AV := [.v (.int .i64 x.kind), .v (.int .i64 x.side), .v (.int .i64 x.idx), .v (.int .i64 x.num), .sl 1 (encB x.data) none]
noncomputable def pStp : List AV → Option (Stp × List AV) := fun cs => (pI .i64 cs).bind fun (a0, cs) => (pI .i64 cs).bind fun (a1, cs) => (pI .i64 cs).bind fun (a2, cs) => (pI .i64 cs).bind fun (a3, cs) => (pB cs).bind fun (a4, cs) => some (⟨a0, a1, a2, a3, a4⟩, cs)
theorem pStp_snd : Snd CoP pStp (fun x => stpCells x) := by
  intro cs x r h0
  unfold pStp at h0
  obtain ⟨a0, r0, q0, h1, e0, c0⟩ := Snd.step (pI_snd .i64) h0
  obtain ⟨a1, r1, q1, h2, e1, c1⟩ := Snd.step (pI_snd .i64) h1
  obtain ⟨a2, r2, q2, h3, e2, c2⟩ := Snd.step (pI_snd .i64) h2
  obtain ⟨a3, r3, q3, h4, e3, c3⟩ := Snd.step (pI_snd .i64) h3
  obtain ⟨a4, r4, q4, h5, e4, c4⟩ := Snd.step pB_snd h4
  cases h5
  subst e4 e3 e2 e1 e0
  exact ⟨(q0 ++ (q1 ++ (q2 ++ (q3 ++ q4)))), by simp only [List.append_assoc], (c0.app (c1.app (c2.app (c3.app c4))))⟩
@[simp] theorem pStp_app (x : Stp) (r : List AV) : pStp (stpCells x ++ r) = some (x, r) := by simp [pStp, stpCells]
@[simp] theorem pStp_all (x : Stp) : pStp (stpCells x) = some (x, []) := by have := pStp_app x []; rwa [List.append_nil] at this
@[simp] theorem stpCells_len (x : Stp) : (stpCells x).length = 5 := rfl
@[simp high] theorem mkAgg_stp (x : Stp) : mkAgg (stpCells x) = .agg (stpCells x) := rfl
@[simp] theorem whole_stp (x : Stp) : whole pStp (.agg (stpCells x)) = some x := by simp
@[simp] theorem stp_get_kind (x : Stp) : (stpCells x)[0]? = some (.v (.int .i64 x.kind)) := rfl
@[simp] theorem stp_put_kind (x : Stp) (y : Int) : splice (stpCells x) 0 [.v (.int .i64 y)] 1 = stpCells { x with kind := y } := rfl
@[simp] theorem stp_get_side (x : Stp) : (stpCells x)[1]? = some (.v (.int .i64 x.side)) := rfl
@[simp] theorem stp_put_side (x : Stp) (y : Int) : splice (stpCells x) 1 [.v (.int .i64 y)] 1 = stpCells { x with side := y } := rfl
@[simp] theorem stp_get_idx (x : Stp) : (stpCells x)[2]? = some (.v (.int .i64 x.idx)) := rfl
@[simp] theorem stp_put_idx (x : Stp) (y : Int) : splice (stpCells x) 2 [.v (.int .i64 y)] 1 = stpCells { x with idx := y } := rfl
@[simp] theorem stp_get_num (x : Stp) : (stpCells x)[3]? = some (.v (.int .i64 x.num)) := rfl
@[simp] theorem stp_put_num (x : Stp) (y : Int) : splice (stpCells x) 3 [.v (.int .i64 y)] 1 = stpCells { x with num := y } := rfl
@[simp] theorem stp_get_data (x : Stp) : (stpCells x)[4]? = some (.sl 1 (encB x.data) none) := rfl
@[simp] theorem stp_put_data (x : Stp) (y : List Int) : splice (stpCells x) 4 [.sl 1 (encB y) none] 1 = stpCells { x with data := y } := rfl
@[simp] theorem stp_whole (x : Stp) (ys : List AV) : splice (stpCells x) 0 ys 5 = ys := by simp [splice, stpCells]
@[simp] theorem stp_cutall (x : Stp) : cut (stpCells x) 0 5 = stpCells x := rfl
@[simp] theorem stpCells_leafH (x : Stp) : (stpCells x).all leafH = true := rfl
@[simp] theorem stpCells_leafP (x : Stp) : (stpCells x).all leafP = true := rfl
@[simp] theorem stpCells_leafOk (x : Stp) : (stpCells x).all leafOk = true := rfl
@[simp] theorem stpCells_kL (s : St) (M : List Nm) (x : Stp) : (stpCells x).map (kL s M) = stpCells x := rfl
@[simp] theorem stpCells_strip (x : Stp) : (stpCells x).map strip = stpCells x := rfl
@[simp] theorem stpCells_stripL (x : Stp) : (stpCells x).map stripL = stpCells x := rfl
@[simp] theorem stpCells_name (g : Nm → Nat) (d i k : Nat) (x : Stp) : nameC g d i k (stpCells x) = stpCells x := rfl
@[simp] theorem stpCells_flag (s : St) (x : Stp) : (stpCells x).map (flagL s) = stpCells x := rfl
@[simp] theorem stpCells_tags (s : St) (x : Stp) : tagsOf s (stpCells x) = [] := by simp [stpCells, tagsOf]
@[simp] theorem stpCells_co (φ ψ : Nm → Option Nm) (s s2 : St) (x : Stp) : All2P (CoL φ ψ s s2) (stpCells x) (stpCells x) := by simp [stpCells]

@[ext] structure Far where
  seq : Int
  ack : Int
  flags : Int
  wnd : Int
  mss : Int
  data : List Int
deriving Inhabited
def farCells (x : Far) : List AV := [.v (.int .i64 x.seq), .v (.int .i64 x.ack), .v (.int .u8 x.flags), .v (.int .u16 x.wnd), .v (.int .u16 x.mss), .sl 1 (encB x.data) none]
noncomputable def pFar : List AV → Option (Far × List AV) := fun cs => (pI .i64 cs).bind fun (a0, cs) => (pI .i64 cs).bind fun (a1, cs) => (pI .u8 cs).bind fun (a2, cs) => (pI .u16 cs).bind fun (a3, cs) => (pI .u16 cs).bind fun (a4, cs) => (pB cs).bind fun (a5, cs) => some (⟨a0, a1, a2, a3, a4, a5⟩, cs)
theorem pFar_snd : Snd CoP pFar (fun x => farCells x) := by
  intro cs x r h0
  unfold pFar at h0
  obtain ⟨a0, r0, q0, h1, e0, c0⟩ := Snd.step (pI_snd .i64) h0
  obtain ⟨a1, r1, q1, h2, e1, c1⟩ := Snd.step (pI_snd .i64) h1
  obtain ⟨a2, r2, q2, h3, e2, c2⟩ := Snd.step (pI_snd .u8) h2
  obtain ⟨a3, r3, q3, h4, e3, c3⟩ := Snd.step (pI_snd .u16) h3
  obtain ⟨a4, r4, q4, h5, e4, c4⟩ := Snd.step (pI_snd .u16) h4
  obtain ⟨a5, r5, q5, h6, e5, c5⟩ := Snd.step pB_snd h5
  cases h6
  subst e5 e4 e3 e2 e1 e0
  exact ⟨(q0 ++ (q1 ++ (q2 ++ (q3 ++ (q4 ++ q5))))), by simp only [List.append_assoc], (c0.app (c1.app (c2.app (c3.app (c4.app c5)))))⟩
@[simp] theorem pFar_app (x : Far) (r : List AV) : pFar (farCells x ++ r) = some (x, r) := by simp [pFar, farCells]
@[simp] theorem pFar_all (x : Far) : pFar (farCells x) = some (x, []) := by have := pFar_app x []; rwa [List.append_nil] at this
@[simp] theorem farCells_len (x : Far) : (farCells x).length = 6 := rfl
@[simp high] theorem mkAgg_far (x : Far) : mkAgg (farCells x) = .agg (farCells x) := rfl
@[simp] theorem whole_far (x : Far) : whole pFar (.agg (farCells x)) = some x := by simp
@[simp] theorem far_get_seq (x : Far) : (farCells x)[0]? = some (.v (.int .i64 x.seq)) := rfl
@[simp] theorem far_put_seq (x : Far) (y : Int) : splice (farCells x) 0 [.v (.int .i64 y)] 1 = farCells { x with seq := y } := rfl
@[simp] theorem far_get_ack (x : Far) : (farCells x)[1]? = some (.v (.int .i64 x.ack)) := rfl
@[simp] theorem far_put_ack (x : Far) (y : Int) : splice (farCells x) 1 [.v (.int .i64 y)] 1 = farCells { x with ack := y } := rfl
@[simp] theorem far_get_flags (x : Far) : (farCells x)[2]? = some (.v (.int .u8 x.flags)) := rfl
@[simp] theorem far_put_flags (x : Far) (y : Int) : splice (farCells x) 2 [.v (.int .u8 y)] 1 = farCells { x with flags := y } := rfl
@[simp] theorem far_get_wnd (x : Far) : (farCells x)[3]? = some (.v (.int .u16 x.wnd)) := rfl
@[simp] theorem far_put_wnd (x : Far) (y : Int) : splice (farCells x) 3 [.v (.int .u16 y)] 1 = farCells { x with wnd := y } := rfl
@[simp] theorem far_get_mss (x : Far) : (farCells x)[4]? = some (.v (.int .u16 x.mss)) := rfl
@[simp] theorem far_put_mss (x : Far) (y : Int) : splice (farCells x) 4 [.v (.int .u16 y)] 1 = farCells { x with mss := y } := rfl
@[simp] theorem far_get_data (x : Far) : (farCells x)[5]? = some (.sl 1 (encB x.data) none) := rfl
@[simp] theorem far_put_data (x : Far) (y : List Int) : splice (farCells x) 5 [.sl 1 (encB y) none] 1 = farCells { x with data := y } := rfl
@[simp] theorem far_whole (x : Far) (ys : List AV) : splice (farCells x) 0 ys 6 = ys := by simp [splice, farCells]
@[simp] theorem far_cutall (x : Far) : cut (farCells x) 0 6 = farCells x := rfl
@[simp] theorem farCells_leafH (x : Far) : (farCells x).all leafH = true := rfl
@[simp] theorem farCells_leafP (x : Far) : (farCells x).all leafP = true := rfl
@[simp] theorem farCells_leafOk (x : Far) : (farCells x).all leafOk = true := rfl
@[simp] theorem farCells_kL (s : St) (M : List Nm) (x : Far) : (farCells x).map (kL s M) = farCells x := rfl
@[simp] theorem farCells_strip (x : Far) : (farCells x).map strip = farCells x := rfl
@[simp] theorem farCells_stripL (x : Far) : (farCells x).map stripL = farCells x := rfl
@[simp] theorem farCells_name (g : Nm → Nat) (d i k : Nat) (x : Far) : nameC g d i k (farCells x) = farCells x := rfl
@[simp] theorem farCells_flag (s : St) (x : Far) : (farCells x).map (flagL s) = farCells x := rfl
@[simp] theorem farCells_tags (s : St) (x : Far) : tagsOf s (farCells x) = [] := by simp [farCells, tagsOf]
@[simp] theorem farCells_co (φ ψ : Nm → Option Nm) (s s2 : St) (x : Far) : All2P (CoL φ ψ s s2) (farCells x) (farCells x) := by simp [farCells]

@[simp] theorem talkCells_kLr (s : St) (l : List (Nm × Nm)) (M : List Nm) (x : Talk) : (talkCells x).map (kLr s l M) = talkCells x := rfl
@[simp] theorem talkCells_tagsAt (s : St) (n : Nm) (k : Nat) (x : Talk) : tagsAt s n k (talkCells x) = [] := by simp [talkCells, tagsAt]
@[simp] theorem mergeC_talk (b : Bool) (x y : Talk) : mergeC b (talkCells x) (talkCells y) = talkCells (if b = true then x else y) := by cases b <;> rfl
@[simp] theorem ite_talkCells (c : Prop) [Decidable c] (x y : Talk) : (if c then talkCells x else talkCells y) = talkCells (if c then x else y) := by split <;> rfl
theorem talkCells_coE {φ ψ : Nm → Option Nm} {s s2 : St} {x y : Talk} (e : x = y) : All2P (CoL φ ψ s s2) (talkCells x) (talkCells y) := by subst e; exact talkCells_co ..
@[simp] theorem stpCells_kLr (s : St) (l : List (Nm × Nm)) (M : List Nm) (x : Stp) : (stpCells x).map (kLr s l M) = stpCells x := rfl
@[simp] theorem stpCells_tagsAt (s : St) (n : Nm) (k : Nat) (x : Stp) : tagsAt s n k (stpCells x) = [] := by simp [stpCells, tagsAt]
@[simp] theorem mergeC_stp (b : Bool) (x y : Stp) : mergeC b (stpCells x) (stpCells y) = stpCells (if b = true then x else y) := by cases b <;> rfl
@[simp] theorem ite_stpCells (c : Prop) [Decidable c] (x y : Stp) : (if c then stpCells x else stpCells y) = stpCells (if c then x else y) := by split <;> rfl
theorem stpCells_coE {φ ψ : Nm → Option Nm} {s s2 : St} {x y : Stp} (e : x = y) : All2P (CoL φ ψ s s2) (stpCells x) (stpCells y) := by subst e; exact stpCells_co ..
@[simp] theorem farCells_kLr (s : St) (l : List (Nm × Nm)) (M : List Nm) (x : Far) : (farCells x).map (kLr s l M) = farCells x := rfl
@[simp] theorem farCells_tagsAt (s : St) (n : Nm) (k : Nat) (x : Far) : tagsAt s n k (farCells x) = [] := by simp [farCells, tagsAt]
@[simp] theorem mergeC_far (b : Bool) (x y : Far) : mergeC b (farCells x) (farCells y) = farCells (if b = true then x else y) := by cases b <;> rfl
@[simp] theorem ite_farCells (c : Prop) [Decidable c] (x y : Far) : (if c then farCells x else farCells y) = farCells (if c then x else y) := by split <;> rfl
theorem farCells_coE {φ ψ : Nm → Option Nm} {s s2 : St} {x y : Far} (e : x = y) : All2P (CoL φ ψ s s2) (farCells x) (farCells y) := by subst e; exact farCells_co ..
end Caw

/-! The laws of layer tcb: what they are made of, as plain functions. -/
namespace Caw
open Go
section
variable {P : Program} {Γ : Ctx1} {C : Cfg} {N : Nat} {st s1 : St} {ops : Array Oper} {L : List Nat} {M : List Nm} {p : Kept}
theorem run_T (i n d : Nat) (h1 : Is (erunL P Γ C N ops ((ops.toList.drop i).take n) st) s1) (hb : IsB (s1.sl d) true) (hT : IsK (runK P Γ C N ops L M (i + n) (setB s1 d true)) p) : IsK (runK P Γ C N ops L M i st) p := by
  have e0 : ops.toList.drop i = (ops.toList.drop i).take n ++ ops.toList.drop (i + n) := by
    rw [← List.drop_drop, List.take_append_drop]
  have e1 : runK P Γ C N ops L M i st = runK P Γ C N ops L M (i + n) s1 := by
    unfold runK
    rw [e0, erunL_app, show erunL P Γ C N ops ((ops.toList.drop i).take n) st = some s1 from h1]
    rfl
  have e2 : setB s1 d true = s1 := by
    have : setF s1.sl d (.v (.bool true)) = s1.sl := by
      funext j
      unfold setF
      split
      · rename_i e; rw [e]; exact hb.symm
      · rfl
    unfold setB
    rw [this]
  unfold IsK
  rw [e1, ← e2]
  exact hT
theorem run_F (i n d : Nat) (h1 : Is (erunL P Γ C N ops ((ops.toList.drop i).take n) st) s1) (hb : IsB (s1.sl d) false) (hT : IsK (runK P Γ C N ops L M (i + n) (setB s1 d false)) p) : IsK (runK P Γ C N ops L M i st) p := by
  have e0 : ops.toList.drop i = (ops.toList.drop i).take n ++ ops.toList.drop (i + n) := by
    rw [← List.drop_drop, List.take_append_drop]
  have e1 : runK P Γ C N ops L M i st = runK P Γ C N ops L M (i + n) s1 := by
    unfold runK
    rw [e0, erunL_app, show erunL P Γ C N ops ((ops.toList.drop i).take n) st = some s1 from h1]
    rfl
  have e2 : setB s1 d false = s1 := by
    have : setF s1.sl d (.v (.bool false)) = s1.sl := by
      funext j
      unfold setF
      split
      · rename_i e; rw [e]; exact hb.symm
      · rfl
    unfold setB
    rw [this]
  unfold IsK
  rw [e1, ← e2]
  exact hT
end
/-! ### caravelref03 -/
def refMod (n : Int) : Int := if n.tmod 4294967296 < 0 then IntKind.i64.wrap (n.tmod 4294967296 + 4294967296) else n.tmod 4294967296
def refDiff (a b : Int) : Int :=
  if 2147483648 ≤ refMod (IntKind.i64.wrap (IntKind.i64.wrap a - IntKind.i64.wrap b)) then IntKind.i64.wrap (refMod (IntKind.i64.wrap (IntKind.i64.wrap a - IntKind.i64.wrap b)) - 4294967296)
  else refMod (IntKind.i64.wrap (IntKind.i64.wrap a - IntKind.i64.wrap b))
/-! ### tcb.Right -/
def connOdd (c : Conn) : Prop := c.phase < 0 ∨ 4 < c.phase ∨ sendRight c.send = false ∨ recvRight c.recv = false ∨ rtoRight c.clock = false ∨ c.window < 0 ∨ 65535 < c.window ∨ c.mss < 1 ∨ 64 < c.mss ∨ c.tries < 0 ∨ 8 < c.tries
instance (c : Conn) : Decidable (connOdd c) := by unfold connOdd; infer_instance
def connFine (c : Conn) : Bool :=
  if c.phase = 1 ∨ c.phase = 2 then decide (c.send.una = seqAdd c.first 1) && decide (c.send.sent = 0) && !c.send.finSent && !decide (c.due = 0) && decide (c.err = 0)
  else if c.phase = 3 then !(c.recv.done && c.send.finAcked) && decide (c.err = 0)
  else if c.phase = 4 then c.recv.done && c.send.finAcked && c.ended && decide (c.due = 0) && !c.timing && decide (c.err = 0)
  else decide (c.due = 0) && !c.timing
def connRight (c : Conn) : Bool := if connOdd c then false else connFine c
def addrX : Addr := ⟨10, 0, 0, 1, 7⟩
def addrY : Addr := ⟨10, 0, 0, 2, 80⟩
end Caw
namespace Caw
open Go
section
variable {P : Program} {Γ : Ctx1} {C : Cfg} {N : Nat} {st s1 : St} {ops : Array Oper} {L : List Nat} {M : List Nm} {p q z : Kept} {b : Bool} {k d : Nat}
/-- What is left to run, once a guard's outcome is known: a word that simp does not open. -/
def GoK (P : Program) (Γ : Ctx1) (C : Cfg) (N : Nat) (ops : Array Oper) (L : List Nat) (M : List Nm) (k : Nat) (s1 : St) (d : Nat) (b : Bool) (p : Kept) : Prop := IsK (runK P Γ C N ops L M k (setB s1 d b)) p
theorem run_go (i n d : Nat) (h1 : Is (erunL P Γ C N ops ((ops.toList.drop i).take n) st) s1) (hb : IsB (s1.sl d) b) (hT : GoK P Γ C N ops L M (i + n) s1 d b p) : IsK (runK P Γ C N ops L M i st) p := by
  cases b with
  | true => exact run_T i n d h1 hb hT
  | false => exact run_F i n d h1 hb hT
theorem go_T (h : IsK (runK P Γ C N ops L M k (setB s1 d true)) p) : GoK P Γ C N ops L M k s1 d true p := h
theorem go_F (h : IsK (runK P Γ C N ops L M k (setB s1 d false)) p) : GoK P Γ C N ops L M k s1 d false p := h
theorem go_S (hT : IsK (runK P Γ C N ops L M k (setB s1 d true)) p) (hF : IsK (runK P Γ C N ops L M k (setB s1 d false)) q) (hm : IsK (merge b p q) z) : GoK P Γ C N ops L M k s1 d b z := by
  cases b with
  | true => rw [merge_T hm]; exact hT
  | false => rw [merge_F hm]; exact hF
end
end Caw
namespace Caw
open Go
theorem right_cases (c : Conn) : (c.phase < 0) ∨ (¬ c.phase < 0 ∧ 4 < c.phase) ∨ (¬ c.phase < 0 ∧ ¬ 4 < c.phase ∧ sendRight c.send = false) ∨ (¬ c.phase < 0 ∧ ¬ 4 < c.phase ∧ sendRight c.send = true ∧ recvRight c.recv = false) ∨
    (¬ c.phase < 0 ∧ ¬ 4 < c.phase ∧ sendRight c.send = true ∧ recvRight c.recv = true ∧ rtoRight c.clock = false) ∨
    (¬ c.phase < 0 ∧ ¬ 4 < c.phase ∧ sendRight c.send = true ∧ recvRight c.recv = true ∧ rtoRight c.clock = true ∧ c.window < 0) ∨
    (¬ c.phase < 0 ∧ ¬ 4 < c.phase ∧ sendRight c.send = true ∧ recvRight c.recv = true ∧ rtoRight c.clock = true ∧ ¬ c.window < 0 ∧ 65535 < c.window) ∨
    (¬ c.phase < 0 ∧ ¬ 4 < c.phase ∧ sendRight c.send = true ∧ recvRight c.recv = true ∧ rtoRight c.clock = true ∧ ¬ c.window < 0 ∧ ¬ 65535 < c.window ∧ c.mss < 1) ∨
    (¬ c.phase < 0 ∧ ¬ 4 < c.phase ∧ sendRight c.send = true ∧ recvRight c.recv = true ∧ rtoRight c.clock = true ∧ ¬ c.window < 0 ∧ ¬ 65535 < c.window ∧ ¬ c.mss < 1 ∧ 64 < c.mss) ∨
    (¬ c.phase < 0 ∧ ¬ 4 < c.phase ∧ sendRight c.send = true ∧ recvRight c.recv = true ∧ rtoRight c.clock = true ∧ ¬ c.window < 0 ∧ ¬ 65535 < c.window ∧ ¬ c.mss < 1 ∧ ¬ 64 < c.mss ∧ c.tries < 0) ∨
    (¬ c.phase < 0 ∧ ¬ 4 < c.phase ∧ sendRight c.send = true ∧ recvRight c.recv = true ∧ rtoRight c.clock = true ∧ ¬ c.window < 0 ∧ ¬ 65535 < c.window ∧ ¬ c.mss < 1 ∧ ¬ 64 < c.mss ∧ ¬ c.tries < 0 ∧ 8 < c.tries) ∨
    (¬ c.phase < 0 ∧ ¬ 4 < c.phase ∧ sendRight c.send = true ∧ recvRight c.recv = true ∧ rtoRight c.clock = true ∧ ¬ c.window < 0 ∧ ¬ 65535 < c.window ∧ ¬ c.mss < 1 ∧ ¬ 64 < c.mss ∧ ¬ c.tries < 0 ∧ ¬ 8 < c.tries) := by
  cases sendRight c.send <;> cases recvRight c.recv <;> cases rtoRight c.clock <;> simp <;> omega
end Caw

