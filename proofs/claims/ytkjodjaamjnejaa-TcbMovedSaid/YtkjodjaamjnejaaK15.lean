import Derived.Test.YtkjodjaamjnejaaK13
set_option linter.all false
/-! Numbers moved by as much: queues. -/
set_option linter.unusedVariables false
namespace Caw
open Go
def mv (b x : Int) : Int := IntKind.u32.wrap (x + b)
theorem mv_eq (b x : Int) : mv b x = (x + b) % 4294967296 := by unfold mv; rw [IntKind.wrap_u32]
theorem mv_u (b x : Int) : U32 (mv b x) := by unfold U32; rw [mv_eq]; omega
theorem mv_diff (b x y : Int) : seqDiff (mv b x) (mv b y) = seqDiff x y := by rw [seqDiff_eq, seqDiff_eq, mv_eq, mv_eq]; omega
theorem mv_add (b x n : Int) : seqAdd (mv b x) n = mv b (seqAdd x n) := by rw [seqAdd_eq, seqAdd_eq, mv_eq, mv_eq]; omega
theorem mv_less (b x y : Int) : seqLess (mv b x) (mv b y) = seqLess x y := by unfold seqLess; rw [mv_diff]
theorem mv_in (b a s n : Int) : seqIn (mv b a) (mv b s) n = seqIn a s n := by
  have e : IntKind.u32.wrap (mv b a - mv b s) = IntKind.u32.wrap (a - s) := by rw [mv_eq, mv_eq, IntKind.wrap_u32, IntKind.wrap_u32]; omega
  unfold seqIn; rw [e]
theorem mv_inj {b x y : Int} (hx : U32 x) (hy : U32 y) : mv b x = mv b y ↔ x = y := by
  rw [mv_eq, mv_eq]; unfold U32 at *; constructor <;> intro h <;> omega
theorem mv_fits {b a n s w : Int} (ha : U32 a) (hs : U32 s) : seqFits (mv b a) n (mv b s) w = seqFits a n s w := by
  unfold seqFits
  rw [mv_in, mv_add, mv_in, mv_in]
  have : (mv b a == mv b s) = (a == s) := by
    rw [Bool.eq_iff_iff]; simp only [beq_iff_eq]; exact mv_inj ha hs
  rw [this]
theorem ite3 {α β : Type} (f : α → β) {c d : Prop} [Decidable c] [Decidable d] (e : c ↔ d) {a b : β} {x y : α} (h1 : c → a = f x) (h2 : ¬ c → b = f y) : (if c then a else b) = f (if d then x else y) := by
  by_cases h : c
  · rw [if_pos h, if_pos (e.1 h), h1 h]
  · rw [if_neg h, if_neg (fun k => h (e.2 k)), h2 h]
def mvSend (b : Int) (q : Send) : Send := { q with una := mv b q.una }
def mvPiece (b : Int) (p : Piece) : Piece := { p with seq := mv b p.seq }
def mvRecv (b : Int) (q : Recv) : Recv := { q with next := mv b q.next, ahead := q.ahead.map (mvPiece b), fin := if q.known then mv b q.fin else q.fin }
/-! ### What came -/
theorem mv_window (b : Int) (q : Recv) : recvWindow (mvRecv b q) = recvWindow q := rfl
theorem mv_beyond (b t : Int) (q : Recv) : recvBeyond (mvRecv b q) (mv b t) = recvBeyond q t := by
  unfold recvBeyond mvRecv
  simp only [List.any_map]
  congr 1
  funext p
  simp only [Function.comp, mvPiece, mv_add, mv_diff]
theorem mv_bothFrom (b : Int) (f t : Piece) : bothFrom (mvPiece b f) (mvPiece b t) = mv b (bothFrom f t) := by
  unfold bothFrom mvPiece
  simp only [mv_less]
  split <;> rfl
theorem mv_bothLen (b : Int) (f t : Piece) : bothLen (mvPiece b f) (mvPiece b t) = bothLen f t := by
  unfold bothLen
  rw [mv_bothFrom]
  simp only [mvPiece, mv_diff]
theorem mv_both (b : Int) (f t : Piece) : both (mvPiece b f) (mvPiece b t) = mvPiece b (both f t) := by
  unfold both
  rw [mv_bothFrom, mv_bothLen]
  simp only [mvPiece, mv_diff]
theorem mv_layGo (b : Int) : ∀ (l : List Piece) (p : Piece), layGo (l.map (mvPiece b)) (mvPiece b p) = (layGo l p).map (mvPiece b)
  | [], p => rfl
  | x :: r, p => by
    have e1 : seqDiff (seqAdd (mvPiece b x).seq (mvPiece b x).data.length) (mvPiece b p).seq = seqDiff (seqAdd x.seq x.data.length) p.seq := by simp only [mvPiece, mv_add, mv_diff]
    have e2 : seqDiff (seqAdd (mvPiece b p).seq (mvPiece b p).data.length) (mvPiece b x).seq = seqDiff (seqAdd p.seq p.data.length) x.seq := by simp only [mvPiece, mv_add, mv_diff]
    simp only [List.map_cons, layGo]
    rw [e1, e2]
    split
    · rw [mv_layGo b r p]; rfl
    · split
      · rw [mv_layGo b r x]; rfl
      · rw [mv_both, mv_layGo b r]
theorem layGo_u : ∀ (l : List Piece) (p : Piece), (∀ x ∈ l, U32 x.seq) → U32 p.seq → ∀ y ∈ layGo l p, U32 y.seq
  | [], p, _, hp, y, hy => by
    simp only [layGo, List.mem_cons, List.not_mem_nil, or_false] at hy
    rw [hy]; exact hp
  | x :: r, p, hl, hp, y, hy => by
    have hr : ∀ z ∈ r, U32 z.seq := fun z hz => hl z (List.mem_cons_of_mem _ hz)
    have hx : U32 x.seq := hl x List.mem_cons_self
    simp only [layGo] at hy
    split at hy
    · rcases List.mem_cons.1 hy with rfl | hy
      · exact hx
      · exact layGo_u r p hr hp y hy
    · split at hy
      · rcases List.mem_cons.1 hy with rfl | hy
        · exact hp
        · exact layGo_u r x hr hx y hy
      · refine layGo_u r _ hr ?_ y hy
        show U32 (bothFrom x p)
        unfold bothFrom
        split
        · exact hp
        · exact hx
theorem mv_layPut (b : Int) (q : Recv) (out : List Piece) : layPut (mvRecv b q) (out.map (mvPiece b)) = mvRecv b (layPut q out) := by
  unfold layPut
  rw [List.length_map]
  split <;> rfl
theorem mv_lay {b : Int} {q : Recv} {p : Piece} (hq : U32 q.next) (ha : ∀ x ∈ q.ahead, U32 x.seq) (hp : U32 p.seq) : lay (mvRecv b q) (mvPiece b p) = mvRecv b (lay q p) := by
  unfold lay
  rw [layAll_go, layAll_go]
  have e : (mvRecv b q).ahead = q.ahead.map (mvPiece b) := rfl
  rw [e, mv_layGo]
  have hu := layGo_u q.ahead p ha hp
  generalize layGo q.ahead p = out at hu
  cases out with
  | nil => rfl
  | cons y r =>
    have hy : U32 y.seq := hu y List.mem_cons_self
    simp only [List.map_cons, layEnd]
    have e2 : ((mvPiece b y).seq = (mvRecv b q).next) ↔ y.seq = q.next := mv_inj hy hq
    by_cases h : y.seq = q.next
    · rw [if_pos h, if_pos (e2.2 h)]
      have e3 : ({ mvRecv b q with data := (mvRecv b q).data ++ (mvPiece b y).data, next := seqAdd (mvRecv b q).next (mvPiece b y).data.length } : Recv) = mvRecv b { q with data := q.data ++ y.data, next := seqAdd q.next y.data.length } := by
        simp only [mvRecv, mvPiece, mv_add]
      rw [e3, mv_layPut]
    · rw [if_neg h, if_neg (fun k => h (e2.1 k))]
      exact mv_layPut b q (y :: r)
theorem mv_aMark (b : Int) (q : Recv) (a : Int) (d : List Int) (e : Bool) : aMark (mvRecv b q) (mv b a) d e = mvRecv b (aMark q a d e) := by
  unfold aMark
  rw [mv_add, mv_beyond, mv_window]
  have e1 : seqDiff (mv b (seqAdd a d.length)) (mvRecv b q).next = seqDiff (seqAdd a d.length) q.next := mv_diff ..
  rw [e1]
  refine ite3 (mvRecv b) Iff.rfl (fun _ => ?_) (fun _ => rfl)
  simp only [mvRecv, if_true]
theorem mv_aTo (b : Int) (q : Recv) (a : Int) (d : List Int) (e : Bool) : aTo (mvRecv b q) (mv b a) d e = aTo q a d e := by
  unfold aTo
  rw [mv_aMark, mv_window]
  have e1 : seqDiff (mv b a) (mvRecv b q).next = seqDiff a q.next := mv_diff ..
  have e2 : (mvRecv b (aMark q a d e)).known = (aMark q a d e).known := rfl
  rw [e1, e2]
  split
  · rename_i hk
    have e3 : seqDiff (mvRecv b (aMark q a d e)).fin (mvRecv b q).next = seqDiff (aMark q a d e).fin q.next := by
      simp only [mvRecv, hk, if_true, mv_diff]
    rw [e3]
  · rfl
theorem mv_accFrom (b : Int) (q : Recv) (a : Int) : accFrom (mvRecv b q) (mv b a) = accFrom q a := by
  unfold accFrom
  have e1 : seqDiff (mv b a) (mvRecv b q).next = seqDiff a q.next := mv_diff ..
  rw [e1]
theorem mv_accSkip (b : Int) (q : Recv) (a : Int) : accSkip (mvRecv b q) (mv b a) = accSkip q a := by
  unfold accSkip
  have e1 : seqDiff (mv b a) (mvRecv b q).next = seqDiff a q.next := mv_diff ..
  rw [e1, mv_accFrom]
theorem mv_aPiece (b : Int) (q : Recv) (a : Int) (d : List Int) (e : Bool) : aPiece (mvRecv b q) (mv b a) d e = mvPiece b (aPiece q a d e) := by
  unfold aPiece aHi
  rw [mv_accFrom, mv_accSkip, mv_aTo]
  simp only [mvPiece, mvRecv, mv_add]
theorem aMark_keeps (q : Recv) (a : Int) (d : List Int) (e : Bool) : (aMark q a d e).next = q.next ∧ (aMark q a d e).ahead = q.ahead ∧ (aMark q a d e).done = q.done := by
  unfold aMark; split <;> exact ⟨rfl, rfl, rfl⟩
theorem mv_acc {b : Int} {q : Recv} {a : Int} {d : List Int} {e : Bool} (hd : d.length ≤ 4096) (h : RecvOk q) : recvAcc (mvRecv b q) (mv b a) d e = mvRecv b (recvAcc q a d e) := by
  unfold recvAcc
  refine ite3 (mvRecv b) Iff.rfl (fun _ => rfl) (fun h0 => ?_)
  · rcases h with h | ⟨h, -⟩
    · exact absurd h.2.2.2.1 h0
    obtain ⟨m1, m2, m3, m4⟩ := aMark_mid a d e hd h
    have hl : aLay (mvRecv b q) (mv b a) d e = mvRecv b (aLay q a d e) := by
      unfold aLay
      rw [mv_accFrom, mv_aTo, mv_aMark, mv_aPiece]
      split
      · rename_i hlt
        obtain ⟨p1, p2, p3, p4⟩ := piece_good a d e hd h hlt
        have hb := m1.bnd
        exact mv_lay (by rw [m2]; exact h.un) (fun x hx => (gap_mem (by omega) m1.gap x hx).2.2.1) p4.2.1
      · rfl
    have hm : RMid (aLay q a d e) := by
      unfold aLay
      split
      · rename_i hlt
        obtain ⟨p1, p2, p3, p4⟩ := piece_good a d e hd h hlt
        exact lay_mid m1 (by rw [m2]; exact p4)
      · exact m1
    rw [hl]
    generalize aLay q a d e = z at hm
    unfold aDone
    have e1 : ((mvRecv b z).known = true ∧ (mvRecv b z).fin = (mvRecv b z).next) ↔ (z.known = true ∧ z.fin = z.next) := by
      constructor
      · rintro ⟨k1, k2⟩
        have k1' : z.known = true := k1
        refine ⟨k1', ?_⟩
        simp only [mvRecv, k1', if_true] at k2
        exact (mv_inj hm.uf hm.un).1 k2
      · rintro ⟨k1, k2⟩
        refine ⟨k1, ?_⟩
        simp only [mvRecv, k1, if_true, k2]
    by_cases hc : z.known = true ∧ z.fin = z.next
    · rw [if_pos hc, if_pos (e1.2 hc)]
      simp only [mvRecv, mv_add]
    · rw [if_neg hc, if_neg (fun k => hc (e1.1 k))]
theorem mv_read (b : Int) (q : Recv) (n : Int) : recvRead (mvRecv b q) n = (mvRecv b (recvRead q n).1, (recvRead q n).2) := rfl
theorem mv_new (b n : Int) : recvNew (mv b n) = mvRecv b (recvNew n) := rfl
/-! ### What goes -/
theorem mv_flight (b : Int) (q : Send) : sendFlight (mvSend b q) = sendFlight q := rfl
theorem mv_next {b : Int} {q : Send} {w m : Int} (h : (sendNext q w m).2.2.2 = true) : sendNext (mvSend b q) w m = (mvSend b (sendNext q w m).1, mvPiece b (sendNext q w m).2.1, (sendNext q w m).2.2) := by
  unfold sendNext at h ⊢
  have e : nextOk (mvSend b q) w m = nextOk q w m := rfl
  rw [e]
  split at h
  · rename_i hk
    rw [if_pos hk, if_pos hk]
    have e2 : nextN (mvSend b q) w m = nextN q w m := rfl
    have e3 : nextF (mvSend b q) w m = nextF q w m := rfl
    rw [e2, e3]
    simp only [mvSend, mvPiece, mv_add]
  · cases h
theorem mv_nextOk (b : Int) (q : Send) (w m : Int) : (sendNext (mvSend b q) w m).2.2.2 = (sendNext q w m).2.2.2 := by
  unfold sendNext
  have e : nextOk (mvSend b q) w m = nextOk q w m := rfl
  rw [e]
  split <;> rfl
theorem mv_again {b : Int} {q : Send} {m : Int} : (sendAgain (mvSend b q) m).2 = (sendAgain q m).2 ∧ ((sendAgain q m).2.2 = true → (sendAgain (mvSend b q) m).1 = mvPiece b (sendAgain q m).1) := by
  unfold sendAgain
  have e2 : againN (mvSend b q) m = againN q m := rfl
  have e3 : againF (mvSend b q) m = againF q m := rfl
  rw [e2, e3]
  split
  · exact ⟨rfl, nofun⟩
  · exact ⟨rfl, fun _ => rfl⟩
theorem mv_sendAck (b : Int) (q : Send) (a : Int) : sendAck (mvSend b q) (mv b a) = (mvSend b (sendAck q a).1, (sendAck q a).2) := by
  unfold sendAck
  have e1 : seqDiff (mv b a) (mvSend b q).una = seqDiff a q.una := mv_diff ..
  rw [e1, mv_flight]
  split
  · rfl
  · split
    · rfl
    · rfl
end Caw

/-! Numbers moved by as much: ends. -/
set_option linter.unusedVariables false
namespace Caw
open Go
def mvSeg (b0 b1 : Int) (x : Seg) : Seg := { x with seq := mv b0 x.seq, ack := if hasF x.flags 16 then mv b1 x.ack else x.ack }
def mvConn (b0 b1 : Int) (k : Bool) (c : Conn) : Conn := { c with first := mv b0 c.first, send := mvSend b0 c.send, recv := if k then mvRecv b1 c.recv else c.recv, timedSeq := mv b0 c.timedSeq }
def mvEp (b0 b1 : Int) (k : Bool) (e : Ep) : Ep := ⟨mvConn b0 b1 k e.conn, e.now, e.out.map (mvSeg b0 b1)⟩
section
variable {b0 b1 : Int} {k : Bool}
theorem mvc_recv (c : Conn) : recvWindow (mvConn b0 b1 k c).recv = recvWindow c.recv ∧ (mvConn b0 b1 k c).recv.done = c.recv.done ∧ (mvConn b0 b1 k c).recv.data = c.recv.data := by cases k <;> exact ⟨rfl, rfl, rfl⟩
theorem mv_tell (e : Ep) {f : Int} (p : Piece) (hk : k = true ∨ hasF f 16 = false) : epTell (mvEp b0 b1 k e) f (mvPiece b0 p) = mvEp b0 b1 k (epTell e f p) := by
  have h1 := (mvc_recv (b0 := b0) (b1 := b1) (k := k) e.conn).1
  unfold epTell
  simp only [mvEp, h1, List.map_append, List.map_cons, List.map_nil]
  congr 2
  simp only [mvSeg, mvPiece, mvConn]
  rcases hk with rfl | hf
  · cases hh : hasF f 16 <;> simp [mvRecv]
  · simp [hf]
theorem mv_ack (e : Ep) : epAck (mvEp b0 b1 true e) = mvEp b0 b1 true (epAck e) := by
  unfold epAck
  have h1 : (⟨seqAdd (mvEp b0 b1 true e).conn.send.una (sendFlight (mvEp b0 b1 true e).conn.send), []⟩ : Piece) = mvPiece b0 ⟨seqAdd e.conn.send.una (sendFlight e.conn.send), []⟩ := by
    simp only [mvPiece, ← mv_add]; rfl
  rw [h1]
  exact mv_tell e _ (.inl rfl)
theorem mv_arm (e : Ep) : epArm (mvEp b0 b1 k e) = mvEp b0 b1 k (epArm e) := rfl
theorem mv_shut (e : Ep) (y : Int) : epShut (mvEp b0 b1 k e) y = mvEp b0 b1 k (epShut e y) := rfl
theorem mv_hello (e : Ep) (hk : e.conn.phase = 2 → k = true) : epHello (mvEp b0 b1 k e) = mvEp b0 b1 k (epHello e) := by
  unfold epHello
  have h1 : (⟨(mvEp b0 b1 k e).conn.first, []⟩ : Piece) = mvPiece b0 ⟨e.conn.first, []⟩ := rfl
  have h2 : (mvEp b0 b1 k e).conn.phase = e.conn.phase := rfl
  rw [h1, h2]
  refine mv_tell e _ ?_
  by_cases hp : e.conn.phase = 2
  · exact .inl (hk hp)
  · rw [if_neg hp]; exact .inr (by decide)
theorem mv_broken (e : Ep) : epBroken (mvEp b0 b1 k e) = mvEp b0 b1 k (epBroken e) := by
  unfold epBroken
  exact ite3 (mvEp b0 b1 k) Iff.rfl (fun _ => rfl) (fun _ => rfl)
theorem mv_meet (e : Ep) (s : Seg) : epMeet (mvEp b0 b1 k e) (mvSeg b1 b0 s) = mvEp b0 b1 true (epMeet e s) := by
  unfold epMeet
  have h1 : recvNew (seqAdd (mvSeg b1 b0 s).seq 1) = mvRecv b1 (recvNew (seqAdd s.seq 1)) := by rw [← mv_new, ← mv_add]; rfl
  rw [h1]
  rfl
theorem mv_measure (e : Ep) (a : Int) : epMeasure (mvEp b0 b1 k e) (mv b0 a) = mvEp b0 b1 k (epMeasure e a) := by
  unfold epMeasure
  have e1 : seqLess (mv b0 a) (mvEp b0 b1 k e).conn.timedSeq = seqLess a e.conn.timedSeq := mv_less ..
  rw [e1]
  exact ite3 (mvEp b0 b1 k) Iff.rfl (fun _ => rfl) (fun _ => rfl)
theorem mv_opened (e : Ep) {s : Seg} (hs : hasF s.flags 16 = true) : epOpened (mvEp b0 b1 k e) (mvSeg b1 b0 s) = mvEp b0 b1 k (epOpened e s) := by
  unfold epOpened
  have e1 : (mvSeg b1 b0 s).ack = mv b0 s.ack := by simp [mvSeg, hs]
  rw [e1, ← mv_measure]
  rfl
theorem mv_over (e : Ep) : epOver (mvEp b0 b1 k e) = mvEp b0 b1 k (epOver e) := by
  have h1 := (mvc_recv (b0 := b0) (b1 := b1) (k := k) e.conn).2.1
  unfold epOver
  have e1 : (mvEp b0 b1 k e).conn.recv.done = e.conn.recv.done := h1
  rw [e1]
  exact ite3 (mvEp b0 b1 k) Iff.rfl (fun _ => rfl) (fun _ => ite3 (mvEp b0 b1 k) Iff.rfl (fun _ => rfl) (fun _ => rfl))
theorem mv_refuse {s : Seg} (hs : hasF s.flags 16 = true) : refuse (mvSeg b1 b0 s) = mvSeg b0 b1 (refuse s) := by
  unfold refuse
  have e1 : (mvSeg b1 b0 s).flags = s.flags := rfl
  rw [e1, if_pos hs, if_pos hs]
  have e2 : hasF 4 16 = false := by decide
  simp [mvSeg, hs, e2]
theorem mv_out (e : Ep) {s : Seg} (hs : hasF s.flags 16 = true) : ({ mvEp b0 b1 k e with out := (mvEp b0 b1 k e).out ++ [refuse (mvSeg b1 b0 s)] } : Ep) = mvEp b0 b1 k { e with out := e.out ++ [refuse s] } := by
  rw [mv_refuse hs]
  simp only [mvEp, List.map_append, List.map_cons, List.map_nil]
theorem segLen_mv (s : Seg) : segLen (mvSeg b1 b0 s) = segLen s := rfl
/-! ### push -/
theorem mv_pushOk (e : Ep) : (pushN (mvEp b0 b1 k e)).2.2.2 = (pushN e).2.2.2 := mv_nextOk b0 e.conn.send (pushW e) e.conn.mss
theorem mv_pushN {e : Ep} (h : (pushN e).2.2.2 = true) : pushN (mvEp b0 b1 k e) = (mvSend b0 (pushN e).1, mvPiece b0 (pushN e).2.1, (pushN e).2.2) := mv_next h
theorem mv_pushTold {e : Ep} (h : (pushN e).2.2.2 = true) : pushTold (mvEp b0 b1 true e) = mvEp b0 b1 true (pushTold e) := by
  unfold pushTold
  rw [mv_pushN h, ← mv_tell _ _ (.inl rfl)]
  rfl
theorem mv_pushTimed {e : Ep} (h : (pushN e).2.2.2 = true) : pushTimed (mvEp b0 b1 true e) = mvEp b0 b1 true (pushTimed e) := by
  unfold pushTimed
  have e1 : pushSeq (mvEp b0 b1 true e) = mv b0 (pushSeq e) := by
    unfold pushSeq
    rw [mv_pushN h]
    exact mv_add ..
  rw [mv_pushTold h, e1]
  exact ite3 (mvEp b0 b1 true) Iff.rfl (fun _ => rfl) (fun _ => rfl)
theorem mv_pushStep {e : Ep} (h : (pushN e).2.2.2 = true) : pushStep (mvEp b0 b1 true e) = mvEp b0 b1 true (pushStep e) := by
  rw [pushStep_eq, pushStep_eq, mv_pushTimed h]
  exact ite3 (mvEp b0 b1 true) Iff.rfl (fun _ => rfl) (fun _ => rfl)
theorem mv_pushLoop : ∀ (n : Nat) (e : Ep), pushLoop n (mvEp b0 b1 true e) = mvEp b0 b1 true (pushLoop n e)
  | 0, e => rfl
  | n + 1, e => by
    simp only [pushLoop]
    have e1 : (mvEp b0 b1 true e).conn.phase = e.conn.phase := rfl
    rw [e1, mv_pushOk]
    by_cases h : e.conn.phase = 3 ∧ (pushN e).2.2.2 = true
    · rw [if_pos h, if_pos h, mv_pushStep h.2, mv_pushLoop n]
    · rw [if_neg h, if_neg h]
theorem mv_push (e : Ep) : epPush (mvEp b0 b1 true e) = mvEp b0 b1 true (epPush e) := mv_pushLoop _ _
theorem mv_pushOff {e : Ep} (hp : e.conn.phase ≠ 3) : epPush (mvEp b0 b1 k e) = mvEp b0 b1 k (epPush e) := by
  rw [push_else hp, push_else (show (mvEp b0 b1 k e).conn.phase ≠ 3 from hp)]
/-! ### takes -/
theorem mv_tkR (e : Ep) {s : Seg} (hs : hasF s.flags 16 = true) : tkR (mvEp b0 b1 k e) (mvSeg b1 b0 s) = (mvSend b0 (tkR e s).1, (tkR e s).2) := by
  unfold tkR
  have e1 : (mvSeg b1 b0 s).ack = mv b0 s.ack := by simp [mvSeg, hs]
  rw [e1]
  exact mv_sendAck ..
theorem mv_tk0 (e : Ep) {s : Seg} (hs : hasF s.flags 16 = true) : tk0 (mvEp b0 b1 k e) (mvSeg b1 b0 s) = mvEp b0 b1 k (tk0 e s) := by
  unfold tk0
  rw [mv_opened e hs]
  exact ite3 (mvEp b0 b1 k) Iff.rfl (fun _ => rfl) (fun _ => rfl)
theorem mv_tk1 (e : Ep) {s : Seg} (hs : hasF s.flags 16 = true) : tk1 (mvEp b0 b1 k e) (mvSeg b1 b0 s) = mvEp b0 b1 k (tk1 e s) := by
  unfold tk1
  rw [mv_tkR e hs]
  rfl
theorem mv_tkM (e : Ep) {s : Seg} (hs : hasF s.flags 16 = true) : tkM (mvEp b0 b1 k e) (mvSeg b1 b0 s) = mvEp b0 b1 k (tkM e s) := by
  unfold tkM
  have e1 : (mvSeg b1 b0 s).ack = mv b0 s.ack := by simp [mvSeg, hs]
  rw [e1, mv_tk1 e hs]
  exact mv_measure ..
theorem mv_tk3 (e : Ep) {s : Seg} (hs : hasF s.flags 16 = true) : tk3 (mvEp b0 b1 k e) (mvSeg b1 b0 s) = mvEp b0 b1 k (tk3 e s) := by
  have e2 : tk2 (mvEp b0 b1 k e) (mvSeg b1 b0 s) = mvEp b0 b1 k (tk2 e s) := by
    unfold tk2
    rw [mv_tkM e hs]
    rfl
  unfold tk3
  rw [mv_tkR e hs, e2]
  exact ite3 (mvEp b0 b1 k) Iff.rfl (fun _ => rfl) (fun _ => rfl)
theorem mv_tk4 (e : Ep) {s : Seg} (hs : hasF s.flags 16 = true) : tk4 (mvEp b0 b1 k e) (mvSeg b1 b0 s) = mvEp b0 b1 k (tk4 e s) := by
  unfold tk4
  rw [mv_tkR e hs, mv_tk3 e hs, mv_tk1 e hs]
  exact ite3 (mvEp b0 b1 k) Iff.rfl (fun _ => rfl) (fun _ => rfl)
theorem tkR_u {e : Ep} {s : Seg} (h1 : U32 e.conn.send.una) (h2 : U32 s.ack) : U32 (tkR e s).1.una := by
  unfold tkR sendAck
  split
  · exact h1
  · split
    · exact h1
    · exact h2
theorem mv_tk7 (e : Ep) {s : Seg} (hs : hasF s.flags 16 = true) (h1 : U32 e.conn.send.una) (h2 : U32 s.ack) : tk7 (mvEp b0 b1 k e) (mvSeg b1 b0 s) = mvEp b0 b1 k (tk7 e s) := by
  have e5 : tk5 (mvEp b0 b1 k e) (mvSeg b1 b0 s) = mvEp b0 b1 k (tk5 e s) := by
    unfold tk5
    rw [mv_tk4 e hs]
    rfl
  have e6 : tk6 (mvEp b0 b1 k e) (mvSeg b1 b0 s) = mvEp b0 b1 k (tk6 e s) := by
    unfold tk6
    rw [e5]
    exact ite3 (mvEp b0 b1 k) Iff.rfl (fun _ => rfl) (fun _ => rfl)
  unfold tk7
  rw [mv_tkR e hs, e6, mv_tk4 e hs]
  have e1 : (mvSeg b1 b0 s).ack = mv b0 s.ack := by simp [mvSeg, hs]
  have e7 : ((mvSeg b1 b0 s).ack = (mvSend b0 (tkR e s).1).una) ↔ s.ack = (tkR e s).1.una := by
    rw [e1]; exact mv_inj h2 (tkR_u h1 h2)
  by_cases h : s.ack = (tkR e s).1.una
  · rw [if_pos h, if_pos (e7.2 h)]
  · rw [if_neg h, if_neg (fun q => h (e7.1 q))]
theorem mv_tk9 (e : Ep) {s : Seg} (hs : hasF s.flags 16 = true) (h1 : U32 e.conn.send.una) (h2 : U32 s.ack) (hr : RecvOk e.conn.recv) (hd : s.data.length ≤ 4096) : tk9 (mvEp b0 b1 true e) (mvSeg b1 b0 s) = mvEp b0 b1 true (tk9 e s) := by
  have e8 : tk8 (mvEp b0 b1 true e) (mvSeg b1 b0 s) = mvEp b0 b1 true (tk8 e s) := by
    unfold tk8
    rw [mv_tk7 e hs h1 h2]
    obtain ⟨-, b, -⟩ := tk7_keeps e s
    have e9 : recvAcc (mvEp b0 b1 true (tk7 e s)).conn.recv (mvSeg b1 b0 s).seq (mvSeg b1 b0 s).data (hasF (mvSeg b1 b0 s).flags 1) = mvRecv b1 (recvAcc (tk7 e s).conn.recv s.seq s.data (hasF s.flags 1)) := by
      show recvAcc (mvRecv b1 (tk7 e s).conn.recv) (mv b1 s.seq) s.data (hasF s.flags 1) = _
      exact mv_acc hd (by rw [b]; exact hr)
    rw [e9]
    rfl
  unfold tk9
  rw [e8, mv_over]
theorem mv_takesC (e : Ep) (s : Seg) : takesC (mvEp b0 b1 true e) (mvSeg b1 b0 s) = mvEp b0 b1 true (takesC e s) := by
  unfold takesC
  rw [mv_push, segLen_mv]
  have e1 : (mvEp b0 b1 true (epPush e)).out.length = (epPush e).out.length := List.length_map ..
  have e2 : (mvEp b0 b1 true e).out.length = e.out.length := List.length_map ..
  rw [e1, e2, mv_ack]
  exact ite3 (mvEp b0 b1 true) Iff.rfl (fun _ => rfl) (fun _ => rfl)
theorem mv_takesB (e : Ep) {s : Seg} (hs : hasF s.flags 16 = true) (h1 : U32 e.conn.send.una) (h2 : U32 s.ack) (hr : RecvOk e.conn.recv) (hd : s.data.length ≤ 4096) : takesB (mvEp b0 b1 true e) (mvSeg b1 b0 s) = mvEp b0 b1 true (takesB e s) := by
  unfold takesB
  rw [mv_tkR e hs, mv_tk9 e hs h1 h2 hr hd, mv_takesC, mv_ack]
  exact ite3 (mvEp b0 b1 true) Iff.rfl (fun _ => rfl) (fun _ => rfl)
theorem mv_takes (e : Ep) {s : Seg} (hs : hasF s.flags 16 = true) (h1 : U32 e.conn.send.una) (h2 : U32 s.ack) (hr : RecvOk e.conn.recv) (hd : s.data.length ≤ 4096) : takes (mvEp b0 b1 true e) (mvSeg b1 b0 s) = mvEp b0 b1 true (takes e s) := by
  unfold takes
  obtain ⟨a, b, c⟩ := tk0_keeps e s
  rw [mv_tk0 e hs, mv_takesB (tk0 e s) hs (by rw [a]; exact h1) h2 (by rw [b]; exact hr) hd, mv_out e hs]
  have e1 : (mvSeg b1 b0 s).ack = mv b0 s.ack := by simp [mvSeg, hs]
  have e2 : seqAdd (mvEp b0 b1 true e).conn.first 1 = mv b0 (seqAdd e.conn.first 1) := mv_add ..
  have e3 : ((mvEp b0 b1 true e).conn.phase = 2 ∧ (mvSeg b1 b0 s).ack ≠ seqAdd (mvEp b0 b1 true e).conn.first 1) ↔ (e.conn.phase = 2 ∧ s.ack ≠ seqAdd e.conn.first 1) := by
    rw [e1, e2]
    have := mv_inj (b := b0) h2 (seqAdd_u e.conn.first 1)
    exact ⟨fun ⟨p, q⟩ => ⟨p, fun r => q (this.2 r)⟩, fun ⟨p, q⟩ => ⟨p, fun r => q (this.1 r)⟩⟩
  by_cases h : e.conn.phase = 2 ∧ s.ack ≠ seqAdd e.conn.first 1
  · rw [if_pos h, if_pos (e3.2 h)]
  · rw [if_neg h, if_neg (fun q => h (e3.1 q))]
theorem bits_bare (f : Int) : hasF (bAndNot .u8 f 1) 16 = hasF f 16 := by
  have key : ∀ x : BitVec 8, (x &&& ~~~(1#8)) &&& 16#8 = x &&& 16#8 := by decide
  have h := key (BitVec.ofInt 8 f)
  unfold hasF bAnd bAndNot
  have hb : IntKind.u8.bits = 8 := rfl
  have e1 : IntKind.u8.wrap ((BitVec.ofInt IntKind.u8.bits f &&& ~~~BitVec.ofInt IntKind.u8.bits 1).toNat : Int) = ((BitVec.ofInt 8 f &&& ~~~(1#8)).toNat : Int) := by
    rw [IntKind.wrap_u8]
    have := (BitVec.ofInt 8 f &&& ~~~(1#8)).isLt
    show ((BitVec.ofInt 8 f &&& ~~~(1#8)).toNat : Int) % 256 = _
    omega
  rw [e1]
  have e2 : BitVec.ofInt IntKind.u8.bits ((BitVec.ofInt 8 f &&& ~~~(1#8)).toNat : Int) = BitVec.ofInt 8 f &&& ~~~(1#8) := by
    show BitVec.ofInt 8 ((BitVec.ofInt 8 f &&& ~~~(1#8)).toNat : Int) = _
    rw [BitVec.ofInt_natCast, BitVec.ofNat_toNat, BitVec.setWidth_eq]
  rw [e2]
  show (IntKind.u8.wrap (((BitVec.ofInt 8 f &&& ~~~(1#8)) &&& (16#8 : BitVec 8)).toNat : Int) != 0) = (IntKind.u8.wrap ((BitVec.ofInt 8 f &&& (16#8 : BitVec 8)).toNat : Int) != 0)
  rw [h]
theorem bare_ack (s : Seg) (hs : hasF s.flags 16 = true) : hasF (bare s).flags 16 = true := by
  have := bits_bare s.flags
  unfold bare
  simp only
  rw [this]; exact hs
theorem mv_bare (s : Seg) (hs : hasF s.flags 16 = true) : bare (mvSeg b1 b0 s) = mvSeg b1 b0 (bare s) := by
  have := bare_ack s hs
  unfold bare at this ⊢
  simp only [mvSeg, this, hs, if_true]
theorem mv_late (e : Ep) {s : Seg} (h1 : U32 e.conn.send.una) (h2 : hasF s.flags 16 = true → U32 s.ack) (hr : RecvOk e.conn.recv) : late (mvEp b0 b1 true e) (mvSeg b1 b0 s) = mvEp b0 b1 true (late e s) := by
  have e1 : lateB (mvEp b0 b1 true e) (mvSeg b1 b0 s) = mvEp b0 b1 true (lateB e s) := by
    unfold lateB
    have e3 : seqIn (mvSeg b1 b0 s).seq (mvEp b0 b1 true e).conn.recv.next 3 = seqIn s.seq e.conn.recv.next 3 := mv_in ..
    rw [e3]
    refine ite3 (mvEp b0 b1 true) Iff.rfl (fun hc => ?_) (fun _ => rfl)
    have hc2 : hasF s.flags 16 = true := hc.2.1
    rw [mv_bare s hc2]
    exact mv_takes e (bare_ack s hc2) h1 (h2 hc2) hr (by simp [bare])
  unfold late
  rw [e1, segLen_mv, mv_ack]
  have e2 : (mvEp b0 b1 true (lateB e s)).out.length = (lateB e s).out.length := List.length_map ..
  rw [e2]
  exact ite3 (mvEp b0 b1 true) Iff.rfl (fun _ => rfl) (fun _ => rfl)
/-! ### dialling -/
theorem mv_isMine (e : Ep) {s : Seg} (h2 : hasF s.flags 16 = true → U32 s.ack) : isMine (mvEp b0 b1 k e) (mvSeg b1 b0 s) = isMine e s := by
  unfold isMine
  show (hasF s.flags 16 && decide ((mvSeg b1 b0 s).ack = seqAdd (mv b0 e.conn.first) 1)) = _
  cases hs : hasF s.flags 16
  · rfl
  · have e1 : (mvSeg b1 b0 s).ack = mv b0 s.ack := by simp [mvSeg, hs]
    rw [e1, mv_add]
    have := mv_inj (b := b0) (h2 hs) (seqAdd_u e.conn.first 1)
    rw [decide_eq_decide.2 this]
theorem mv_dialling (e : Ep) {s : Seg} (hp : e.conn.phase = 1) (h2 : hasF s.flags 16 = true → U32 s.ack) : ∃ k2, (k2 = false → (epDialling e s).conn.phase = 0 ∨ (epDialling e s).conn.phase = 1) ∧ epDialling (mvEp b0 b1 k e) (mvSeg b1 b0 s) = mvEp b0 b1 k2 (epDialling e s) := by
  unfold epDialling
  rw [mv_isMine e h2]
  have ef : (mvSeg b1 b0 s).flags = s.flags := rfl
  rw [ef]
  by_cases c1 : hasF s.flags 4 = true
  · rw [if_pos c1, if_pos c1]
    by_cases c2 : isMine e s = true
    · rw [if_pos c2, if_pos c2]; exact ⟨k, fun _ => .inl rfl, rfl⟩
    · rw [if_neg c2, if_neg c2]; exact ⟨k, fun _ => .inr hp, rfl⟩
  · rw [if_neg c1, if_neg c1]
    by_cases c2 : (hasF s.flags 16 && !isMine e s) = true
    · rw [if_pos c2, if_pos c2]
      simp only [Bool.and_eq_true] at c2
      exact ⟨k, fun _ => .inr hp, mv_out e c2.1⟩
    · rw [if_neg c2, if_neg c2]
      by_cases c3 : (hasF s.flags 2 && isMine e s) = true
      · rw [if_pos c3, if_pos c3]
        simp only [Bool.and_eq_true] at c3
        have hs : hasF s.flags 16 = true := by
          have := c3.2
          unfold isMine at this
          simp only [Bool.and_eq_true] at this
          exact this.1
        exact ⟨true, ⟨nofun, by rw [mv_meet, mv_opened _ hs, mv_ack, mv_push]⟩⟩
      · rw [if_neg c3, if_neg c3]
        by_cases c4 : hasF s.flags 2 = true
        · rw [if_pos c4, if_pos c4]
          refine ⟨true, nofun, ?_⟩
          have e1 : ({ mvEp b0 b1 k e with conn := { (mvEp b0 b1 k e).conn with phase := 2 } } : Ep) = mvEp b0 b1 k { e with conn := { e.conn with phase := 2 } } := rfl
          rw [e1, mv_meet, mv_hello _ (fun _ => rfl)]
        · rw [if_neg c4, if_neg c4]; exact ⟨k, fun _ => .inr hp, rfl⟩
/-- What of a segment's numbers is asked. -/
def SegU (s : Seg) : Prop := U32 s.seq ∧ (hasF s.flags 16 = true → U32 s.ack) ∧ s.data.length ≤ 4096
theorem mv_hear {c : Conn} {s : Seg} {now : Int} (hk : k = false → c.phase = 0 ∨ c.phase = 1) (hs : SegU s) (h1 : U32 c.send.una) (hr : RecvOk c.recv) : ∃ k2, (k2 = false → (hear c s now).conn.phase = 0 ∨ (hear c s now).conn.phase = 1) ∧ hear (mvConn b0 b1 k c) (mvSeg b1 b0 s) now = mvEp b0 b1 k2 (hear c s now) := by
  unfold hear
  have e0 : (⟨mvConn b0 b1 k c, now, []⟩ : Ep) = mvEp b0 b1 k ⟨c, now, []⟩ := rfl
  simp only [e0]
  have ep : (mvConn b0 b1 k c).phase = c.phase := rfl
  have ef : (mvSeg b1 b0 s).flags = s.flags := rfl
  rw [ep, ef]
  by_cases p0 : c.phase = 0
  · rw [if_pos p0, if_pos p0]
    exact ⟨k, fun _ => .inl p0, rfl⟩
  · rw [if_neg p0, if_neg p0]
    by_cases p1 : c.phase = 1
    · rw [if_pos p1, if_pos p1]
      exact mv_dialling _ p1 hs.2.1
    · rw [if_neg p1, if_neg p1]
      have hkt : k = true := by
        cases k
        · rcases hk rfl with h | h
          · exact absurd h p0
          · exact absurd h p1
        · rfl
      subst hkt
      refine ⟨true, nofun, ?_⟩
      have e1 : seqFits (mvSeg b1 b0 s).seq 0 (mvConn b0 b1 true c).recv.next (recvWindow (mvConn b0 b1 true c).recv) = seqFits s.seq 0 c.recv.next (recvWindow c.recv) := mv_fits hs.1 hr.un
      have e2 : seqFits (mvSeg b1 b0 s).seq (segLen (mvSeg b1 b0 s)) (mvConn b0 b1 true c).recv.next (recvWindow (mvConn b0 b1 true c).recv) = seqFits s.seq (segLen s) c.recv.next (recvWindow c.recv) := mv_fits hs.1 hr.un
      rw [e1, e2, mv_broken, mv_ack, mv_late _ h1 hs.2.1 hr]
      exact ite3 (mvEp b0 b1 true) Iff.rfl (fun _ => ite3 (mvEp b0 b1 true) Iff.rfl (fun _ => rfl) (fun _ => rfl)) (fun _ => ite3 (mvEp b0 b1 true) Iff.rfl (fun _ => rfl) (fun _ => ite3 (mvEp b0 b1 true) Iff.rfl (fun _ => rfl) (fun _ => ite3 (mvEp b0 b1 true) Iff.rfl (fun hc => mv_takes _ hc h1 (hs.2.1 hc) hr hs.2.2) (fun _ => rfl))))
/-! ### The other calls -/
theorem mv_at (c : Conn) (now : Int) : epAt (mvConn b0 b1 k c) now = mvEp b0 b1 k (epAt c now) := rfl
theorem mv_write {c : Conn} {d : List Int} {now : Int} (hk : k = false → c.phase = 0 ∨ c.phase = 1) : epWrite (mvConn b0 b1 k c) d now = (mvConn b0 b1 k (epWrite c d now).1, (epWrite c d now).2.1, (epWrite c d now).2.2.1.map (mvSeg b0 b1), (epWrite c d now).2.2.2) := by
  have e1 : epPush { epAt (mvConn b0 b1 k c) now with conn := { mvConn b0 b1 k c with send := (sendWrite (mvConn b0 b1 k c).send d).1 } } = mvEp b0 b1 k (epPush { epAt c now with conn := { c with send := (sendWrite c.send d).1 } }) := by
    have e2 : ({ epAt (mvConn b0 b1 k c) now with conn := { mvConn b0 b1 k c with send := (sendWrite (mvConn b0 b1 k c).send d).1 } } : Ep) = mvEp b0 b1 k { epAt c now with conn := { c with send := (sendWrite c.send d).1 } } := rfl
    rw [e2]
    cases k
    · refine mv_pushOff ?_
      show c.phase ≠ 3
      rcases hk rfl with h | h <;> omega
    · exact mv_push _
  unfold epWrite
  simp only [e1]
  let F : Conn × Int × List Seg × Int → Conn × Int × List Seg × Int := fun r => (mvConn b0 b1 k r.1, r.2.1, r.2.2.1.map (mvSeg b0 b1), r.2.2.2)
  exact ite3 F Iff.rfl (fun _ => rfl) (fun _ => ite3 F Iff.rfl (fun _ => rfl) (fun _ => ite3 F Iff.rfl (fun _ => rfl) (fun _ => rfl)))
theorem mv_readc {c : Conn} {n now : Int} (hk : k = false → c.phase = 0 ∨ c.phase = 1) : epRead (mvConn b0 b1 k c) n now = (mvConn b0 b1 k (epRead c n now).1, (epRead c n now).2.1, (epRead c n now).2.2.1.map (mvSeg b0 b1), (epRead c n now).2.2.2) := by
  obtain ⟨r1, r2, r3⟩ := mvc_recv (b0 := b0) (b1 := b1) (k := k) c
  have e2 : ({ epAt (mvConn b0 b1 k c) now with conn := { mvConn b0 b1 k c with recv := (recvRead (mvConn b0 b1 k c).recv n).1 } } : Ep) = mvEp b0 b1 k { epAt c now with conn := { c with recv := (recvRead c.recv n).1 } } := by
    cases k <;> rfl
  have e3 : (recvRead (mvConn b0 b1 k c).recv n).2 = (recvRead c.recv n).2 := by cases k <;> rfl
  have e4 : (if c.phase = 3 ∧ recvWindow c.recv < 64 then epAck (mvEp b0 b1 k { epAt c now with conn := { c with recv := (recvRead c.recv n).1 } }) else mvEp b0 b1 k { epAt c now with conn := { c with recv := (recvRead c.recv n).1 } }) = mvEp b0 b1 k (if c.phase = 3 ∧ recvWindow c.recv < 64 then epAck { epAt c now with conn := { c with recv := (recvRead c.recv n).1 } } else { epAt c now with conn := { c with recv := (recvRead c.recv n).1 } }) := by
    refine ite3 (mvEp b0 b1 k) Iff.rfl (fun h => ?_) (fun _ => rfl)
    have hkt : k = true := by
      cases k
      · rcases hk rfl with q | q <;> omega
      · rfl
    subst hkt
    exact mv_ack _
  unfold epRead
  simp only [r1, r2, r3, e2, e3]
  have ep : (mvConn b0 b1 k c).phase = c.phase := rfl
  simp only [ep, e4]
  let F : Conn × List Int × List Seg × Int → Conn × List Int × List Seg × Int := fun r => (mvConn b0 b1 k r.1, r.2.1, r.2.2.1.map (mvSeg b0 b1), r.2.2.2)
  exact ite3 F Iff.rfl (fun _ => rfl) (fun _ => ite3 F Iff.rfl (fun _ => rfl) (fun _ => ite3 F Iff.rfl (fun _ => rfl) (fun _ => ite3 F Iff.rfl (fun _ => rfl) (fun _ => ite3 F Iff.rfl (fun _ => rfl) (fun _ => rfl)))))
theorem mv_close {c : Conn} {now : Int} (hk : k = false → c.phase = 0 ∨ c.phase = 1) : epClose (mvConn b0 b1 k c) now = mvEp b0 b1 k (epClose c now) := by
  obtain ⟨r1, r2, r3⟩ := mvc_recv (b0 := b0) (b1 := b1) (k := k) c
  unfold epClose
  rw [r2]
  refine ite3 (mvEp b0 b1 k) Iff.rfl (fun _ => rfl) (fun _ => ite3 (mvEp b0 b1 k) Iff.rfl (fun hc => ?_) (fun _ => rfl))
  have hc2 : (c.phase = 2 ∨ c.phase = 3) ∧ c.send.fin = false := hc
  have hkt : k = true := by
    cases k
    · rcases hk rfl with q | q <;> omega
    · rfl
  subst hkt
  rw [← mv_push]
  rfl
theorem mv_epAgain (e : Ep) (hk : k = false → e.conn.phase = 0 ∨ e.conn.phase = 1) : epAgain (mvEp b0 b1 k e) = mvEp b0 b1 k (epAgain e) := by
  unfold epAgain
  have e3 : (mvEp b0 b1 k e).conn.phase = e.conn.phase := rfl
  rw [e3]
  by_cases h3 : e.conn.phase = 3
  · have hkt : k = true := by
      cases k
      · rcases hk rfl with q | q <;> omega
      · rfl
    subst hkt
    have hn : ¬ (e.conn.phase ≠ 3) := fun q => q h3
    rw [if_neg hn, if_neg hn]
    obtain ⟨a1, a2⟩ := mv_again (b := b0) (q := e.conn.send) (m := e.conn.mss)
    have e4 : (mvEp b0 b1 true e).conn.send = mvSend b0 e.conn.send := rfl
    have e5 : (mvEp b0 b1 true e).conn.mss = e.conn.mss := rfl
    rw [e4, e5, a1]
    by_cases h4 : (sendAgain e.conn.send e.conn.mss).2.2 = true
    · rw [if_pos h4, if_pos h4, a2 h4]
      exact mv_tell e _ (.inl rfl)
    · rw [if_neg h4, if_neg h4]
      rfl
  · rw [if_pos h3, if_pos h3]
    refine mv_hello e (fun hp => ?_)
    cases k
    · rcases hk rfl with q | q <;> omega
    · rfl
theorem mv_tick {c : Conn} {now : Int} (hk : k = false → c.phase = 0 ∨ c.phase = 1) : epTick (mvConn b0 b1 k c) now = mvEp b0 b1 k (epTick c now) := by
  unfold epTick
  refine ite3 (mvEp b0 b1 k) Iff.rfl (fun _ => rfl) (fun _ => ite3 (mvEp b0 b1 k) Iff.rfl (fun _ => rfl) (fun _ => ite3 (mvEp b0 b1 k) Iff.rfl (fun _ => rfl) (fun _ => ?_)))
  have hp : (epArm { epAt c now with conn := { c with tries := IntKind.i64.wrap (c.tries + 1), clock := rtoDouble c.clock, timing := false } }).conn.phase = c.phase := rfl
  refine Eq.trans (congrArg epAgain (?_ : _ = mvEp b0 b1 k (epArm { epAt c now with conn := { c with tries := IntKind.i64.wrap (c.tries + 1), clock := rtoDouble c.clock, timing := false } }))) (mv_epAgain _ (by rw [hp]; exact hk))
  rfl
theorem mv_dial (x y : Addr) (f now : Int) : (epDial x y (mv b0 f) now) = mvEp b0 b1 false (epDial x y f now) := by
  unfold epDial
  have e1 : epBegin 1 x y (mv b0 f) now = mvEp b0 b1 false (epBegin 1 x y f now) := by
    unfold epBegin
    simp only [mv_add]
    rfl
  rw [e1, mv_hello _ (fun h => by have h2 : (1 : Int) = 2 := h; omega)]
theorem mv_answer (x y : Addr) (f now : Int) (s : Seg) : (epAnswer x y (mvSeg b1 b0 s) (mv b0 f) now) = mvEp b0 b1 true (epAnswer x y s f now) := by
  unfold epAnswer
  have e1 : epBegin 2 x y (mv b0 f) now = mvEp b0 b1 false (epBegin 2 x y f now) := by
    unfold epBegin
    simp only [mv_add]
    rfl
  rw [e1, mv_meet, mv_hello _ (fun _ => rfl)]
end
theorem mv_name (b0 b1 : Int) (k : Bool) (c : Conn) : stName (mvConn b0 b1 k c) = stName c := by
  cases k <;> rfl
end Caw

/-! Numbers moved by as much: two ends. -/
set_option linter.unusedVariables false
namespace Caw
open Go
/-- An end, and the same with its numbers moved. -/
def MvC (b0 b1 : Int) (c d : Conn) : Prop := ∃ k : Bool, (k = false → c.phase = 0 ∨ c.phase = 1) ∧ d = mvConn b0 b1 k c
/-- Two talks, alike but for their numbers. -/
structure MvT (b0 b1 : Int) (t u : Talk) : Prop where
  c0 : MvC b0 b1 t.c0 u.c0
  c1 : t.is1 = true → MvC b1 b0 t.c1 u.c1
  z1 : t.is1 = false → u.c1 = t.c1
  i0 : u.is0 = t.is0
  i1 : u.is1 = t.is1
  f0 : u.first0 = mv b0 t.first0
  f1 : u.first1 = mv b1 t.first1
  y0 : u.way0 = t.way0.map (mvSeg b1 b0)
  y1 : u.way1 = t.way1.map (mvSeg b0 b1)
  w0 : u.written0 = t.written0
  w1 : u.written1 = t.written1
  r0 : u.read0 = t.read0
  r1 : u.read1 = t.read1
  now : u.now = t.now
theorem sends0_f (t : Talk) (l : List Seg) : (sends 0 t l).c0 = t.c0 ∧ (sends 0 t l).c1 = t.c1 ∧ (sends 0 t l).is0 = t.is0 ∧ (sends 0 t l).is1 = t.is1 ∧ (sends 0 t l).first0 = t.first0 ∧ (sends 0 t l).first1 = t.first1 ∧ (sends 0 t l).way0 = t.way0 ∧ (sends 0 t l).way1 = t.way1 ++ l ∧ (sends 0 t l).written0 = t.written0 ∧ (sends 0 t l).written1 = t.written1 ∧ (sends 0 t l).read0 = t.read0 ∧ (sends 0 t l).read1 = t.read1 ∧ (sends 0 t l).now = t.now := by
  rw [sends0_eq]
  exact ⟨rfl, rfl, rfl, rfl, rfl, rfl, rfl, rfl, rfl, rfl, rfl, rfl, rfl⟩
theorem sends1_f (t : Talk) (l : List Seg) : (sends 1 t l).c0 = t.c0 ∧ (sends 1 t l).c1 = t.c1 ∧ (sends 1 t l).is0 = t.is0 ∧ (sends 1 t l).is1 = t.is1 ∧ (sends 1 t l).first0 = t.first0 ∧ (sends 1 t l).first1 = t.first1 ∧ (sends 1 t l).way0 = t.way0 ++ l ∧ (sends 1 t l).way1 = t.way1 ∧ (sends 1 t l).written0 = t.written0 ∧ (sends 1 t l).written1 = t.written1 ∧ (sends 1 t l).read0 = t.read0 ∧ (sends 1 t l).read1 = t.read1 ∧ (sends 1 t l).now = t.now := by
  rw [sends1_eq]
  exact ⟨rfl, rfl, rfl, rfl, rfl, rfl, rfl, rfl, rfl, rfl, rfl, rfl, rfl⟩
section
variable {b0 b1 : Int} {t u : Talk}
theorem MvT.sends0 {l m : List Seg} (h : MvT b0 b1 t u) (hm : m = l.map (mvSeg b0 b1)) : MvT b0 b1 (sends 0 t l) (sends 0 u m) := by
  obtain ⟨a1, a2, a3, a4, a5, a6, a7, a8, a9, a10, a11, a12, a13⟩ := sends0_f t l
  obtain ⟨e1, e2, e3, e4, e5, e6, e7, e8, e9, e10, e11, e12, e13⟩ := sends0_f u m
  refine ⟨by rw [a1, e1]; exact h.c0, by rw [a4, a2, e2]; exact h.c1, by rw [a4, a2, e2]; exact h.z1, by rw [a3, e3]; exact h.i0, by rw [a4, e4]; exact h.i1, by rw [a5, e5]; exact h.f0, by rw [a6, e6]; exact h.f1, by rw [a7, e7]; exact h.y0, by rw [a8, e8, hm, h.y1, List.map_append], by rw [a9, e9]; exact h.w0, by rw [a10, e10]; exact h.w1, by rw [a11, e11]; exact h.r0, by rw [a12, e12]; exact h.r1, by rw [a13, e13]; exact h.now⟩
theorem MvT.sends1 {l m : List Seg} (h : MvT b0 b1 t u) (hm : m = l.map (mvSeg b1 b0)) : MvT b0 b1 (sends 1 t l) (sends 1 u m) := by
  obtain ⟨a1, a2, a3, a4, a5, a6, a7, a8, a9, a10, a11, a12, a13⟩ := sends1_f t l
  obtain ⟨e1, e2, e3, e4, e5, e6, e7, e8, e9, e10, e11, e12, e13⟩ := sends1_f u m
  refine ⟨by rw [a1, e1]; exact h.c0, by rw [a4, a2, e2]; exact h.c1, by rw [a4, a2, e2]; exact h.z1, by rw [a3, e3]; exact h.i0, by rw [a4, e4]; exact h.i1, by rw [a5, e5]; exact h.f0, by rw [a6, e6]; exact h.f1, by rw [a7, e7, hm, h.y0, List.map_append], by rw [a8, e8]; exact h.y1, by rw [a9, e9]; exact h.w0, by rw [a10, e10]; exact h.w1, by rw [a11, e11]; exact h.r0, by rw [a12, e12]; exact h.r1, by rw [a13, e13]; exact h.now⟩
theorem MvT.put0 {c d : Conn} (h : MvT b0 b1 t u) (hc : MvC b0 b1 c d) : MvT b0 b1 { t with c0 := c } { u with c0 := d } :=
  ⟨hc, h.c1, h.z1, h.i0, h.i1, h.f0, h.f1, h.y0, h.y1, h.w0, h.w1, h.r0, h.r1, h.now⟩
theorem MvT.put1 {c d : Conn} (h : MvT b0 b1 t u) (hi : t.is1 = true) (hc : MvC b1 b0 c d) : MvT b0 b1 { t with c1 := c } { u with c1 := d } :=
  ⟨h.c0, fun _ => hc, fun h0 => absurd (hi.symm.trans h0) (by decide), h.i0, h.i1, h.f0, h.f1, h.y0, h.y1, h.w0, h.w1, h.r0, h.r1, h.now⟩
/-- What a segment that is under way has for numbers. -/
theorem SegIn.nums {s o : Str} {x : Seg} (hs : StrOk s) (h : SegIn s o x) : SegU x := by
  refine ⟨?_, fun ha => ?_, by have := h.len; omega⟩
  · cases h2 : hasF x.flags 2
    · obtain ⟨k, hk⟩ := h.dat h2
      rw [hk.seq]; exact num_u _ _
    · rw [(h.syn h2).1]; exact hs.u
  · obtain ⟨-, m, hm, -⟩ := h.ack ha
    rw [hm]; exact num_u _ _
theorem EndIn.una {s o : Str} {c : Conn} {rd : List UInt8} (h : EndIn s o c rd) : U32 c.send.una := by
  obtain ⟨a, ha, -⟩ := h.snd
  rw [ha.una]; exact num_u _ _
theorem comes_0 (t : Talk) (x : Seg) : comes t 0 x = sends 0 { t with c0 := (hear t.c0 x t.now).conn } (hear t.c0 x t.now).out := by
  have q : ¬ ((0 : Int) = 1 ∧ t.is1 = false) := fun h => absurd h.1 (by decide)
  unfold comes
  rw [if_neg q, if_pos rfl]
theorem comes_1 (t : Talk) (x : Seg) (hi : t.is1 = true) : comes t 1 x = sends 1 { t with c1 := (hear t.c1 x t.now).conn } (hear t.c1 x t.now).out := by
  have q : ¬ ((1 : Int) = 1 ∧ t.is1 = false) := fun h => absurd (hi.symm.trans h.2) (by decide)
  have q2 : ¬ (1 : Int) = 0 := by decide
  unfold comes
  rw [if_neg q, if_neg q2]
theorem comes_2 (t : Talk) (x : Seg) (hi : t.is1 = false) : comes t 1 x = if x.flags = 2 then sends 1 { t with c1 := (epAnswer addrY addrX x t.first1 t.now).conn, is1 := true } (epAnswer addrY addrX x t.first1 t.now).out else t := by
  unfold comes
  rw [if_pos ⟨rfl, hi⟩]
theorem comes_mv0 {s0 s1 : Str} {k : Nat} {x : Seg} (hok : TalkOk k t) (hin : TalkIn t s0 s1) (hx : SegIn s1 s0 x) (h : MvT b0 b1 t u) :
    MvT b0 b1 (comes t 0 x) (comes u 0 (mvSeg b1 b0 x)) := by
  rw [comes_0, comes_0, h.now]
  obtain ⟨k0, hk, hd⟩ := h.c0
  obtain ⟨k2, g1, g2⟩ := mv_hear (b0 := b0) (b1 := b1) (now := t.now) hk (hx.nums hin.so1) hin.e0.una hok.c0.recv
  rw [hd, g2]
  exact MvT.sends0 (MvT.mk ⟨k2, g1, rfl⟩ h.c1 h.z1 h.i0 h.i1 h.f0 h.f1 h.y0 h.y1 h.w0 h.w1 h.r0 h.r1 (by first | exact h.now | rfl)) rfl
theorem comes_mv1 {s0 s1 : Str} {k : Nat} {x : Seg} (hok : TalkOk k t) (hin : TalkIn t s0 s1) (hx : SegIn s0 s1 x) (h : MvT b0 b1 t u) :
    MvT b0 b1 (comes t 1 x) (comes u 1 (mvSeg b0 b1 x)) := by
  cases hi : t.is1 with
  | false =>
    rw [comes_2 t x hi, comes_2 u _ (h.i1.trans hi)]
    have e1 : (mvSeg b0 b1 x).flags = x.flags := rfl
    rw [e1]
    by_cases hf : x.flags = 2
    · rw [if_pos hf, if_pos hf, h.f1, h.now, mv_answer]
      exact MvT.sends1 (MvT.mk h.c0 (fun _ => ⟨true, nofun, rfl⟩) (fun q => absurd (show true = false from q) (by decide)) h.i0 rfl h.f0 (by first | exact h.f1 | rfl) h.y0 h.y1 h.w0 h.w1 h.r0 h.r1 (by first | exact h.now | rfl)) rfl
    · rw [if_neg hf, if_neg hf]
      exact h
  | true =>
    rw [comes_1 t x hi, comes_1 u _ (h.i1.trans hi), h.now]
    obtain ⟨k0, hk, hd⟩ := h.c1 hi
    obtain ⟨k2, g1, g2⟩ := mv_hear (b0 := b1) (b1 := b0) (now := t.now) hk (hx.nums hin.so0) (hin.e1 hi).una (hok.c1 hi).recv
    rw [hd, g2]
    exact MvT.sends1 (MvT.mk h.c0 (fun _ => ⟨k2, g1, rfl⟩) (fun q => absurd (hi.symm.trans q) (by decide)) h.i0 h.i1 h.f0 h.f1 h.y0 h.y1 h.w0 h.w1 h.r0 h.r1 (by first | exact h.now | rfl)) rfl
/-! The other calls -/
theorem write_ph (c : Conn) (d : List Int) (now : Int) : c.phase = 0 ∨ c.phase = 1 → (epWrite c d now).1.phase = 0 ∨ (epWrite c d now).1.phase = 1 := by
  intro h
  unfold epWrite
  split
  · exact h
  · split
    · exact h
    · split
      · exact h
      · show (epPush _).conn.phase = 0 ∨ (epPush _).conn.phase = 1
        rw [push_else (by show c.phase ≠ 3; omega)]
        exact h
theorem read_ph (c : Conn) (n now : Int) : c.phase = 0 ∨ c.phase = 1 → (epRead c n now).1.phase = 0 ∨ (epRead c n now).1.phase = 1 := by
  intro h
  unfold epRead
  split
  · exact h
  · split
    · show (if _ then _ else _ : Ep).conn.phase = 0 ∨ (if _ then _ else _ : Ep).conn.phase = 1
      split <;> exact h
    · split
      · exact h
      · split
        · exact h
        · split <;> exact h
theorem close_ph (c : Conn) (now : Int) : c.phase = 0 ∨ c.phase = 1 → (epClose c now).conn.phase = 0 ∨ (epClose c now).conn.phase = 1 := by
  intro h
  unfold epClose
  show (if _ then _ else _ : Ep).conn.phase = 0 ∨ (if _ then _ else _ : Ep).conn.phase = 1
  split
  · exact .inl rfl
  · split
    · rename_i hc; omega
    · exact h
theorem tick_ph (c : Conn) (now : Int) : c.phase = 0 ∨ c.phase = 1 → (epTick c now).conn.phase = 0 ∨ (epTick c now).conn.phase = 1 := by
  intro h
  unfold epTick
  show (if _ then _ else _ : Ep).conn.phase = 0 ∨ (if _ then _ else _ : Ep).conn.phase = 1
  split
  · exact .inl rfl
  · split
    · exact h
    · split
      · exact .inl rfl
      · unfold epAgain
        rw [if_pos (by show c.phase ≠ 3; omega)]
        exact h
theorem writes_mv {side : Int} {d : List Int} (hside : side = 0 ∨ side = 1) (h : MvT b0 b1 t u) : MvT b0 b1 (writes t side d) (writes u side d) := by
  unfold writes
  rw [h.i0, h.i1]
  rcases hside with rfl | rfl
  · rw [if_pos rfl, if_pos rfl]
    split
    · exact h
    · obtain ⟨k0, hk, hd⟩ := h.c0
      have e := mv_write (b0 := b0) (b1 := b1) (d := d) (now := t.now) hk
      unfold write0
      rw [h.now, hd, e, h.w0]
      refine MvT.sends0 ?_ rfl
      exact ⟨⟨k0, fun q => write_ph _ _ _ (hk q), rfl⟩, h.c1, h.z1, h.i0, h.i1, h.f0, h.f1, h.y0, h.y1, rfl, h.w1, h.r0, h.r1, (by first | exact h.now | rfl)⟩
  · have n0 : ¬ (1 : Int) = 0 := by omega
    rw [if_neg n0, if_neg n0]
    cases hi : t.is1 with
    | false => rw [if_pos rfl, if_pos rfl]; exact h
    | true =>
      rw [if_neg (by simp), if_neg (by simp)]
      obtain ⟨k0, hk, hd⟩ := h.c1 hi
      have e := mv_write (b0 := b1) (b1 := b0) (d := d) (now := t.now) hk
      unfold write1
      rw [h.now, hd, e, h.w1]
      refine MvT.sends1 ?_ rfl
      exact ⟨h.c0, fun _ => ⟨k0, fun q => write_ph _ _ _ (hk q), rfl⟩, fun q => absurd (hi.symm.trans q) (by decide), h.i0, h.i1, h.f0, h.f1, h.y0, h.y1, h.w0, rfl, h.r0, h.r1, (by first | exact h.now | rfl)⟩
theorem closes_mv {side : Int} (hside : side = 0 ∨ side = 1) (h : MvT b0 b1 t u) : MvT b0 b1 (closes t side) (closes u side) := by
  unfold closes
  rw [h.i0, h.i1]
  rcases hside with rfl | rfl
  · rw [if_pos rfl, if_pos rfl]
    obtain ⟨k0, hk, hd⟩ := h.c0
    have e := mv_close (b0 := b0) (b1 := b1) (now := t.now) hk
    have ep : u.c0.phase = t.c0.phase := by rw [hd]; rfl
    rw [ep]
    split
    · unfold close0
      rw [h.now, hd, e]
      refine MvT.sends0 ?_ rfl
      exact ⟨⟨k0, fun q => close_ph _ _ (hk q), rfl⟩, h.c1, h.z1, h.i0, h.i1, h.f0, h.f1, h.y0, h.y1, h.w0, h.w1, h.r0, h.r1, (by first | exact h.now | rfl)⟩
    · exact h
  · have n0 : ¬ (1 : Int) = 0 := by omega
    rw [if_neg n0, if_neg n0]
    cases hi : t.is1 with
    | false => rw [if_neg (by simp), if_neg (by simp)]; exact h
    | true =>
      obtain ⟨k0, hk, hd⟩ := h.c1 hi
      have e := mv_close (b0 := b1) (b1 := b0) (now := t.now) hk
      have ep : u.c1.phase = t.c1.phase := by rw [hd]; rfl
      rw [ep]
      split
      · unfold close1
        rw [h.now, hd, e]
        refine MvT.sends1 ?_ rfl
        exact ⟨h.c0, fun _ => ⟨k0, fun q => close_ph _ _ (hk q), rfl⟩, fun q => absurd (hi.symm.trans q) (by decide), h.i0, h.i1, h.f0, h.f1, h.y0, h.y1, h.w0, h.w1, h.r0, h.r1, (by first | exact h.now | rfl)⟩
      · exact h
theorem read0E_f (t : Talk) : ∃ w, read0E t = { t with wrong := w } := by
  unfold read0E; split
  · exact ⟨true, rfl⟩
  · exact ⟨t.wrong, rfl⟩
theorem read1E_f (t : Talk) : ∃ w, read1E t = { t with wrong := w } := by
  unfold read1E; split
  · exact ⟨true, rfl⟩
  · exact ⟨t.wrong, rfl⟩
theorem MvT.wr (h : MvT b0 b1 t u) (a b : Bool) : MvT b0 b1 { t with wrong := a } { u with wrong := b } :=
  ⟨h.c0, h.c1, h.z1, h.i0, h.i1, h.f0, h.f1, h.y0, h.y1, h.w0, h.w1, h.r0, h.r1, (by first | exact h.now | rfl)⟩
theorem reads_mv {side n : Int} (hside : side = 0 ∨ side = 1) (hi : side = 1 → t.is1 = true) (h : MvT b0 b1 t u) : MvT b0 b1 (reads t side n) (reads u side n) := by
  rcases hside with rfl | rfl
  · rw [reads_0, reads_0]
    obtain ⟨x, hx⟩ := read0E_f (sends 0 (read0T t n) (epRead t.c0 n t.now).2.2.1)
    obtain ⟨y, hy⟩ := read0E_f (sends 0 (read0T u n) (epRead u.c0 n u.now).2.2.1)
    rw [hx, hy]
    refine MvT.wr ?_ x y
    obtain ⟨k0, hk, hd⟩ := h.c0
    have e := mv_readc (b0 := b0) (b1 := b1) (n := n) (now := t.now) hk
    unfold read0T
    rw [h.now, hd, e, h.r0]
    refine MvT.sends0 ?_ rfl
    exact ⟨⟨k0, fun q => read_ph _ _ _ (hk q), rfl⟩, h.c1, h.z1, h.i0, h.i1, h.f0, h.f1, h.y0, h.y1, h.w0, h.w1, rfl, h.r1, (by first | exact h.now | rfl)⟩
  · have hi := hi rfl
    rw [reads_1, reads_1]
    obtain ⟨x, hx⟩ := read1E_f (sends 1 (read1T t n) (epRead t.c1 n t.now).2.2.1)
    obtain ⟨y, hy⟩ := read1E_f (sends 1 (read1T u n) (epRead u.c1 n u.now).2.2.1)
    rw [hx, hy]
    refine MvT.wr ?_ x y
    obtain ⟨k0, hk, hd⟩ := h.c1 hi
    have e := mv_readc (b0 := b1) (b1 := b0) (n := n) (now := t.now) hk
    unfold read1T
    rw [h.now, hd, e, h.r1]
    refine MvT.sends1 ?_ rfl
    exact ⟨h.c0, fun _ => ⟨k0, fun q => read_ph _ _ _ (hk q), rfl⟩, fun q => absurd (hi.symm.trans q) (by decide), h.i0, h.i1, h.f0, h.f1, h.y0, h.y1, h.w0, h.w1, h.r0, rfl, (by first | exact h.now | rfl)⟩
theorem later_mv {n : Int} (h : MvT b0 b1 t u) : MvT b0 b1 (later t n) (later u n) := by
  refine ⟨h.c0, h.c1, h.z1, h.i0, h.i1, h.f0, h.f1, h.y0, h.y1, h.w0, h.w1, h.r0, h.r1, ?_⟩
  unfold later
  simp only [h.now]
theorem tick0_mv (h : MvT b0 b1 t u) : MvT b0 b1 (tick0 t) (tick0 u) := by
  unfold tick0
  rw [h.i0]
  obtain ⟨k0, hk, hd⟩ := h.c0
  have e := mv_tick (b0 := b0) (b1 := b1) (now := t.now) hk
  rw [h.now, hd, e]
  split
  · refine MvT.sends0 ?_ rfl
    exact MvT.mk ⟨k0, fun q => tick_ph _ _ (hk q), rfl⟩ h.c1 h.z1 (by first | exact h.i0 | rfl) h.i1 h.f0 h.f1 h.y0 h.y1 h.w0 h.w1 h.r0 h.r1 (by first | exact h.now | rfl)
  · exact h
theorem tick1_mv (h : MvT b0 b1 t u) : MvT b0 b1 (tick1 t) (tick1 u) := by
  unfold tick1
  rw [h.i1]
  cases hi : t.is1 with
  | false => rw [if_neg (by simp), if_neg (by simp)]; exact h
  | true =>
    obtain ⟨k0, hk, hd⟩ := h.c1 hi
    have e := mv_tick (b0 := b1) (b1 := b0) (now := t.now) hk
    rw [h.now, hd, e, if_pos rfl, if_pos rfl]
    refine MvT.sends1 ?_ rfl
    exact MvT.mk h.c0 (fun _ => ⟨k0, fun q => tick_ph _ _ (hk q), rfl⟩) (fun q => absurd (show true = false from q) (by decide)) h.i0 (by first | exact h.i1 | exact hi.symm | rfl) h.f0 h.f1 h.y0 h.y1 h.w0 h.w1 h.r0 h.r1 (by first | exact h.now | rfl)
theorem drop0_mv (h : MvT b0 b1 t u) (i : Nat) : MvT b0 b1 { t with way0 := without t.way0 i } { u with way0 := without u.way0 i } := by
  refine ⟨h.c0, h.c1, h.z1, h.i0, h.i1, h.f0, h.f1, ?_, h.y1, h.w0, h.w1, h.r0, h.r1, h.now⟩
  simp only [h.y0, without, List.map_append, List.map_take, List.map_drop]
theorem drop1_mv (h : MvT b0 b1 t u) (i : Nat) : MvT b0 b1 { t with way1 := without t.way1 i } { u with way1 := without u.way1 i } := by
  refine ⟨h.c0, h.c1, h.z1, h.i0, h.i1, h.f0, h.f1, h.y0, ?_, h.w0, h.w1, h.r0, h.r1, h.now⟩
  simp only [h.y1, without, List.map_append, List.map_take, List.map_drop]
theorem way0_mv {s0 s1 : Str} {k : Nat} {s : Stp} (hok : TalkOk k t) (hin : TalkIn t s0 s1) (h : MvT b0 b1 t u) : MvT b0 b1 (way0T t s) (way0T u s) := by
  unfold way0T
  have hl : u.way0.length = t.way0.length := by rw [h.y0, List.length_map]
  rw [hl]
  have hg : u.way0[(pickI s t.way0.length).toNat]? = (t.way0[(pickI s t.way0.length).toNat]?).map (mvSeg b1 b0) := by rw [h.y0, List.getElem?_map]
  rw [hg]
  have hm : ∀ x, t.way0[(pickI s t.way0.length).toNat]? = some x → x ∈ t.way0 := fun x hx => List.mem_of_getElem? hx
  revert hm
  generalize t.way0[(pickI s t.way0.length).toNat]? = o
  intro hm
  cases o with
  | none => exact h
  | some x =>
    have hx : SegIn s1 s0 x := hin.g0 x (hm x rfl)
    simp only [Option.map_some]
    split
    · exact comes_mv0 hok hin hx h
    · split
      · exact drop0_mv h _
      · exact comes_mv0 (k := k) ⟨hok.i0, hok.c0, hok.c1, hok.z1, hok.t0, hok.t1, fun y hy => hok.w0 y (without_mem hy), hok.w1, by have := without_len t.way0 (pickI s t.way0.length).toNat; have := hok.l0; simp only; omega, hok.l1, hok.sz⟩ (drop0 hin _) hx (drop0_mv h _)
theorem way1_mv {s0 s1 : Str} {k : Nat} {s : Stp} (hok : TalkOk k t) (hin : TalkIn t s0 s1) (h : MvT b0 b1 t u) : MvT b0 b1 (way1T t s) (way1T u s) := by
  unfold way1T
  have hl : u.way1.length = t.way1.length := by rw [h.y1, List.length_map]
  rw [hl]
  have hg : u.way1[(pickI s t.way1.length).toNat]? = (t.way1[(pickI s t.way1.length).toNat]?).map (mvSeg b0 b1) := by rw [h.y1, List.getElem?_map]
  rw [hg]
  have hm : ∀ x, t.way1[(pickI s t.way1.length).toNat]? = some x → x ∈ t.way1 := fun x hx => List.mem_of_getElem? hx
  revert hm
  generalize t.way1[(pickI s t.way1.length).toNat]? = o
  intro hm
  cases o with
  | none => exact h
  | some x =>
    have hx : SegIn s0 s1 x := hin.g1 x (hm x rfl)
    simp only [Option.map_some]
    split
    · exact comes_mv1 hok hin hx h
    · split
      · exact drop1_mv h _
      · exact comes_mv1 (k := k) ⟨hok.i0, hok.c0, hok.c1, hok.z1, hok.t0, hok.t1, hok.w0, fun y hy => hok.w1 y (without_mem hy), hok.l0, by have := without_len t.way1 (pickI s t.way1.length).toNat; have := hok.l1; simp only; omega, hok.sz⟩ (drop1 hin _) hx (drop1_mv h _)
theorem step_mv {k : Nat} {s : Stp} (hok : TalkOk k t) (ht : TrueT t) (h : MvT b0 b1 t u) : MvT b0 b1 (talkStep t s) (talkStep u s) := by
  obtain ⟨s0, s1, hin⟩ := ht
  unfold talkStep
  rw [h.i0, h.i1]
  split
  · split
    · exact way0_mv hok hin h
    · exact way1_mv hok hin h
  · split
    · exact tick1_mv (tick0_mv (later_mv h))
    · split
      · split
        · split
          · exact reads_mv (.inl rfl) (fun q => by omega) h
          · exact h
        · split
          · rename_i hi
            exact reads_mv (.inr rfl) (fun _ => hi) h
          · exact h
      · split
        · exact closes_mv (side_range s) h
        · exact writes_mv (side_range s) h
theorem begins_mv (b0 b1 f0 f1 : Int) : MvT b0 b1 (begins f0 f1) (begins (mv b0 f0) (mv b1 f1)) := by
  unfold begins
  rw [mv_dial (b0 := b0) (b1 := b1)]
  refine MvT.sends0 ?_ rfl
  exact ⟨⟨false, fun _ => .inr rfl, rfl⟩, (fun q => absurd (show false = true from q) (by decide)), fun _ => rfl, rfl, rfl, rfl, rfl, rfl, rfl, rfl, rfl, rfl, rfl, rfl⟩
end
end Caw
namespace Caw
theorem mv_state {b0 b1 : Int} {t u : Talk} (h : MvT b0 b1 t u) : stName u.c0 = stName t.c0 ∧ stName u.c1 = stName t.c1 := by
  obtain ⟨k, -, hk⟩ := h.c0
  refine ⟨by rw [hk, mv_name], ?_⟩
  cases hi : t.is1 with
  | false => rw [h.z1 hi]
  | true =>
    obtain ⟨k2, -, hk2⟩ := h.c1 hi
    rw [hk2, mv_name]
theorem mv_due {b0 b1 : Int} {t u : Talk} (h : MvT b0 b1 t u) : u.c0.due = t.c0.due ∧ u.c1.due = t.c1.due := by
  obtain ⟨k, -, hk⟩ := h.c0
  refine ⟨by rw [hk]; rfl, ?_⟩
  cases hi : t.is1 with
  | false => rw [h.z1 hi]
  | true =>
    obtain ⟨k2, -, hk2⟩ := h.c1 hi
    rw [hk2]; rfl
end Caw

