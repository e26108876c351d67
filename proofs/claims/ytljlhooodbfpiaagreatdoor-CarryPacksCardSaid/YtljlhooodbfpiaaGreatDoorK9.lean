import Derived.Test.YtljlhooodbfpiaaGreatDoorK6
set_option linter.all false
/-! Printed by gencells.py: the structures of the tcb layer. -/
namespace Caw
open Go Go.RowKit

@[ext] structure Addr where
  a : Int
  b : Int
  c : Int
  d : Int
  port : Int
deriving Inhabited
def addrCells (x : Addr) : List AV := [.v (.int .u8 x.a), .v (.int .u8 x.b), .v (.int .u8 x.c), .v (.int .u8 x.d), .v (.int .u16 x.port)]
noncomputable def pAddr : List AV → Option (Addr × List AV) := fun cs => (pI .u8 cs).bind fun (a0, cs) => (pI .u8 cs).bind fun (a1, cs) => (pI .u8 cs).bind fun (a2, cs) => (pI .u8 cs).bind fun (a3, cs) => (pI .u16 cs).bind fun (a4, cs) => some (⟨a0, a1, a2, a3, a4⟩, cs)
theorem pAddr_snd : Snd CoP pAddr (fun x => addrCells x) := by
  intro cs x r h0
  unfold pAddr at h0
  obtain ⟨a0, r0, q0, h1, e0, c0⟩ := Snd.step (pI_snd .u8) h0
  obtain ⟨a1, r1, q1, h2, e1, c1⟩ := Snd.step (pI_snd .u8) h1
  obtain ⟨a2, r2, q2, h3, e2, c2⟩ := Snd.step (pI_snd .u8) h2
  obtain ⟨a3, r3, q3, h4, e3, c3⟩ := Snd.step (pI_snd .u8) h3
  obtain ⟨a4, r4, q4, h5, e4, c4⟩ := Snd.step (pI_snd .u16) h4
  cases h5
  subst e4 e3 e2 e1 e0
  exact ⟨(q0 ++ (q1 ++ (q2 ++ (q3 ++ q4)))), by simp only [List.append_assoc], (c0.app (c1.app (c2.app (c3.app c4))))⟩
@[simp] theorem pAddr_app (x : Addr) (r : List AV) : pAddr (addrCells x ++ r) = some (x, r) := by simp [pAddr, addrCells]
@[simp] theorem pAddr_all (x : Addr) : pAddr (addrCells x) = some (x, []) := by have := pAddr_app x []; rwa [List.append_nil] at this
@[simp] theorem addrCells_len (x : Addr) : (addrCells x).length = 5 := rfl
def encAddr (x : Addr) : AV := .v (.agg #[.int .u8 x.a, .int .u8 x.b, .int .u8 x.c, .int .u8 x.d, .int .u16 x.port])
@[simp high] theorem mkAgg_addr (x : Addr) : mkAgg (addrCells x) = encAddr x := rfl
@[simp] theorem flat_encAddr (x : Addr) : flat (encAddr x) = addrCells x := by simp [encAddr, flat, addrCells]
@[simp] theorem whole_encAddr (x : Addr) : whole pAddr (encAddr x) = some x := by simp [encAddr, pAddr]
@[simp high] theorem encAddr_kT (x : Addr) (s : St) (M : List Nm) : kT s M (encAddr x) = encAddr x := rfl
@[simp high] theorem encAddr_kA (x : Addr) (s : St) (M : List Nm) : kA s M (encAddr x) = encAddr x := rfl
@[simp high] theorem encAddr_kL (x : Addr) (s : St) (M : List Nm) : kL s M (encAddr x) = encAddr x := rfl
@[simp high] theorem encAddr_leafP (x : Addr)  : leafP (encAddr x) = true := rfl
@[simp high] theorem encAddr_isPure (x : Addr)  : isPure (encAddr x) = true := rfl
@[simp high] theorem encAddr_leafH (x : Addr)  : leafH (encAddr x) = true := rfl
@[simp high] theorem encAddr_isHand (x : Addr)  : isHand (encAddr x) = true := rfl
@[simp high] theorem encAddr_live (x : Addr)  : live (encAddr x) = true := rfl
@[simp high] theorem encAddr_isRes (x : Addr)  : isRes (encAddr x) = true := rfl
@[simp high] theorem encAddr_isRef (x : Addr)  : isRef (encAddr x) = false := rfl
@[simp high] theorem encAddr_strip (x : Addr)  : strip (encAddr x) = encAddr x := rfl
@[simp high] theorem encAddr_stripL (x : Addr)  : stripL (encAddr x) = encAddr x := rfl
@[simp high] theorem encAddr_stripA (x : Addr)  : stripA (encAddr x) = encAddr x := rfl
@[simp high] theorem encAddr_flagL (x : Addr) (s : St) : flagL s (encAddr x) = encAddr x := rfl
@[simp high] theorem encAddr_nameL (x : Addr) (g : Nm → Nat) (m : Nm) : nameL g m (encAddr x) = encAddr x := rfl
@[simp high] theorem encAddr_nameX (x : Addr) (g : Nm → Nat) (d k : Nat) : nameX g d k (encAddr x) = encAddr x := rfl
@[simp high] theorem encAddr_nameR (x : Addr) (g : Nm → Nat) (d : Nat) : nameR g d (encAddr x) = encAddr x := rfl
@[simp high] theorem encAddr_toV (x : Addr)  : toV (encAddr x) = some (.agg #[.int .u8 x.a, .int .u8 x.b, .int .u8 x.c, .int .u8 x.d, .int .u16 x.port]) := rfl
@[simp high] theorem encAddr_coA (x : Addr) (φ ψ : Nm → Option Nm) (s s2 : St) (ys : List AV) : CoA φ ψ s s2 (encAddr x) (.agg ys) = All2P (CoL φ ψ s s2) (addrCells x) ys := rfl
@[simp high] theorem encAddr_co (x : Addr) (φ ψ : Nm → Option Nm) (s s2 : St) (ys : List AV) : Co φ ψ s s2 (encAddr x) (.agg ys) = All2P (CoL φ ψ s s2) (addrCells x) ys := rfl
@[simp] theorem encAddr_ne_ptr (x : Addr) (n : Nm) (k : Nat) : (encAddr x = .ptr n k) = False := eq_false (fun h => by cases h)
@[simp] theorem encAddr_ne_tup (x : Addr) (c : List AV) : (encAddr x = .tup c) = False := eq_false (fun h => by cases h)
@[simp] theorem encAddr_ne_agg (x : Addr) (c : List AV) : (encAddr x = .agg c) = False := eq_false (fun h => by cases h)
@[simp] theorem encAddr_ne_ref (x : Addr) (c : List AV) : (encAddr x = .ref c) = False := eq_false (fun h => by cases h)
@[simp] theorem encAddr_ne_rptr (x : Addr) (y : AV) (k : Nat) : (encAddr x = .rptr y k) = False := eq_false (fun h => by cases h)
@[simp] theorem ite_encAddr (c : Prop) [Decidable c] (x y : Addr) : (if c then encAddr x else encAddr y) = encAddr (if c then x else y) := by split <;> rfl
@[simp] theorem addr_get_a (x : Addr) : (addrCells x)[0]? = some (.v (.int .u8 x.a)) := rfl
@[simp] theorem addr_put_a (x : Addr) (y : Int) : splice (addrCells x) 0 [.v (.int .u8 y)] 1 = addrCells { x with a := y } := rfl
@[simp] theorem addr_get_b (x : Addr) : (addrCells x)[1]? = some (.v (.int .u8 x.b)) := rfl
@[simp] theorem addr_put_b (x : Addr) (y : Int) : splice (addrCells x) 1 [.v (.int .u8 y)] 1 = addrCells { x with b := y } := rfl
@[simp] theorem addr_get_c (x : Addr) : (addrCells x)[2]? = some (.v (.int .u8 x.c)) := rfl
@[simp] theorem addr_put_c (x : Addr) (y : Int) : splice (addrCells x) 2 [.v (.int .u8 y)] 1 = addrCells { x with c := y } := rfl
@[simp] theorem addr_get_d (x : Addr) : (addrCells x)[3]? = some (.v (.int .u8 x.d)) := rfl
@[simp] theorem addr_put_d (x : Addr) (y : Int) : splice (addrCells x) 3 [.v (.int .u8 y)] 1 = addrCells { x with d := y } := rfl
@[simp] theorem addr_get_port (x : Addr) : (addrCells x)[4]? = some (.v (.int .u16 x.port)) := rfl
@[simp] theorem addr_put_port (x : Addr) (y : Int) : splice (addrCells x) 4 [.v (.int .u16 y)] 1 = addrCells { x with port := y } := rfl
@[simp] theorem addr_whole (x : Addr) (ys : List AV) : splice (addrCells x) 0 ys 5 = ys := by simp [splice, addrCells]
@[simp] theorem addr_cutall (x : Addr) : cut (addrCells x) 0 5 = addrCells x := rfl
@[simp] theorem addrCells_leafH (x : Addr) : (addrCells x).all leafH = true := rfl
@[simp] theorem addrCells_leafP (x : Addr) : (addrCells x).all leafP = true := rfl
@[simp] theorem addrCells_leafOk (x : Addr) : (addrCells x).all leafOk = true := rfl
@[simp] theorem addrCells_kL (s : St) (M : List Nm) (x : Addr) : (addrCells x).map (kL s M) = addrCells x := rfl
@[simp] theorem addrCells_strip (x : Addr) : (addrCells x).map strip = addrCells x := rfl
@[simp] theorem addrCells_stripL (x : Addr) : (addrCells x).map stripL = addrCells x := rfl
@[simp] theorem addrCells_name (g : Nm → Nat) (d i k : Nat) (x : Addr) : nameC g d i k (addrCells x) = addrCells x := rfl
@[simp] theorem addrCells_flag (s : St) (x : Addr) : (addrCells x).map (flagL s) = addrCells x := rfl
@[simp] theorem addrCells_tags (s : St) (x : Addr) : tagsOf s (addrCells x) = [] := by simp [addrCells, tagsOf]
@[simp] theorem addrCells_co (φ ψ : Nm → Option Nm) (s s2 : St) (x : Addr) : All2P (CoL φ ψ s s2) (addrCells x) (addrCells x) := by simp [addrCells]

@[ext] structure Clock where
  smooth : Int
  spread : Int
  wait : Int
deriving Inhabited
def clockCells (x : Clock) : List AV := [.v (.int .i64 x.smooth), .v (.int .i64 x.spread), .v (.int .i64 x.wait)]
noncomputable def pClock : List AV → Option (Clock × List AV) := fun cs => (pI .i64 cs).bind fun (a0, cs) => (pI .i64 cs).bind fun (a1, cs) => (pI .i64 cs).bind fun (a2, cs) => some (⟨a0, a1, a2⟩, cs)
theorem pClock_snd : Snd CoP pClock (fun x => clockCells x) := by
  intro cs x r h0
  unfold pClock at h0
  obtain ⟨a0, r0, q0, h1, e0, c0⟩ := Snd.step (pI_snd .i64) h0
  obtain ⟨a1, r1, q1, h2, e1, c1⟩ := Snd.step (pI_snd .i64) h1
  obtain ⟨a2, r2, q2, h3, e2, c2⟩ := Snd.step (pI_snd .i64) h2
  cases h3
  subst e2 e1 e0
  exact ⟨(q0 ++ (q1 ++ q2)), by simp only [List.append_assoc], (c0.app (c1.app c2))⟩
@[simp] theorem pClock_app (x : Clock) (r : List AV) : pClock (clockCells x ++ r) = some (x, r) := by simp [pClock, clockCells]
@[simp] theorem pClock_all (x : Clock) : pClock (clockCells x) = some (x, []) := by have := pClock_app x []; rwa [List.append_nil] at this
@[simp] theorem clockCells_len (x : Clock) : (clockCells x).length = 3 := rfl
def encClock (x : Clock) : AV := .v (.agg #[.int .i64 x.smooth, .int .i64 x.spread, .int .i64 x.wait])
@[simp high] theorem mkAgg_clock (x : Clock) : mkAgg (clockCells x) = encClock x := rfl
@[simp] theorem flat_encClock (x : Clock) : flat (encClock x) = clockCells x := by simp [encClock, flat, clockCells]
@[simp] theorem whole_encClock (x : Clock) : whole pClock (encClock x) = some x := by simp [encClock, pClock]
@[simp high] theorem encClock_kT (x : Clock) (s : St) (M : List Nm) : kT s M (encClock x) = encClock x := rfl
@[simp high] theorem encClock_kA (x : Clock) (s : St) (M : List Nm) : kA s M (encClock x) = encClock x := rfl
@[simp high] theorem encClock_kL (x : Clock) (s : St) (M : List Nm) : kL s M (encClock x) = encClock x := rfl
@[simp high] theorem encClock_leafP (x : Clock)  : leafP (encClock x) = true := rfl
@[simp high] theorem encClock_isPure (x : Clock)  : isPure (encClock x) = true := rfl
@[simp high] theorem encClock_leafH (x : Clock)  : leafH (encClock x) = true := rfl
@[simp high] theorem encClock_isHand (x : Clock)  : isHand (encClock x) = true := rfl
@[simp high] theorem encClock_live (x : Clock)  : live (encClock x) = true := rfl
@[simp high] theorem encClock_isRes (x : Clock)  : isRes (encClock x) = true := rfl
@[simp high] theorem encClock_isRef (x : Clock)  : isRef (encClock x) = false := rfl
@[simp high] theorem encClock_strip (x : Clock)  : strip (encClock x) = encClock x := rfl
@[simp high] theorem encClock_stripL (x : Clock)  : stripL (encClock x) = encClock x := rfl
@[simp high] theorem encClock_stripA (x : Clock)  : stripA (encClock x) = encClock x := rfl
@[simp high] theorem encClock_flagL (x : Clock) (s : St) : flagL s (encClock x) = encClock x := rfl
@[simp high] theorem encClock_nameL (x : Clock) (g : Nm → Nat) (m : Nm) : nameL g m (encClock x) = encClock x := rfl
@[simp high] theorem encClock_nameX (x : Clock) (g : Nm → Nat) (d k : Nat) : nameX g d k (encClock x) = encClock x := rfl
@[simp high] theorem encClock_nameR (x : Clock) (g : Nm → Nat) (d : Nat) : nameR g d (encClock x) = encClock x := rfl
@[simp high] theorem encClock_toV (x : Clock)  : toV (encClock x) = some (.agg #[.int .i64 x.smooth, .int .i64 x.spread, .int .i64 x.wait]) := rfl
@[simp high] theorem encClock_coA (x : Clock) (φ ψ : Nm → Option Nm) (s s2 : St) (ys : List AV) : CoA φ ψ s s2 (encClock x) (.agg ys) = All2P (CoL φ ψ s s2) (clockCells x) ys := rfl
@[simp high] theorem encClock_co (x : Clock) (φ ψ : Nm → Option Nm) (s s2 : St) (ys : List AV) : Co φ ψ s s2 (encClock x) (.agg ys) = All2P (CoL φ ψ s s2) (clockCells x) ys := rfl
@[simp] theorem encClock_ne_ptr (x : Clock) (n : Nm) (k : Nat) : (encClock x = .ptr n k) = False := eq_false (fun h => by cases h)
@[simp] theorem encClock_ne_tup (x : Clock) (c : List AV) : (encClock x = .tup c) = False := eq_false (fun h => by cases h)
@[simp] theorem encClock_ne_agg (x : Clock) (c : List AV) : (encClock x = .agg c) = False := eq_false (fun h => by cases h)
@[simp] theorem encClock_ne_ref (x : Clock) (c : List AV) : (encClock x = .ref c) = False := eq_false (fun h => by cases h)
@[simp] theorem encClock_ne_rptr (x : Clock) (y : AV) (k : Nat) : (encClock x = .rptr y k) = False := eq_false (fun h => by cases h)
@[simp] theorem ite_encClock (c : Prop) [Decidable c] (x y : Clock) : (if c then encClock x else encClock y) = encClock (if c then x else y) := by split <;> rfl
@[simp] theorem clock_get_smooth (x : Clock) : (clockCells x)[0]? = some (.v (.int .i64 x.smooth)) := rfl
@[simp] theorem clock_put_smooth (x : Clock) (y : Int) : splice (clockCells x) 0 [.v (.int .i64 y)] 1 = clockCells { x with smooth := y } := rfl
@[simp] theorem clock_get_spread (x : Clock) : (clockCells x)[1]? = some (.v (.int .i64 x.spread)) := rfl
@[simp] theorem clock_put_spread (x : Clock) (y : Int) : splice (clockCells x) 1 [.v (.int .i64 y)] 1 = clockCells { x with spread := y } := rfl
@[simp] theorem clock_get_wait (x : Clock) : (clockCells x)[2]? = some (.v (.int .i64 x.wait)) := rfl
@[simp] theorem clock_put_wait (x : Clock) (y : Int) : splice (clockCells x) 2 [.v (.int .i64 y)] 1 = clockCells { x with wait := y } := rfl
@[simp] theorem clock_whole (x : Clock) (ys : List AV) : splice (clockCells x) 0 ys 3 = ys := by simp [splice, clockCells]
@[simp] theorem clock_cutall (x : Clock) : cut (clockCells x) 0 3 = clockCells x := rfl
@[simp] theorem clockCells_leafH (x : Clock) : (clockCells x).all leafH = true := rfl
@[simp] theorem clockCells_leafP (x : Clock) : (clockCells x).all leafP = true := rfl
@[simp] theorem clockCells_leafOk (x : Clock) : (clockCells x).all leafOk = true := rfl
@[simp] theorem clockCells_kL (s : St) (M : List Nm) (x : Clock) : (clockCells x).map (kL s M) = clockCells x := rfl
@[simp] theorem clockCells_strip (x : Clock) : (clockCells x).map strip = clockCells x := rfl
@[simp] theorem clockCells_stripL (x : Clock) : (clockCells x).map stripL = clockCells x := rfl
@[simp] theorem clockCells_name (g : Nm → Nat) (d i k : Nat) (x : Clock) : nameC g d i k (clockCells x) = clockCells x := rfl
@[simp] theorem clockCells_flag (s : St) (x : Clock) : (clockCells x).map (flagL s) = clockCells x := rfl
@[simp] theorem clockCells_tags (s : St) (x : Clock) : tagsOf s (clockCells x) = [] := by simp [clockCells, tagsOf]
@[simp] theorem clockCells_co (φ ψ : Nm → Option Nm) (s s2 : St) (x : Clock) : All2P (CoL φ ψ s s2) (clockCells x) (clockCells x) := by simp [clockCells]

@[ext] structure Piece where
  seq : Int
  data : List Int
deriving Inhabited
def pieceCells (x : Piece) : List AV := [.v (.int .u32 x.seq), .sl 1 (encB x.data) none]
noncomputable def pPiece : List AV → Option (Piece × List AV) := fun cs => (pI .u32 cs).bind fun (a0, cs) => (pB cs).bind fun (a1, cs) => some (⟨a0, a1⟩, cs)
theorem pPiece_snd : Snd CoP pPiece (fun x => pieceCells x) := by
  intro cs x r h0
  unfold pPiece at h0
  obtain ⟨a0, r0, q0, h1, e0, c0⟩ := Snd.step (pI_snd .u32) h0
  obtain ⟨a1, r1, q1, h2, e1, c1⟩ := Snd.step pB_snd h1
  cases h2
  subst e1 e0
  exact ⟨(q0 ++ q1), by simp only [List.append_assoc], (c0.app c1)⟩
@[simp] theorem pPiece_app (x : Piece) (r : List AV) : pPiece (pieceCells x ++ r) = some (x, r) := by simp [pPiece, pieceCells]
@[simp] theorem pPiece_all (x : Piece) : pPiece (pieceCells x) = some (x, []) := by have := pPiece_app x []; rwa [List.append_nil] at this
@[simp] theorem pieceCells_len (x : Piece) : (pieceCells x).length = 2 := rfl
@[simp high] theorem mkAgg_piece (x : Piece) : mkAgg (pieceCells x) = .agg (pieceCells x) := rfl
@[simp] theorem whole_piece (x : Piece) : whole pPiece (.agg (pieceCells x)) = some x := by simp
@[simp] theorem piece_get_seq (x : Piece) : (pieceCells x)[0]? = some (.v (.int .u32 x.seq)) := rfl
@[simp] theorem piece_put_seq (x : Piece) (y : Int) : splice (pieceCells x) 0 [.v (.int .u32 y)] 1 = pieceCells { x with seq := y } := rfl
@[simp] theorem piece_get_data (x : Piece) : (pieceCells x)[1]? = some (.sl 1 (encB x.data) none) := rfl
@[simp] theorem piece_put_data (x : Piece) (y : List Int) : splice (pieceCells x) 1 [.sl 1 (encB y) none] 1 = pieceCells { x with data := y } := rfl
@[simp] theorem piece_whole (x : Piece) (ys : List AV) : splice (pieceCells x) 0 ys 2 = ys := by simp [splice, pieceCells]
@[simp] theorem piece_cutall (x : Piece) : cut (pieceCells x) 0 2 = pieceCells x := rfl
@[simp] theorem pieceCells_leafH (x : Piece) : (pieceCells x).all leafH = true := rfl
@[simp] theorem pieceCells_leafP (x : Piece) : (pieceCells x).all leafP = true := rfl
@[simp] theorem pieceCells_leafOk (x : Piece) : (pieceCells x).all leafOk = true := rfl
@[simp] theorem pieceCells_kL (s : St) (M : List Nm) (x : Piece) : (pieceCells x).map (kL s M) = pieceCells x := rfl
@[simp] theorem pieceCells_strip (x : Piece) : (pieceCells x).map strip = pieceCells x := rfl
@[simp] theorem pieceCells_stripL (x : Piece) : (pieceCells x).map stripL = pieceCells x := rfl
@[simp] theorem pieceCells_name (g : Nm → Nat) (d i k : Nat) (x : Piece) : nameC g d i k (pieceCells x) = pieceCells x := rfl
@[simp] theorem pieceCells_flag (s : St) (x : Piece) : (pieceCells x).map (flagL s) = pieceCells x := rfl
@[simp] theorem pieceCells_tags (s : St) (x : Piece) : tagsOf s (pieceCells x) = [] := by simp [pieceCells, tagsOf]
@[simp] theorem pieceCells_co (φ ψ : Nm → Option Nm) (s s2 : St) (x : Piece) : All2P (CoL φ ψ s s2) (pieceCells x) (pieceCells x) := by simp [pieceCells]

@[ext] structure Recv where
  next : Int
  data : List Int
  ahead : List Piece
  known : Bool
  fin : Int
  done : Bool
deriving Inhabited
def recvCells (x : Recv) : List AV := [.v (.int .u32 x.next), .sl 1 (encB x.data) none, .sl 2 (encS pieceCells x.ahead) none, .v (.bool x.known), .v (.int .u32 x.fin), .v (.bool x.done)]
noncomputable def pRecv : List AV → Option (Recv × List AV) := fun cs => (pI .u32 cs).bind fun (a0, cs) => (pB cs).bind fun (a1, cs) => (pSl 2 pPiece pieceCells cs).bind fun (a2, cs) => (pT cs).bind fun (a3, cs) => (pI .u32 cs).bind fun (a4, cs) => (pT cs).bind fun (a5, cs) => some (⟨a0, a1, a2, a3, a4, a5⟩, cs)
theorem pRecv_snd : Snd CoP pRecv (fun x => recvCells x) := by
  intro cs x r h0
  unfold pRecv at h0
  obtain ⟨a0, r0, q0, h1, e0, c0⟩ := Snd.step (pI_snd .u32) h0
  obtain ⟨a1, r1, q1, h2, e1, c1⟩ := Snd.step pB_snd h1
  obtain ⟨a2, r2, q2, h3, e2, c2⟩ := Snd.step (pSl_snd 2 pPiece pieceCells) h2
  obtain ⟨a3, r3, q3, h4, e3, c3⟩ := Snd.step pT_snd h3
  obtain ⟨a4, r4, q4, h5, e4, c4⟩ := Snd.step (pI_snd .u32) h4
  obtain ⟨a5, r5, q5, h6, e5, c5⟩ := Snd.step pT_snd h5
  cases h6
  subst e5 e4 e3 e2 e1 e0
  exact ⟨(q0 ++ (q1 ++ (q2 ++ (q3 ++ (q4 ++ q5))))), by simp only [List.append_assoc], (c0.app (c1.app (c2.app (c3.app (c4.app c5)))))⟩
@[simp] theorem pRecv_app (x : Recv) (r : List AV) : pRecv (recvCells x ++ r) = some (x, r) := by simp [pRecv, recvCells, decS_enc pPiece_all]
@[simp] theorem pRecv_all (x : Recv) : pRecv (recvCells x) = some (x, []) := by have := pRecv_app x []; rwa [List.append_nil] at this
@[simp] theorem recvCells_len (x : Recv) : (recvCells x).length = 6 := rfl
@[simp high] theorem mkAgg_recv (x : Recv) : mkAgg (recvCells x) = .agg (recvCells x) := rfl
@[simp] theorem whole_recv (x : Recv) : whole pRecv (.agg (recvCells x)) = some x := by simp
@[simp] theorem recv_get_next (x : Recv) : (recvCells x)[0]? = some (.v (.int .u32 x.next)) := rfl
@[simp] theorem recv_put_next (x : Recv) (y : Int) : splice (recvCells x) 0 [.v (.int .u32 y)] 1 = recvCells { x with next := y } := rfl
@[simp] theorem recv_get_data (x : Recv) : (recvCells x)[1]? = some (.sl 1 (encB x.data) none) := rfl
@[simp] theorem recv_put_data (x : Recv) (y : List Int) : splice (recvCells x) 1 [.sl 1 (encB y) none] 1 = recvCells { x with data := y } := rfl
@[simp] theorem recv_get_ahead (x : Recv) : (recvCells x)[2]? = some (.sl 2 (encS pieceCells x.ahead) none) := rfl
@[simp] theorem recv_put_ahead (x : Recv) (y : List Piece) : splice (recvCells x) 2 [.sl 2 (encS pieceCells y) none] 1 = recvCells { x with ahead := y } := rfl
@[simp] theorem recv_get_known (x : Recv) : (recvCells x)[3]? = some (.v (.bool x.known)) := rfl
@[simp] theorem recv_put_known (x : Recv) (y : Bool) : splice (recvCells x) 3 [.v (.bool y)] 1 = recvCells { x with known := y } := rfl
@[simp] theorem recv_get_fin (x : Recv) : (recvCells x)[4]? = some (.v (.int .u32 x.fin)) := rfl
@[simp] theorem recv_put_fin (x : Recv) (y : Int) : splice (recvCells x) 4 [.v (.int .u32 y)] 1 = recvCells { x with fin := y } := rfl
@[simp] theorem recv_get_done (x : Recv) : (recvCells x)[5]? = some (.v (.bool x.done)) := rfl
@[simp] theorem recv_put_done (x : Recv) (y : Bool) : splice (recvCells x) 5 [.v (.bool y)] 1 = recvCells { x with done := y } := rfl
@[simp] theorem recv_whole (x : Recv) (ys : List AV) : splice (recvCells x) 0 ys 6 = ys := by simp [splice, recvCells]
@[simp] theorem recv_cutall (x : Recv) : cut (recvCells x) 0 6 = recvCells x := rfl
@[simp] theorem recvCells_leafH (x : Recv) : (recvCells x).all leafH = true := rfl
@[simp] theorem recvCells_leafP (x : Recv) : (recvCells x).all leafP = true := rfl
@[simp] theorem recvCells_leafOk (x : Recv) : (recvCells x).all leafOk = true := rfl
@[simp] theorem recvCells_kL (s : St) (M : List Nm) (x : Recv) : (recvCells x).map (kL s M) = recvCells x := rfl
@[simp] theorem recvCells_strip (x : Recv) : (recvCells x).map strip = recvCells x := rfl
@[simp] theorem recvCells_stripL (x : Recv) : (recvCells x).map stripL = recvCells x := rfl
@[simp] theorem recvCells_name (g : Nm → Nat) (d i k : Nat) (x : Recv) : nameC g d i k (recvCells x) = recvCells x := rfl
@[simp] theorem recvCells_flag (s : St) (x : Recv) : (recvCells x).map (flagL s) = recvCells x := rfl
@[simp] theorem recvCells_tags (s : St) (x : Recv) : tagsOf s (recvCells x) = [] := by simp [recvCells, tagsOf]
@[simp] theorem recvCells_co (φ ψ : Nm → Option Nm) (s s2 : St) (x : Recv) : All2P (CoL φ ψ s s2) (recvCells x) (recvCells x) := by simp [recvCells]

@[ext] structure Send where
  una : Int
  data : List Int
  sent : Int
  fin : Bool
  finSent : Bool
  finAcked : Bool
deriving Inhabited
def sendCells (x : Send) : List AV := [.v (.int .u32 x.una), .sl 1 (encB x.data) none, .v (.int .i64 x.sent), .v (.bool x.fin), .v (.bool x.finSent), .v (.bool x.finAcked)]
noncomputable def pSend : List AV → Option (Send × List AV) := fun cs => (pI .u32 cs).bind fun (a0, cs) => (pB cs).bind fun (a1, cs) => (pI .i64 cs).bind fun (a2, cs) => (pT cs).bind fun (a3, cs) => (pT cs).bind fun (a4, cs) => (pT cs).bind fun (a5, cs) => some (⟨a0, a1, a2, a3, a4, a5⟩, cs)
theorem pSend_snd : Snd CoP pSend (fun x => sendCells x) := by
  intro cs x r h0
  unfold pSend at h0
  obtain ⟨a0, r0, q0, h1, e0, c0⟩ := Snd.step (pI_snd .u32) h0
  obtain ⟨a1, r1, q1, h2, e1, c1⟩ := Snd.step pB_snd h1
  obtain ⟨a2, r2, q2, h3, e2, c2⟩ := Snd.step (pI_snd .i64) h2
  obtain ⟨a3, r3, q3, h4, e3, c3⟩ := Snd.step pT_snd h3
  obtain ⟨a4, r4, q4, h5, e4, c4⟩ := Snd.step pT_snd h4
  obtain ⟨a5, r5, q5, h6, e5, c5⟩ := Snd.step pT_snd h5
  cases h6
  subst e5 e4 e3 e2 e1 e0
  exact ⟨(q0 ++ (q1 ++ (q2 ++ (q3 ++ (q4 ++ q5))))), by simp only [List.append_assoc], (c0.app (c1.app (c2.app (c3.app (c4.app c5)))))⟩
@[simp] theorem pSend_app (x : Send) (r : List AV) : pSend (sendCells x ++ r) = some (x, r) := by simp [pSend, sendCells]
@[simp] theorem pSend_all (x : Send) : pSend (sendCells x) = some (x, []) := by have := pSend_app x []; rwa [List.append_nil] at this
@[simp] theorem sendCells_len (x : Send) : (sendCells x).length = 6 := rfl
@[simp high] theorem mkAgg_send (x : Send) : mkAgg (sendCells x) = .agg (sendCells x) := rfl
@[simp] theorem whole_send (x : Send) : whole pSend (.agg (sendCells x)) = some x := by simp
@[simp] theorem send_get_una (x : Send) : (sendCells x)[0]? = some (.v (.int .u32 x.una)) := rfl
@[simp] theorem send_put_una (x : Send) (y : Int) : splice (sendCells x) 0 [.v (.int .u32 y)] 1 = sendCells { x with una := y } := rfl
@[simp] theorem send_get_data (x : Send) : (sendCells x)[1]? = some (.sl 1 (encB x.data) none) := rfl
@[simp] theorem send_put_data (x : Send) (y : List Int) : splice (sendCells x) 1 [.sl 1 (encB y) none] 1 = sendCells { x with data := y } := rfl
@[simp] theorem send_get_sent (x : Send) : (sendCells x)[2]? = some (.v (.int .i64 x.sent)) := rfl
@[simp] theorem send_put_sent (x : Send) (y : Int) : splice (sendCells x) 2 [.v (.int .i64 y)] 1 = sendCells { x with sent := y } := rfl
@[simp] theorem send_get_fin (x : Send) : (sendCells x)[3]? = some (.v (.bool x.fin)) := rfl
@[simp] theorem send_put_fin (x : Send) (y : Bool) : splice (sendCells x) 3 [.v (.bool y)] 1 = sendCells { x with fin := y } := rfl
@[simp] theorem send_get_finSent (x : Send) : (sendCells x)[4]? = some (.v (.bool x.finSent)) := rfl
@[simp] theorem send_put_finSent (x : Send) (y : Bool) : splice (sendCells x) 4 [.v (.bool y)] 1 = sendCells { x with finSent := y } := rfl
@[simp] theorem send_get_finAcked (x : Send) : (sendCells x)[5]? = some (.v (.bool x.finAcked)) := rfl
@[simp] theorem send_put_finAcked (x : Send) (y : Bool) : splice (sendCells x) 5 [.v (.bool y)] 1 = sendCells { x with finAcked := y } := rfl
@[simp] theorem send_whole (x : Send) (ys : List AV) : splice (sendCells x) 0 ys 6 = ys := by simp [splice, sendCells]
@[simp] theorem send_cutall (x : Send) : cut (sendCells x) 0 6 = sendCells x := rfl
@[simp] theorem sendCells_leafH (x : Send) : (sendCells x).all leafH = true := rfl
@[simp] theorem sendCells_leafP (x : Send) : (sendCells x).all leafP = true := rfl
@[simp] theorem sendCells_leafOk (x : Send) : (sendCells x).all leafOk = true := rfl
@[simp] theorem sendCells_kL (s : St) (M : List Nm) (x : Send) : (sendCells x).map (kL s M) = sendCells x := rfl
@[simp] theorem sendCells_strip (x : Send) : (sendCells x).map strip = sendCells x := rfl
@[simp] theorem sendCells_stripL (x : Send) : (sendCells x).map stripL = sendCells x := rfl
@[simp] theorem sendCells_name (g : Nm → Nat) (d i k : Nat) (x : Send) : nameC g d i k (sendCells x) = sendCells x := rfl
@[simp] theorem sendCells_flag (s : St) (x : Send) : (sendCells x).map (flagL s) = sendCells x := rfl
@[simp] theorem sendCells_tags (s : St) (x : Send) : tagsOf s (sendCells x) = [] := by simp [sendCells, tagsOf]
@[simp] theorem sendCells_co (φ ψ : Nm → Option Nm) (s s2 : St) (x : Send) : All2P (CoL φ ψ s s2) (sendCells x) (sendCells x) := by simp [sendCells]

@[ext] structure Seg where
  src : Int
  dst : Int
  seq : Int
  ack : Int
  flags : Int
  wnd : Int
  mss : Int
  data : List Int
deriving Inhabited
def segCells (x : Seg) : List AV := [.v (.int .u16 x.src), .v (.int .u16 x.dst), .v (.int .u32 x.seq), .v (.int .u32 x.ack), .v (.int .u8 x.flags), .v (.int .u16 x.wnd), .v (.int .u16 x.mss), .sl 1 (encB x.data) none]
noncomputable def pSeg : List AV → Option (Seg × List AV) := fun cs => (pI .u16 cs).bind fun (a0, cs) => (pI .u16 cs).bind fun (a1, cs) => (pI .u32 cs).bind fun (a2, cs) => (pI .u32 cs).bind fun (a3, cs) => (pI .u8 cs).bind fun (a4, cs) => (pI .u16 cs).bind fun (a5, cs) => (pI .u16 cs).bind fun (a6, cs) => (pB cs).bind fun (a7, cs) => some (⟨a0, a1, a2, a3, a4, a5, a6, a7⟩, cs)
theorem pSeg_snd : Snd CoP pSeg (fun x => segCells x) := by
  intro cs x r h0
  unfold pSeg at h0
  obtain ⟨a0, r0, q0, h1, e0, c0⟩ := Snd.step (pI_snd .u16) h0
  obtain ⟨a1, r1, q1, h2, e1, c1⟩ := Snd.step (pI_snd .u16) h1
  obtain ⟨a2, r2, q2, h3, e2, c2⟩ := Snd.step (pI_snd .u32) h2
  obtain ⟨a3, r3, q3, h4, e3, c3⟩ := Snd.step (pI_snd .u32) h3
  obtain ⟨a4, r4, q4, h5, e4, c4⟩ := Snd.step (pI_snd .u8) h4
  obtain ⟨a5, r5, q5, h6, e5, c5⟩ := Snd.step (pI_snd .u16) h5
  obtain ⟨a6, r6, q6, h7, e6, c6⟩ := Snd.step (pI_snd .u16) h6
  obtain ⟨a7, r7, q7, h8, e7, c7⟩ := Snd.step pB_snd h7
  cases h8
  subst e7 e6 e5 e4 e3 e2 e1 e0
  exact ⟨(q0 ++ (q1 ++ (q2 ++ (q3 ++ (q4 ++ (q5 ++ (q6 ++ q7))))))), by simp only [List.append_assoc], (c0.app (c1.app (c2.app (c3.app (c4.app (c5.app (c6.app c7)))))))⟩
@[simp] theorem pSeg_app (x : Seg) (r : List AV) : pSeg (segCells x ++ r) = some (x, r) := by simp [pSeg, segCells]
@[simp] theorem pSeg_all (x : Seg) : pSeg (segCells x) = some (x, []) := by have := pSeg_app x []; rwa [List.append_nil] at this
@[simp] theorem segCells_len (x : Seg) : (segCells x).length = 8 := rfl
@[simp high] theorem mkAgg_seg (x : Seg) : mkAgg (segCells x) = .agg (segCells x) := rfl
@[simp] theorem whole_seg (x : Seg) : whole pSeg (.agg (segCells x)) = some x := by simp
@[simp] theorem seg_get_src (x : Seg) : (segCells x)[0]? = some (.v (.int .u16 x.src)) := rfl
@[simp] theorem seg_put_src (x : Seg) (y : Int) : splice (segCells x) 0 [.v (.int .u16 y)] 1 = segCells { x with src := y } := rfl
@[simp] theorem seg_get_dst (x : Seg) : (segCells x)[1]? = some (.v (.int .u16 x.dst)) := rfl
@[simp] theorem seg_put_dst (x : Seg) (y : Int) : splice (segCells x) 1 [.v (.int .u16 y)] 1 = segCells { x with dst := y } := rfl
@[simp] theorem seg_get_seq (x : Seg) : (segCells x)[2]? = some (.v (.int .u32 x.seq)) := rfl
@[simp] theorem seg_put_seq (x : Seg) (y : Int) : splice (segCells x) 2 [.v (.int .u32 y)] 1 = segCells { x with seq := y } := rfl
@[simp] theorem seg_get_ack (x : Seg) : (segCells x)[3]? = some (.v (.int .u32 x.ack)) := rfl
@[simp] theorem seg_put_ack (x : Seg) (y : Int) : splice (segCells x) 3 [.v (.int .u32 y)] 1 = segCells { x with ack := y } := rfl
@[simp] theorem seg_get_flags (x : Seg) : (segCells x)[4]? = some (.v (.int .u8 x.flags)) := rfl
@[simp] theorem seg_put_flags (x : Seg) (y : Int) : splice (segCells x) 4 [.v (.int .u8 y)] 1 = segCells { x with flags := y } := rfl
@[simp] theorem seg_get_wnd (x : Seg) : (segCells x)[5]? = some (.v (.int .u16 x.wnd)) := rfl
@[simp] theorem seg_put_wnd (x : Seg) (y : Int) : splice (segCells x) 5 [.v (.int .u16 y)] 1 = segCells { x with wnd := y } := rfl
@[simp] theorem seg_get_mss (x : Seg) : (segCells x)[6]? = some (.v (.int .u16 x.mss)) := rfl
@[simp] theorem seg_put_mss (x : Seg) (y : Int) : splice (segCells x) 6 [.v (.int .u16 y)] 1 = segCells { x with mss := y } := rfl
@[simp] theorem seg_get_data (x : Seg) : (segCells x)[7]? = some (.sl 1 (encB x.data) none) := rfl
@[simp] theorem seg_put_data (x : Seg) (y : List Int) : splice (segCells x) 7 [.sl 1 (encB y) none] 1 = segCells { x with data := y } := rfl
@[simp] theorem seg_whole (x : Seg) (ys : List AV) : splice (segCells x) 0 ys 8 = ys := by simp [splice, segCells]
@[simp] theorem seg_cutall (x : Seg) : cut (segCells x) 0 8 = segCells x := rfl
@[simp] theorem segCells_leafH (x : Seg) : (segCells x).all leafH = true := rfl
@[simp] theorem segCells_leafP (x : Seg) : (segCells x).all leafP = true := rfl
@[simp] theorem segCells_leafOk (x : Seg) : (segCells x).all leafOk = true := rfl
@[simp] theorem segCells_kL (s : St) (M : List Nm) (x : Seg) : (segCells x).map (kL s M) = segCells x := rfl
@[simp] theorem segCells_strip (x : Seg) : (segCells x).map strip = segCells x := rfl
@[simp] theorem segCells_stripL (x : Seg) : (segCells x).map stripL = segCells x := rfl
@[simp] theorem segCells_name (g : Nm → Nat) (d i k : Nat) (x : Seg) : nameC g d i k (segCells x) = segCells x := rfl
@[simp] theorem segCells_flag (s : St) (x : Seg) : (segCells x).map (flagL s) = segCells x := rfl
@[simp] theorem segCells_tags (s : St) (x : Seg) : tagsOf s (segCells x) = [] := by simp [segCells, tagsOf]
@[simp] theorem segCells_co (φ ψ : Nm → Option Nm) (s s2 : St) (x : Seg) : All2P (CoL φ ψ s s2) (segCells x) (segCells x) := by simp [segCells]

@[ext] structure Conn where
  phase : Int
  self : Addr
  peer : Addr
  first : Int
  send : Send
  recv : Recv
  window : Int
  mss : Int
  clock : Clock
  due : Int
  tries : Int
  timing : Bool
  timedSeq : Int
  timedAt : Int
  till : Int
  ended : Bool
  err : Int
deriving Inhabited
def connCells (x : Conn) : List AV := [.v (.int .i64 x.phase), .v (.int .u8 x.self.a), .v (.int .u8 x.self.b), .v (.int .u8 x.self.c), .v (.int .u8 x.self.d), .v (.int .u16 x.self.port), .v (.int .u8 x.peer.a), .v (.int .u8 x.peer.b), .v (.int .u8 x.peer.c), .v (.int .u8 x.peer.d), .v (.int .u16 x.peer.port), .v (.int .u32 x.first), .v (.int .u32 x.send.una), .sl 1 (encB x.send.data) none, .v (.int .i64 x.send.sent), .v (.bool x.send.fin), .v (.bool x.send.finSent), .v (.bool x.send.finAcked), .v (.int .u32 x.recv.next), .sl 1 (encB x.recv.data) none, .sl 2 (encS pieceCells x.recv.ahead) none, .v (.bool x.recv.known), .v (.int .u32 x.recv.fin), .v (.bool x.recv.done), .v (.int .i64 x.window), .v (.int .i64 x.mss), .v (.int .i64 x.clock.smooth), .v (.int .i64 x.clock.spread), .v (.int .i64 x.clock.wait), .v (.int .u64 x.due), .v (.int .i64 x.tries), .v (.bool x.timing), .v (.int .u32 x.timedSeq), .v (.int .u64 x.timedAt), .v (.int .u64 x.till), .v (.bool x.ended), .v (.int .i64 x.err)]
noncomputable def pConn : List AV → Option (Conn × List AV) := fun cs => (pI .i64 cs).bind fun (a0, cs) => (pAddr cs).bind fun (a1, cs) => (pAddr cs).bind fun (a2, cs) => (pI .u32 cs).bind fun (a3, cs) => (pSend cs).bind fun (a4, cs) => (pRecv cs).bind fun (a5, cs) => (pI .i64 cs).bind fun (a6, cs) => (pI .i64 cs).bind fun (a7, cs) => (pClock cs).bind fun (a8, cs) => (pI .u64 cs).bind fun (a9, cs) => (pI .i64 cs).bind fun (a10, cs) => (pT cs).bind fun (a11, cs) => (pI .u32 cs).bind fun (a12, cs) => (pI .u64 cs).bind fun (a13, cs) => (pI .u64 cs).bind fun (a14, cs) => (pT cs).bind fun (a15, cs) => (pI .i64 cs).bind fun (a16, cs) => some (⟨a0, a1, a2, a3, a4, a5, a6, a7, a8, a9, a10, a11, a12, a13, a14, a15, a16⟩, cs)
theorem pConn_snd : Snd CoP pConn (fun x => connCells x) := by
  intro cs x r h0
  unfold pConn at h0
  obtain ⟨a0, r0, q0, h1, e0, c0⟩ := Snd.step (pI_snd .i64) h0
  obtain ⟨a1, r1, q1, h2, e1, c1⟩ := Snd.step pAddr_snd h1
  obtain ⟨a2, r2, q2, h3, e2, c2⟩ := Snd.step pAddr_snd h2
  obtain ⟨a3, r3, q3, h4, e3, c3⟩ := Snd.step (pI_snd .u32) h3
  obtain ⟨a4, r4, q4, h5, e4, c4⟩ := Snd.step pSend_snd h4
  obtain ⟨a5, r5, q5, h6, e5, c5⟩ := Snd.step pRecv_snd h5
  obtain ⟨a6, r6, q6, h7, e6, c6⟩ := Snd.step (pI_snd .i64) h6
  obtain ⟨a7, r7, q7, h8, e7, c7⟩ := Snd.step (pI_snd .i64) h7
  obtain ⟨a8, r8, q8, h9, e8, c8⟩ := Snd.step pClock_snd h8
  obtain ⟨a9, r9, q9, h10, e9, c9⟩ := Snd.step (pI_snd .u64) h9
  obtain ⟨a10, r10, q10, h11, e10, c10⟩ := Snd.step (pI_snd .i64) h10
  obtain ⟨a11, r11, q11, h12, e11, c11⟩ := Snd.step pT_snd h11
  obtain ⟨a12, r12, q12, h13, e12, c12⟩ := Snd.step (pI_snd .u32) h12
  obtain ⟨a13, r13, q13, h14, e13, c13⟩ := Snd.step (pI_snd .u64) h13
  obtain ⟨a14, r14, q14, h15, e14, c14⟩ := Snd.step (pI_snd .u64) h14
  obtain ⟨a15, r15, q15, h16, e15, c15⟩ := Snd.step pT_snd h15
  obtain ⟨a16, r16, q16, h17, e16, c16⟩ := Snd.step (pI_snd .i64) h16
  cases h17
  subst e16 e15 e14 e13 e12 e11 e10 e9 e8 e7 e6 e5 e4 e3 e2 e1 e0
  exact ⟨(q0 ++ (q1 ++ (q2 ++ (q3 ++ (q4 ++ (q5 ++ (q6 ++ (q7 ++ (q8 ++ (q9 ++ (q10 ++ (q11 ++ (q12 ++ (q13 ++ (q14 ++ (q15 ++ q16)))))))))))))))), by simp only [List.append_assoc], (c0.app (c1.app (c2.app (c3.app (c4.app (c5.app (c6.app (c7.app (c8.app (c9.app (c10.app (c11.app (c12.app (c13.app (c14.app (c15.app c16))))))))))))))))⟩
@[simp] theorem pConn_app (x : Conn) (r : List AV) : pConn (connCells x ++ r) = some (x, r) := by simp [pConn, connCells, pAddr, pSend, pRecv, decS_enc pPiece_all, pClock]
@[simp] theorem pConn_all (x : Conn) : pConn (connCells x) = some (x, []) := by have := pConn_app x []; rwa [List.append_nil] at this
@[simp] theorem connCells_len (x : Conn) : (connCells x).length = 37 := rfl
@[simp high] theorem mkAgg_conn (x : Conn) : mkAgg (connCells x) = .agg (connCells x) := rfl
@[simp] theorem whole_conn (x : Conn) : whole pConn (.agg (connCells x)) = some x := by simp
@[simp] theorem conn_get_phase (x : Conn) : (connCells x)[0]? = some (.v (.int .i64 x.phase)) := rfl
@[simp] theorem conn_put_phase (x : Conn) (y : Int) : splice (connCells x) 0 [.v (.int .i64 y)] 1 = connCells { x with phase := y } := rfl
@[simp] theorem conn_cut_self (x : Conn) : cut (connCells x) 1 5 = addrCells x.self := rfl
@[simp] theorem conn_put_self (x : Conn) (y : Addr) : splice (connCells x) 1 (addrCells y) 5 = connCells { x with self := y } := rfl
@[simp] theorem conn_get_self_a (x : Conn) : (connCells x)[1]? = some (.v (.int .u8 x.self.a)) := rfl
@[simp] theorem conn_put_self_a (x : Conn) (y : Int) : splice (connCells x) 1 [.v (.int .u8 y)] 1 = connCells { x with self := { x.self with a := y } } := rfl
@[simp] theorem conn_get_self_b (x : Conn) : (connCells x)[2]? = some (.v (.int .u8 x.self.b)) := rfl
@[simp] theorem conn_put_self_b (x : Conn) (y : Int) : splice (connCells x) 2 [.v (.int .u8 y)] 1 = connCells { x with self := { x.self with b := y } } := rfl
@[simp] theorem conn_get_self_c (x : Conn) : (connCells x)[3]? = some (.v (.int .u8 x.self.c)) := rfl
@[simp] theorem conn_put_self_c (x : Conn) (y : Int) : splice (connCells x) 3 [.v (.int .u8 y)] 1 = connCells { x with self := { x.self with c := y } } := rfl
@[simp] theorem conn_get_self_d (x : Conn) : (connCells x)[4]? = some (.v (.int .u8 x.self.d)) := rfl
@[simp] theorem conn_put_self_d (x : Conn) (y : Int) : splice (connCells x) 4 [.v (.int .u8 y)] 1 = connCells { x with self := { x.self with d := y } } := rfl
@[simp] theorem conn_get_self_port (x : Conn) : (connCells x)[5]? = some (.v (.int .u16 x.self.port)) := rfl
@[simp] theorem conn_put_self_port (x : Conn) (y : Int) : splice (connCells x) 5 [.v (.int .u16 y)] 1 = connCells { x with self := { x.self with port := y } } := rfl
@[simp] theorem conn_cut_peer (x : Conn) : cut (connCells x) 6 5 = addrCells x.peer := rfl
@[simp] theorem conn_put_peer (x : Conn) (y : Addr) : splice (connCells x) 6 (addrCells y) 5 = connCells { x with peer := y } := rfl
@[simp] theorem conn_get_peer_a (x : Conn) : (connCells x)[6]? = some (.v (.int .u8 x.peer.a)) := rfl
@[simp] theorem conn_put_peer_a (x : Conn) (y : Int) : splice (connCells x) 6 [.v (.int .u8 y)] 1 = connCells { x with peer := { x.peer with a := y } } := rfl
@[simp] theorem conn_get_peer_b (x : Conn) : (connCells x)[7]? = some (.v (.int .u8 x.peer.b)) := rfl
@[simp] theorem conn_put_peer_b (x : Conn) (y : Int) : splice (connCells x) 7 [.v (.int .u8 y)] 1 = connCells { x with peer := { x.peer with b := y } } := rfl
@[simp] theorem conn_get_peer_c (x : Conn) : (connCells x)[8]? = some (.v (.int .u8 x.peer.c)) := rfl
@[simp] theorem conn_put_peer_c (x : Conn) (y : Int) : splice (connCells x) 8 [.v (.int .u8 y)] 1 = connCells { x with peer := { x.peer with c := y } } := rfl
@[simp] theorem conn_get_peer_d (x : Conn) : (connCells x)[9]? = some (.v (.int .u8 x.peer.d)) := rfl
@[simp] theorem conn_put_peer_d (x : Conn) (y : Int) : splice (connCells x) 9 [.v (.int .u8 y)] 1 = connCells { x with peer := { x.peer with d := y } } := rfl
@[simp] theorem conn_get_peer_port (x : Conn) : (connCells x)[10]? = some (.v (.int .u16 x.peer.port)) := rfl
@[simp] theorem conn_put_peer_port (x : Conn) (y : Int) : splice (connCells x) 10 [.v (.int .u16 y)] 1 = connCells { x with peer := { x.peer with port := y } } := rfl
@[simp] theorem conn_get_first (x : Conn) : (connCells x)[11]? = some (.v (.int .u32 x.first)) := rfl
@[simp] theorem conn_put_first (x : Conn) (y : Int) : splice (connCells x) 11 [.v (.int .u32 y)] 1 = connCells { x with first := y } := rfl
@[simp] theorem conn_cut_send (x : Conn) : cut (connCells x) 12 6 = sendCells x.send := rfl
@[simp] theorem conn_put_send (x : Conn) (y : Send) : splice (connCells x) 12 (sendCells y) 6 = connCells { x with send := y } := rfl
@[simp] theorem conn_get_send_una (x : Conn) : (connCells x)[12]? = some (.v (.int .u32 x.send.una)) := rfl
@[simp] theorem conn_put_send_una (x : Conn) (y : Int) : splice (connCells x) 12 [.v (.int .u32 y)] 1 = connCells { x with send := { x.send with una := y } } := rfl
@[simp] theorem conn_get_send_data (x : Conn) : (connCells x)[13]? = some (.sl 1 (encB x.send.data) none) := rfl
@[simp] theorem conn_put_send_data (x : Conn) (y : List Int) : splice (connCells x) 13 [.sl 1 (encB y) none] 1 = connCells { x with send := { x.send with data := y } } := rfl
@[simp] theorem conn_get_send_sent (x : Conn) : (connCells x)[14]? = some (.v (.int .i64 x.send.sent)) := rfl
@[simp] theorem conn_put_send_sent (x : Conn) (y : Int) : splice (connCells x) 14 [.v (.int .i64 y)] 1 = connCells { x with send := { x.send with sent := y } } := rfl
@[simp] theorem conn_get_send_fin (x : Conn) : (connCells x)[15]? = some (.v (.bool x.send.fin)) := rfl
@[simp] theorem conn_put_send_fin (x : Conn) (y : Bool) : splice (connCells x) 15 [.v (.bool y)] 1 = connCells { x with send := { x.send with fin := y } } := rfl
@[simp] theorem conn_get_send_finSent (x : Conn) : (connCells x)[16]? = some (.v (.bool x.send.finSent)) := rfl
@[simp] theorem conn_put_send_finSent (x : Conn) (y : Bool) : splice (connCells x) 16 [.v (.bool y)] 1 = connCells { x with send := { x.send with finSent := y } } := rfl
@[simp] theorem conn_get_send_finAcked (x : Conn) : (connCells x)[17]? = some (.v (.bool x.send.finAcked)) := rfl
@[simp] theorem conn_put_send_finAcked (x : Conn) (y : Bool) : splice (connCells x) 17 [.v (.bool y)] 1 = connCells { x with send := { x.send with finAcked := y } } := rfl
@[simp] theorem conn_cut_recv (x : Conn) : cut (connCells x) 18 6 = recvCells x.recv := rfl
@[simp] theorem conn_put_recv (x : Conn) (y : Recv) : splice (connCells x) 18 (recvCells y) 6 = connCells { x with recv := y } := rfl
@[simp] theorem conn_get_recv_next (x : Conn) : (connCells x)[18]? = some (.v (.int .u32 x.recv.next)) := rfl
@[simp] theorem conn_put_recv_next (x : Conn) (y : Int) : splice (connCells x) 18 [.v (.int .u32 y)] 1 = connCells { x with recv := { x.recv with next := y } } := rfl
@[simp] theorem conn_get_recv_data (x : Conn) : (connCells x)[19]? = some (.sl 1 (encB x.recv.data) none) := rfl
@[simp] theorem conn_put_recv_data (x : Conn) (y : List Int) : splice (connCells x) 19 [.sl 1 (encB y) none] 1 = connCells { x with recv := { x.recv with data := y } } := rfl
@[simp] theorem conn_get_recv_ahead (x : Conn) : (connCells x)[20]? = some (.sl 2 (encS pieceCells x.recv.ahead) none) := rfl
@[simp] theorem conn_put_recv_ahead (x : Conn) (y : List Piece) : splice (connCells x) 20 [.sl 2 (encS pieceCells y) none] 1 = connCells { x with recv := { x.recv with ahead := y } } := rfl
@[simp] theorem conn_get_recv_known (x : Conn) : (connCells x)[21]? = some (.v (.bool x.recv.known)) := rfl
@[simp] theorem conn_put_recv_known (x : Conn) (y : Bool) : splice (connCells x) 21 [.v (.bool y)] 1 = connCells { x with recv := { x.recv with known := y } } := rfl
@[simp] theorem conn_get_recv_fin (x : Conn) : (connCells x)[22]? = some (.v (.int .u32 x.recv.fin)) := rfl
@[simp] theorem conn_put_recv_fin (x : Conn) (y : Int) : splice (connCells x) 22 [.v (.int .u32 y)] 1 = connCells { x with recv := { x.recv with fin := y } } := rfl
@[simp] theorem conn_get_recv_done (x : Conn) : (connCells x)[23]? = some (.v (.bool x.recv.done)) := rfl
@[simp] theorem conn_put_recv_done (x : Conn) (y : Bool) : splice (connCells x) 23 [.v (.bool y)] 1 = connCells { x with recv := { x.recv with done := y } } := rfl
@[simp] theorem conn_get_window (x : Conn) : (connCells x)[24]? = some (.v (.int .i64 x.window)) := rfl
@[simp] theorem conn_put_window (x : Conn) (y : Int) : splice (connCells x) 24 [.v (.int .i64 y)] 1 = connCells { x with window := y } := rfl
@[simp] theorem conn_get_mss (x : Conn) : (connCells x)[25]? = some (.v (.int .i64 x.mss)) := rfl
@[simp] theorem conn_put_mss (x : Conn) (y : Int) : splice (connCells x) 25 [.v (.int .i64 y)] 1 = connCells { x with mss := y } := rfl
@[simp] theorem conn_cut_clock (x : Conn) : cut (connCells x) 26 3 = clockCells x.clock := rfl
@[simp] theorem conn_put_clock (x : Conn) (y : Clock) : splice (connCells x) 26 (clockCells y) 3 = connCells { x with clock := y } := rfl
@[simp] theorem conn_get_clock_smooth (x : Conn) : (connCells x)[26]? = some (.v (.int .i64 x.clock.smooth)) := rfl
@[simp] theorem conn_put_clock_smooth (x : Conn) (y : Int) : splice (connCells x) 26 [.v (.int .i64 y)] 1 = connCells { x with clock := { x.clock with smooth := y } } := rfl
@[simp] theorem conn_get_clock_spread (x : Conn) : (connCells x)[27]? = some (.v (.int .i64 x.clock.spread)) := rfl
@[simp] theorem conn_put_clock_spread (x : Conn) (y : Int) : splice (connCells x) 27 [.v (.int .i64 y)] 1 = connCells { x with clock := { x.clock with spread := y } } := rfl
@[simp] theorem conn_get_clock_wait (x : Conn) : (connCells x)[28]? = some (.v (.int .i64 x.clock.wait)) := rfl
@[simp] theorem conn_put_clock_wait (x : Conn) (y : Int) : splice (connCells x) 28 [.v (.int .i64 y)] 1 = connCells { x with clock := { x.clock with wait := y } } := rfl
@[simp] theorem conn_get_due (x : Conn) : (connCells x)[29]? = some (.v (.int .u64 x.due)) := rfl
@[simp] theorem conn_put_due (x : Conn) (y : Int) : splice (connCells x) 29 [.v (.int .u64 y)] 1 = connCells { x with due := y } := rfl
@[simp] theorem conn_get_tries (x : Conn) : (connCells x)[30]? = some (.v (.int .i64 x.tries)) := rfl
@[simp] theorem conn_put_tries (x : Conn) (y : Int) : splice (connCells x) 30 [.v (.int .i64 y)] 1 = connCells { x with tries := y } := rfl
@[simp] theorem conn_get_timing (x : Conn) : (connCells x)[31]? = some (.v (.bool x.timing)) := rfl
@[simp] theorem conn_put_timing (x : Conn) (y : Bool) : splice (connCells x) 31 [.v (.bool y)] 1 = connCells { x with timing := y } := rfl
@[simp] theorem conn_get_timedSeq (x : Conn) : (connCells x)[32]? = some (.v (.int .u32 x.timedSeq)) := rfl
@[simp] theorem conn_put_timedSeq (x : Conn) (y : Int) : splice (connCells x) 32 [.v (.int .u32 y)] 1 = connCells { x with timedSeq := y } := rfl
@[simp] theorem conn_get_timedAt (x : Conn) : (connCells x)[33]? = some (.v (.int .u64 x.timedAt)) := rfl
@[simp] theorem conn_put_timedAt (x : Conn) (y : Int) : splice (connCells x) 33 [.v (.int .u64 y)] 1 = connCells { x with timedAt := y } := rfl
@[simp] theorem conn_get_till (x : Conn) : (connCells x)[34]? = some (.v (.int .u64 x.till)) := rfl
@[simp] theorem conn_put_till (x : Conn) (y : Int) : splice (connCells x) 34 [.v (.int .u64 y)] 1 = connCells { x with till := y } := rfl
@[simp] theorem conn_get_ended (x : Conn) : (connCells x)[35]? = some (.v (.bool x.ended)) := rfl
@[simp] theorem conn_put_ended (x : Conn) (y : Bool) : splice (connCells x) 35 [.v (.bool y)] 1 = connCells { x with ended := y } := rfl
@[simp] theorem conn_get_err (x : Conn) : (connCells x)[36]? = some (.v (.int .i64 x.err)) := rfl
@[simp] theorem conn_put_err (x : Conn) (y : Int) : splice (connCells x) 36 [.v (.int .i64 y)] 1 = connCells { x with err := y } := rfl
@[simp] theorem conn_whole (x : Conn) (ys : List AV) : splice (connCells x) 0 ys 37 = ys := by simp [splice, connCells]
@[simp] theorem conn_cutall (x : Conn) : cut (connCells x) 0 37 = connCells x := rfl
@[simp] theorem connCells_leafH (x : Conn) : (connCells x).all leafH = true := rfl
@[simp] theorem connCells_leafP (x : Conn) : (connCells x).all leafP = true := rfl
@[simp] theorem connCells_leafOk (x : Conn) : (connCells x).all leafOk = true := rfl
@[simp] theorem connCells_kL (s : St) (M : List Nm) (x : Conn) : (connCells x).map (kL s M) = connCells x := rfl
@[simp] theorem connCells_strip (x : Conn) : (connCells x).map strip = connCells x := rfl
@[simp] theorem connCells_stripL (x : Conn) : (connCells x).map stripL = connCells x := rfl
@[simp] theorem connCells_name (g : Nm → Nat) (d i k : Nat) (x : Conn) : nameC g d i k (connCells x) = connCells x := rfl
@[simp] theorem connCells_flag (s : St) (x : Conn) : (connCells x).map (flagL s) = connCells x := rfl
@[simp] theorem connCells_tags (s : St) (x : Conn) : tagsOf s (connCells x) = [] := by simp [connCells, tagsOf]
@[simp] theorem connCells_co (φ ψ : Nm → Option Nm) (s s2 : St) (x : Conn) : All2P (CoL φ ψ s s2) (connCells x) (connCells x) := by simp [connCells]

@[ext] structure Ep where
  conn : Conn
  now : Int
  out : List Seg
deriving Inhabited
def epCells (x : Ep) (tg : Tg) : List AV := [.v (.int .i64 x.conn.phase), .v (.int .u8 x.conn.self.a), .v (.int .u8 x.conn.self.b), .v (.int .u8 x.conn.self.c), .v (.int .u8 x.conn.self.d), .v (.int .u16 x.conn.self.port), .v (.int .u8 x.conn.peer.a), .v (.int .u8 x.conn.peer.b), .v (.int .u8 x.conn.peer.c), .v (.int .u8 x.conn.peer.d), .v (.int .u16 x.conn.peer.port), .v (.int .u32 x.conn.first), .v (.int .u32 x.conn.send.una), .sl 1 (encB x.conn.send.data) none, .v (.int .i64 x.conn.send.sent), .v (.bool x.conn.send.fin), .v (.bool x.conn.send.finSent), .v (.bool x.conn.send.finAcked), .v (.int .u32 x.conn.recv.next), .sl 1 (encB x.conn.recv.data) none, .sl 2 (encS pieceCells x.conn.recv.ahead) none, .v (.bool x.conn.recv.known), .v (.int .u32 x.conn.recv.fin), .v (.bool x.conn.recv.done), .v (.int .i64 x.conn.window), .v (.int .i64 x.conn.mss), .v (.int .i64 x.conn.clock.smooth), .v (.int .i64 x.conn.clock.spread), .v (.int .i64 x.conn.clock.wait), .v (.int .u64 x.conn.due), .v (.int .i64 x.conn.tries), .v (.bool x.conn.timing), .v (.int .u32 x.conn.timedSeq), .v (.int .u64 x.conn.timedAt), .v (.int .u64 x.conn.till), .v (.bool x.conn.ended), .v (.int .i64 x.conn.err), .v (.int .u64 x.now), .sl 8 (encS segCells x.out) tg]
noncomputable def pEp : List AV → Option (Ep × List AV) := fun cs => (pConn cs).bind fun (a0, cs) => (pI .u64 cs).bind fun (a1, cs) => (pGr 8 pSeg segCells cs).bind fun (a2, cs) => some (⟨a0, a1, a2⟩, cs)
theorem pEp_snd : Snd CoR pEp (fun x => epCells x flg) := by
  intro cs x r h0
  unfold pEp at h0
  obtain ⟨a0, r0, q0, h1, e0, c0⟩ := Snd.step pConn_snd.coR h0
  obtain ⟨a1, r1, q1, h2, e1, c1⟩ := Snd.step (pI_snd .u64).coR h1
  obtain ⟨a2, r2, q2, h3, e2, c2⟩ := Snd.step (pGr_snd 8 pSeg segCells) h2
  cases h3
  subst e2 e1 e0
  exact ⟨(q0 ++ (q1 ++ q2)), by simp only [List.append_assoc], (c0.app (c1.app c2))⟩
@[simp] theorem pEp_enc (x : Ep) (t : Nm × Nat) : pEp (epCells x (some t)) = some (x, []) := by simp [pEp, epCells, pConn, pSeg, decS_enc pSeg_all, pAddr, pClock, pSend, pRecv, decS_enc pPiece_all]
@[simp] theorem epCells_len (x : Ep) (tg : Tg) : (epCells x tg).length = 39 := rfl
@[simp] theorem ep_cut_conn (x : Ep) (tg : Tg) : cut (epCells x tg) 0 37 = connCells x.conn := rfl
@[simp] theorem ep_put_conn (x : Ep) (tg : Tg) (y : Conn) : splice (epCells x tg) 0 (connCells y) 37 = epCells { x with conn := y } tg := rfl
@[simp] theorem ep_get_conn_phase (x : Ep) (tg : Tg) : (epCells x tg)[0]? = some (.v (.int .i64 x.conn.phase)) := rfl
@[simp] theorem ep_put_conn_phase (x : Ep) (tg : Tg) (y : Int) : splice (epCells x tg) 0 [.v (.int .i64 y)] 1 = epCells { x with conn := { x.conn with phase := y } } tg := rfl
@[simp] theorem ep_cut_conn_self (x : Ep) (tg : Tg) : cut (epCells x tg) 1 5 = addrCells x.conn.self := rfl
@[simp] theorem ep_put_conn_self (x : Ep) (tg : Tg) (y : Addr) : splice (epCells x tg) 1 (addrCells y) 5 = epCells { x with conn := { x.conn with self := y } } tg := rfl
@[simp] theorem ep_get_conn_self_a (x : Ep) (tg : Tg) : (epCells x tg)[1]? = some (.v (.int .u8 x.conn.self.a)) := rfl
@[simp] theorem ep_put_conn_self_a (x : Ep) (tg : Tg) (y : Int) : splice (epCells x tg) 1 [.v (.int .u8 y)] 1 = epCells { x with conn := { x.conn with self := { x.conn.self with a := y } } } tg := rfl
@[simp] theorem ep_get_conn_self_b (x : Ep) (tg : Tg) : (epCells x tg)[2]? = some (.v (.int .u8 x.conn.self.b)) := rfl
@[simp] theorem ep_put_conn_self_b (x : Ep) (tg : Tg) (y : Int) : splice (epCells x tg) 2 [.v (.int .u8 y)] 1 = epCells { x with conn := { x.conn with self := { x.conn.self with b := y } } } tg := rfl
@[simp] theorem ep_get_conn_self_c (x : Ep) (tg : Tg) : (epCells x tg)[3]? = some (.v (.int .u8 x.conn.self.c)) := rfl
@[simp] theorem ep_put_conn_self_c (x : Ep) (tg : Tg) (y : Int) : splice (epCells x tg) 3 [.v (.int .u8 y)] 1 = epCells { x with conn := { x.conn with self := { x.conn.self with c := y } } } tg := rfl
@[simp] theorem ep_get_conn_self_d (x : Ep) (tg : Tg) : (epCells x tg)[4]? = some (.v (.int .u8 x.conn.self.d)) := rfl
@[simp] theorem ep_put_conn_self_d (x : Ep) (tg : Tg) (y : Int) : splice (epCells x tg) 4 [.v (.int .u8 y)] 1 = epCells { x with conn := { x.conn with self := { x.conn.self with d := y } } } tg := rfl
@[simp] theorem ep_get_conn_self_port (x : Ep) (tg : Tg) : (epCells x tg)[5]? = some (.v (.int .u16 x.conn.self.port)) := rfl
@[simp] theorem ep_put_conn_self_port (x : Ep) (tg : Tg) (y : Int) : splice (epCells x tg) 5 [.v (.int .u16 y)] 1 = epCells { x with conn := { x.conn with self := { x.conn.self with port := y } } } tg := rfl
@[simp] theorem ep_cut_conn_peer (x : Ep) (tg : Tg) : cut (epCells x tg) 6 5 = addrCells x.conn.peer := rfl
@[simp] theorem ep_put_conn_peer (x : Ep) (tg : Tg) (y : Addr) : splice (epCells x tg) 6 (addrCells y) 5 = epCells { x with conn := { x.conn with peer := y } } tg := rfl
@[simp] theorem ep_get_conn_peer_a (x : Ep) (tg : Tg) : (epCells x tg)[6]? = some (.v (.int .u8 x.conn.peer.a)) := rfl
@[simp] theorem ep_put_conn_peer_a (x : Ep) (tg : Tg) (y : Int) : splice (epCells x tg) 6 [.v (.int .u8 y)] 1 = epCells { x with conn := { x.conn with peer := { x.conn.peer with a := y } } } tg := rfl
@[simp] theorem ep_get_conn_peer_b (x : Ep) (tg : Tg) : (epCells x tg)[7]? = some (.v (.int .u8 x.conn.peer.b)) := rfl
@[simp] theorem ep_put_conn_peer_b (x : Ep) (tg : Tg) (y : Int) : splice (epCells x tg) 7 [.v (.int .u8 y)] 1 = epCells { x with conn := { x.conn with peer := { x.conn.peer with b := y } } } tg := rfl
@[simp] theorem ep_get_conn_peer_c (x : Ep) (tg : Tg) : (epCells x tg)[8]? = some (.v (.int .u8 x.conn.peer.c)) := rfl
@[simp] theorem ep_put_conn_peer_c (x : Ep) (tg : Tg) (y : Int) : splice (epCells x tg) 8 [.v (.int .u8 y)] 1 = epCells { x with conn := { x.conn with peer := { x.conn.peer with c := y } } } tg := rfl
@[simp] theorem ep_get_conn_peer_d (x : Ep) (tg : Tg) : (epCells x tg)[9]? = some (.v (.int .u8 x.conn.peer.d)) := rfl
@[simp] theorem ep_put_conn_peer_d (x : Ep) (tg : Tg) (y : Int) : splice (epCells x tg) 9 [.v (.int .u8 y)] 1 = epCells { x with conn := { x.conn with peer := { x.conn.peer with d := y } } } tg := rfl
@[simp] theorem ep_get_conn_peer_port (x : Ep) (tg : Tg) : (epCells x tg)[10]? = some (.v (.int .u16 x.conn.peer.port)) := rfl
@[simp] theorem ep_put_conn_peer_port (x : Ep) (tg : Tg) (y : Int) : splice (epCells x tg) 10 [.v (.int .u16 y)] 1 = epCells { x with conn := { x.conn with peer := { x.conn.peer with port := y } } } tg := rfl
@[simp] theorem ep_get_conn_first (x : Ep) (tg : Tg) : (epCells x tg)[11]? = some (.v (.int .u32 x.conn.first)) := rfl
@[simp] theorem ep_put_conn_first (x : Ep) (tg : Tg) (y : Int) : splice (epCells x tg) 11 [.v (.int .u32 y)] 1 = epCells { x with conn := { x.conn with first := y } } tg := rfl
@[simp] theorem ep_cut_conn_send (x : Ep) (tg : Tg) : cut (epCells x tg) 12 6 = sendCells x.conn.send := rfl
@[simp] theorem ep_put_conn_send (x : Ep) (tg : Tg) (y : Send) : splice (epCells x tg) 12 (sendCells y) 6 = epCells { x with conn := { x.conn with send := y } } tg := rfl
@[simp] theorem ep_get_conn_send_una (x : Ep) (tg : Tg) : (epCells x tg)[12]? = some (.v (.int .u32 x.conn.send.una)) := rfl
@[simp] theorem ep_put_conn_send_una (x : Ep) (tg : Tg) (y : Int) : splice (epCells x tg) 12 [.v (.int .u32 y)] 1 = epCells { x with conn := { x.conn with send := { x.conn.send with una := y } } } tg := rfl
@[simp] theorem ep_get_conn_send_data (x : Ep) (tg : Tg) : (epCells x tg)[13]? = some (.sl 1 (encB x.conn.send.data) none) := rfl
@[simp] theorem ep_put_conn_send_data (x : Ep) (tg : Tg) (y : List Int) : splice (epCells x tg) 13 [.sl 1 (encB y) none] 1 = epCells { x with conn := { x.conn with send := { x.conn.send with data := y } } } tg := rfl
@[simp] theorem ep_get_conn_send_sent (x : Ep) (tg : Tg) : (epCells x tg)[14]? = some (.v (.int .i64 x.conn.send.sent)) := rfl
@[simp] theorem ep_put_conn_send_sent (x : Ep) (tg : Tg) (y : Int) : splice (epCells x tg) 14 [.v (.int .i64 y)] 1 = epCells { x with conn := { x.conn with send := { x.conn.send with sent := y } } } tg := rfl
@[simp] theorem ep_get_conn_send_fin (x : Ep) (tg : Tg) : (epCells x tg)[15]? = some (.v (.bool x.conn.send.fin)) := rfl
@[simp] theorem ep_put_conn_send_fin (x : Ep) (tg : Tg) (y : Bool) : splice (epCells x tg) 15 [.v (.bool y)] 1 = epCells { x with conn := { x.conn with send := { x.conn.send with fin := y } } } tg := rfl
@[simp] theorem ep_get_conn_send_finSent (x : Ep) (tg : Tg) : (epCells x tg)[16]? = some (.v (.bool x.conn.send.finSent)) := rfl
@[simp] theorem ep_put_conn_send_finSent (x : Ep) (tg : Tg) (y : Bool) : splice (epCells x tg) 16 [.v (.bool y)] 1 = epCells { x with conn := { x.conn with send := { x.conn.send with finSent := y } } } tg := rfl
@[simp] theorem ep_get_conn_send_finAcked (x : Ep) (tg : Tg) : (epCells x tg)[17]? = some (.v (.bool x.conn.send.finAcked)) := rfl
@[simp] theorem ep_put_conn_send_finAcked (x : Ep) (tg : Tg) (y : Bool) : splice (epCells x tg) 17 [.v (.bool y)] 1 = epCells { x with conn := { x.conn with send := { x.conn.send with finAcked := y } } } tg := rfl
@[simp] theorem ep_cut_conn_recv (x : Ep) (tg : Tg) : cut (epCells x tg) 18 6 = recvCells x.conn.recv := rfl
@[simp] theorem ep_put_conn_recv (x : Ep) (tg : Tg) (y : Recv) : splice (epCells x tg) 18 (recvCells y) 6 = epCells { x with conn := { x.conn with recv := y } } tg := rfl
@[simp] theorem ep_get_conn_recv_next (x : Ep) (tg : Tg) : (epCells x tg)[18]? = some (.v (.int .u32 x.conn.recv.next)) := rfl
@[simp] theorem ep_put_conn_recv_next (x : Ep) (tg : Tg) (y : Int) : splice (epCells x tg) 18 [.v (.int .u32 y)] 1 = epCells { x with conn := { x.conn with recv := { x.conn.recv with next := y } } } tg := rfl
@[simp] theorem ep_get_conn_recv_data (x : Ep) (tg : Tg) : (epCells x tg)[19]? = some (.sl 1 (encB x.conn.recv.data) none) := rfl
@[simp] theorem ep_put_conn_recv_data (x : Ep) (tg : Tg) (y : List Int) : splice (epCells x tg) 19 [.sl 1 (encB y) none] 1 = epCells { x with conn := { x.conn with recv := { x.conn.recv with data := y } } } tg := rfl
@[simp] theorem ep_get_conn_recv_ahead (x : Ep) (tg : Tg) : (epCells x tg)[20]? = some (.sl 2 (encS pieceCells x.conn.recv.ahead) none) := rfl
@[simp] theorem ep_put_conn_recv_ahead (x : Ep) (tg : Tg) (y : List Piece) : splice (epCells x tg) 20 [.sl 2 (encS pieceCells y) none] 1 = epCells { x with conn := { x.conn with recv := { x.conn.recv with ahead := y } } } tg := rfl
@[simp] theorem ep_get_conn_recv_known (x : Ep) (tg : Tg) : (epCells x tg)[21]? = some (.v (.bool x.conn.recv.known)) := rfl
@[simp] theorem ep_put_conn_recv_known (x : Ep) (tg : Tg) (y : Bool) : splice (epCells x tg) 21 [.v (.bool y)] 1 = epCells { x with conn := { x.conn with recv := { x.conn.recv with known := y } } } tg := rfl
@[simp] theorem ep_get_conn_recv_fin (x : Ep) (tg : Tg) : (epCells x tg)[22]? = some (.v (.int .u32 x.conn.recv.fin)) := rfl
@[simp] theorem ep_put_conn_recv_fin (x : Ep) (tg : Tg) (y : Int) : splice (epCells x tg) 22 [.v (.int .u32 y)] 1 = epCells { x with conn := { x.conn with recv := { x.conn.recv with fin := y } } } tg := rfl
@[simp] theorem ep_get_conn_recv_done (x : Ep) (tg : Tg) : (epCells x tg)[23]? = some (.v (.bool x.conn.recv.done)) := rfl
@[simp] theorem ep_put_conn_recv_done (x : Ep) (tg : Tg) (y : Bool) : splice (epCells x tg) 23 [.v (.bool y)] 1 = epCells { x with conn := { x.conn with recv := { x.conn.recv with done := y } } } tg := rfl
@[simp] theorem ep_get_conn_window (x : Ep) (tg : Tg) : (epCells x tg)[24]? = some (.v (.int .i64 x.conn.window)) := rfl
@[simp] theorem ep_put_conn_window (x : Ep) (tg : Tg) (y : Int) : splice (epCells x tg) 24 [.v (.int .i64 y)] 1 = epCells { x with conn := { x.conn with window := y } } tg := rfl
@[simp] theorem ep_get_conn_mss (x : Ep) (tg : Tg) : (epCells x tg)[25]? = some (.v (.int .i64 x.conn.mss)) := rfl
@[simp] theorem ep_put_conn_mss (x : Ep) (tg : Tg) (y : Int) : splice (epCells x tg) 25 [.v (.int .i64 y)] 1 = epCells { x with conn := { x.conn with mss := y } } tg := rfl
@[simp] theorem ep_cut_conn_clock (x : Ep) (tg : Tg) : cut (epCells x tg) 26 3 = clockCells x.conn.clock := rfl
@[simp] theorem ep_put_conn_clock (x : Ep) (tg : Tg) (y : Clock) : splice (epCells x tg) 26 (clockCells y) 3 = epCells { x with conn := { x.conn with clock := y } } tg := rfl
@[simp] theorem ep_get_conn_clock_smooth (x : Ep) (tg : Tg) : (epCells x tg)[26]? = some (.v (.int .i64 x.conn.clock.smooth)) := rfl
@[simp] theorem ep_put_conn_clock_smooth (x : Ep) (tg : Tg) (y : Int) : splice (epCells x tg) 26 [.v (.int .i64 y)] 1 = epCells { x with conn := { x.conn with clock := { x.conn.clock with smooth := y } } } tg := rfl
@[simp] theorem ep_get_conn_clock_spread (x : Ep) (tg : Tg) : (epCells x tg)[27]? = some (.v (.int .i64 x.conn.clock.spread)) := rfl
@[simp] theorem ep_put_conn_clock_spread (x : Ep) (tg : Tg) (y : Int) : splice (epCells x tg) 27 [.v (.int .i64 y)] 1 = epCells { x with conn := { x.conn with clock := { x.conn.clock with spread := y } } } tg := rfl
@[simp] theorem ep_get_conn_clock_wait (x : Ep) (tg : Tg) : (epCells x tg)[28]? = some (.v (.int .i64 x.conn.clock.wait)) := rfl
@[simp] theorem ep_put_conn_clock_wait (x : Ep) (tg : Tg) (y : Int) : splice (epCells x tg) 28 [.v (.int .i64 y)] 1 = epCells { x with conn := { x.conn with clock := { x.conn.clock with wait := y } } } tg := rfl
@[simp] theorem ep_get_conn_due (x : Ep) (tg : Tg) : (epCells x tg)[29]? = some (.v (.int .u64 x.conn.due)) := rfl
@[simp] theorem ep_put_conn_due (x : Ep) (tg : Tg) (y : Int) : splice (epCells x tg) 29 [.v (.int .u64 y)] 1 = epCells { x with conn := { x.conn with due := y } } tg := rfl
@[simp] theorem ep_get_conn_tries (x : Ep) (tg : Tg) : (epCells x tg)[30]? = some (.v (.int .i64 x.conn.tries)) := rfl
@[simp] theorem ep_put_conn_tries (x : Ep) (tg : Tg) (y : Int) : splice (epCells x tg) 30 [.v (.int .i64 y)] 1 = epCells { x with conn := { x.conn with tries := y } } tg := rfl
@[simp] theorem ep_get_conn_timing (x : Ep) (tg : Tg) : (epCells x tg)[31]? = some (.v (.bool x.conn.timing)) := rfl
@[simp] theorem ep_put_conn_timing (x : Ep) (tg : Tg) (y : Bool) : splice (epCells x tg) 31 [.v (.bool y)] 1 = epCells { x with conn := { x.conn with timing := y } } tg := rfl
@[simp] theorem ep_get_conn_timedSeq (x : Ep) (tg : Tg) : (epCells x tg)[32]? = some (.v (.int .u32 x.conn.timedSeq)) := rfl
@[simp] theorem ep_put_conn_timedSeq (x : Ep) (tg : Tg) (y : Int) : splice (epCells x tg) 32 [.v (.int .u32 y)] 1 = epCells { x with conn := { x.conn with timedSeq := y } } tg := rfl
@[simp] theorem ep_get_conn_timedAt (x : Ep) (tg : Tg) : (epCells x tg)[33]? = some (.v (.int .u64 x.conn.timedAt)) := rfl
@[simp] theorem ep_put_conn_timedAt (x : Ep) (tg : Tg) (y : Int) : splice (epCells x tg) 33 [.v (.int .u64 y)] 1 = epCells { x with conn := { x.conn with timedAt := y } } tg := rfl
@[simp] theorem ep_get_conn_till (x : Ep) (tg : Tg) : (epCells x tg)[34]? = some (.v (.int .u64 x.conn.till)) := rfl
@[simp] theorem ep_put_conn_till (x : Ep) (tg : Tg) (y : Int) : splice (epCells x tg) 34 [.v (.int .u64 y)] 1 = epCells { x with conn := { x.conn with till := y } } tg := rfl
@[simp] theorem ep_get_conn_ended (x : Ep) (tg : Tg) : (epCells x tg)[35]? = some (.v (.bool x.conn.ended)) := rfl
@[simp] theorem ep_put_conn_ended (x : Ep) (tg : Tg) (y : Bool) : splice (epCells x tg) 35 [.v (.bool y)] 1 = epCells { x with conn := { x.conn with ended := y } } tg := rfl
@[simp] theorem ep_get_conn_err (x : Ep) (tg : Tg) : (epCells x tg)[36]? = some (.v (.int .i64 x.conn.err)) := rfl
@[simp] theorem ep_put_conn_err (x : Ep) (tg : Tg) (y : Int) : splice (epCells x tg) 36 [.v (.int .i64 y)] 1 = epCells { x with conn := { x.conn with err := y } } tg := rfl
@[simp] theorem ep_get_now (x : Ep) (tg : Tg) : (epCells x tg)[37]? = some (.v (.int .u64 x.now)) := rfl
@[simp] theorem ep_put_now (x : Ep) (tg : Tg) (y : Int) : splice (epCells x tg) 37 [.v (.int .u64 y)] 1 = epCells { x with now := y } tg := rfl
@[simp] theorem ep_get_out (x : Ep) (tg : Tg) : (epCells x tg)[38]? = some (.sl 8 (encS segCells x.out) tg) := rfl
@[simp] theorem ep_put_out (x : Ep) (tg : Tg) (y : List Seg) (tg2 : Tg) : splice (epCells x tg) 38 [.sl 8 (encS segCells y) tg2] 1 = epCells { x with out := y } tg2 := rfl
@[simp] theorem ep_whole (x : Ep) (tg : Tg) (ys : List AV) : splice (epCells x tg) 0 ys 39 = ys := by simp [splice, epCells]
@[simp] theorem ep_cutall (x : Ep) (tg : Tg) : cut (epCells x tg) 0 39 = epCells x tg := rfl
@[simp] theorem epCells_leafH (x : Ep) (tg : Tg) : (epCells x tg).all leafH = true := rfl
@[simp] theorem epCells_kL (s : St) (M : List Nm) (x : Ep) (n : Nm) (g : Nat) : (epCells x (some (n, g))).map (kL s M) = epCells x (if g = s.G n then some (n, 0) else none) := rfl
@[simp] theorem epCells_kL0 (s : St) (M : List Nm) (x : Ep) : (epCells x none).map (kL s M) = epCells x none := rfl
@[simp] theorem epCells_name (g : Nm → Nat) (d i : Nat) (x : Ep) (t : Nm × Nat) : nameC g d i 0 (epCells x (some t)) = epCells x (some ((d, i, 38), g (d, i, 38))) := rfl
@[simp] theorem epCells_flag (s : St) (x : Ep) (n : Nm) (g : Nat) : (epCells x (some (n, g))).map (flagL s) = epCells x (if g = s.G n then some ((0, 0, 0), 0) else none) := rfl
@[simp] theorem epCells_tags (s : St) (x : Ep) (n : Nm) (g : Nat) : tagsOf s (epCells x (some (n, g))) = if g = s.G n then [n] else [] := by simp [epCells, tagsOf]

end Caw

namespace Caw
open Go Go.RowKit

section
variable {P : Program} {fn : Func} {r : AV} {s : St}
theorem post_plain (l : List (Nm × Nm)) (hl : sepN l) (xs : List AV) (hx : rets P s fn.results.toList = some xs) (hr : isRef r = false) (hc : Co (lkN l) (lkN []) s (leaveSt r none) (retAV xs) (resSlot r)) : ∃ l m, PostC P fn l m r none s :=
  ⟨l, [], hl, trivial, (fun h => by cases h), ⟨xs, hx, hc⟩, (fun _ h => by cases h), (fun cs h => by subst h; cases hr)⟩
theorem post_obj (l : List (Nm × Nm)) (hl : sepN l) {cs2 cs : List AV} (xs : List AV) (hx : rets P s fn.results.toList = some xs) (hr : isRef r = false) (hc : Co (lkN l) (lkN [((0, 1, 0), (0, 1, 0))]) s (leaveSt r (some cs2)) (retAV xs) (resSlot r))
    (ho : s.ob (0, 1, 0) = some cs) (hk : All2P (CoL (lkN l) (lkN [((0, 1, 0), (0, 1, 0))]) s (leaveSt r (some cs2))) cs (nameC zg 0 1 0 cs2)) : ∃ l m, PostC P fn l m r (some cs2) s :=
  ⟨l, [((0, 1, 0), (0, 1, 0))], hl, ⟨rfl, trivial⟩, (fun _ => rfl), ⟨xs, hx, hc⟩, (fun _ h => by cases h; exact ⟨cs, ho, hk⟩), (fun cs h => by subst h; cases hr)⟩
/-- A new object is handed back. -/
theorem post_new (l : List (Nm × Nm)) (hl : sepN l) {cs2 cs : List AV} (n : Nm) (hx : rets P s fn.results.toList = some [.ptr n 0]) (ho : s.ob n = some cs)
    (hk : All2P (CoL (lkN l) (lkN [((0, 0, 0), n)]) s (leaveSt (.ref cs2) none)) cs (nameC zg 0 0 0 cs2)) : ∃ l m, PostC P fn l m (.ref cs2) none s :=
  ⟨l, [((0, 0, 0), n)], hl, ⟨rfl, trivial⟩, (fun h => by cases h), ⟨_, hx, by simp⟩, (fun _ h => by cases h), (fun cs h => by cases h; exact ⟨n, _, rfl, ho, hk⟩)⟩

variable {N : Nat} {st : St} {c x y : Code} {op : Operand} {Q : Exit → St → Prop} {next : St → Prop} {id j : Nat}
theorem tri_condT (hc : ev st op = .v (.bool true)) (h : Tri P N st x Q) : Tri P N st (.cond op x y) Q := tri_cond hc (fun _ => h) (fun e => by cases e)
theorem tri_condF (hc : ev st op = .v (.bool false)) (h : Tri P N st y Q) : Tri P N st (.cond op x y) Q := tri_cond hc (fun e => by cases e) (fun _ => h)
theorem tri_skipT {z : Code} (h : Tri P N st z Q) : Tri P N st .skip (Then (fun s => Tri P N s z Q) Q) := tri_skip h
theorem th_n {z : Code} {Q' : Exit → St → Prop} (h : Tri P N st z Q) : Then (fun s => Tri P N s z Q) Q' .normal st := h
theorem th_e (h : Q (.exit id) st) : Then next Q (.exit id) st := h
theorem th_r (h : Q .ret st) : Then next Q .ret st := h
theorem in_n (h : Q .normal st) : InBlock id Q .normal st := h
theorem in_e (h : Q .normal st) : InBlock id Q (.exit id) st := by simpa [InBlock] using h
theorem in_x (hne : (j == id) = false) (h : Q (.exit j) st) : InBlock id Q (.exit j) st := by
  have : ¬ j = id := by simpa using hne
  simpa [InBlock, this] using h
theorem in_r (h : Q .ret st) : InBlock id Q .ret st := h
end
theorem epCells_co (l : List (Nm × Nm)) (ψ : Nm → Option Nm) (s s2 : St) (x : Ep) (n n2 : Nm) (h : 0 = s.G n ∧ lkN l n2 = some n) : All2P (CoL (lkN l) ψ s s2) (epCells x (some (n, 0))) (epCells x (some (n2, 0))) := by
  simp [epCells, h]

/-! ### Arguments -/
def dI (k : IntKind) : AV → Option Int
  | .v (.int k' n) => if k' = k then some n else none
  | _ => none
def dT : AV → Option Bool
  | .v (.bool b) => some b
  | _ => none
def dZ : AV → Option ByteArray
  | .v (.string b) => some b
  | _ => none
def dR : AV → Option (List AV)
  | .ref cs => some cs
  | _ => none
@[simp] theorem dI_v (k : IntKind) (n : Int) : dI k (.v (.int k n)) = some n := by simp [dI]
@[simp] theorem dT_v (b : Bool) : dT (.v (.bool b)) = some b := rfl
@[simp] theorem dZ_v (b : ByteArray) : dZ (.v (.string b)) = some b := rfl
@[simp] theorem dR_v (cs : List AV) : dR (.ref cs) = some cs := rfl
theorem coPA_v (x : Value) : CoPA (.v x) (.v x) := by
  intro φ ψ s s2
  have h : CoL φ ψ s s2 (.v x) (.v x) := coP_v x φ ψ s s2
  cases x <;> exact h
theorem coPA_of {x : AV} {sz : Nat} {es : List AV} {tg : Tg} (h : CoP x (.sl sz es tg)) : CoPA x (.sl sz es tg) := by
  intro φ ψ s s2
  have h1 := h φ ψ s s2
  cases x with
  | v v => cases v <;> exact h1
  | _ => exact h1
theorem dI_co {k : IntKind} {x : AV} {n : Int} (h : dI k x = some n) : CoPA x (.v (.int k n)) := by
  unfold dI at h
  split at h
  · split at h
    · rename_i e; subst e; cases h; exact coPA_v _
    · cases h
  · cases h
theorem dT_co {x : AV} {b : Bool} (h : dT x = some b) : CoPA x (.v (.bool b)) := by
  unfold dT at h
  split at h
  · cases h; exact coPA_v _
  · cases h
theorem dZ_co {x : AV} {b : ByteArray} (h : dZ x = some b) : CoPA x (.v (.string b)) := by
  unfold dZ at h
  split at h
  · cases h; exact coPA_v _
  · cases h
theorem dR_eq {x : AV} {cs : List AV} (h : dR x = some cs) : x = .ref cs := by
  unfold dR at h
  split at h
  · cases h; rfl
  · cases h
theorem decB_coA {x : AV} {l : List Int} (h : decB x = some l) : CoPA x (.sl 1 (encB l) none) := coPA_of (decB_co h)
theorem decS_coA {α : Type} {sz : Nat} {p : List AV → Option (α × List AV)} {enc : α → List AV} {x : AV} {l : List α} (h : decS sz p enc x = some l) : CoPA x (.sl sz (encS enc l) none) := coPA_of (decS_co h)
theorem notRef_of {x y : AV} (h : CoPA x y) (hy : isRef y = false) (hd : y ≠ .dead) : (!isRef x) = true := by
  cases x with
  | ref cs =>
    exfalso
    have := h some some ⟨fun _ => .dead, fun _ => none, zg⟩ ⟨fun _ => .dead, fun _ => none, zg⟩
    cases y <;> first | exact this.elim | exact hd rfl | cases hy
  | _ => rfl
theorem notRefB {x y : AV} (h : CoPA x y) (hy : isRef y = false) (hd : y ≠ .dead) : isRef x = false := by
  have := notRef_of h hy hd
  simpa using this
theorem wholeC_coR {α : Type} {p : List AV → Option (α × List AV)} {enc : α → List AV} (hp : Snd CoR p enc) {cs : List AV} {y : α} (h : wholeC p cs = some y) (s s2 : St) (hG : s.G = zg) : All2P (CoL some some s s2) (nameC zg 0 1 0 cs) (nameC zg 0 1 0 (enc y)) :=
  all2_coR hG 0 (wholeC_co hp h)
@[simp] theorem wholeC_ep (x : Ep) (t : Nm × Nat) : wholeC pEp (epCells x (some t)) = some x := by simp [wholeC]
@[simp] theorem wholeC_flg (x : Ep) : wholeC pEp (epCells x flg) = some x := wholeC_ep x _
@[simp] theorem decS_seg (l : List Seg) (tg : Tg) : decS 8 pSeg segCells (.sl 8 (encS segCells l) tg) = some l := decS_enc pSeg_all l tg
@[simp] theorem decS_piece (l : List Piece) (tg : Tg) : decS 2 pPiece pieceCells (.sl 2 (encS pieceCells l) tg) = some l := decS_enc pPiece_all l tg
theorem bind_some {α β : Type} {x : Option α} {f : α → Option β} {y : β} (h : x.bind f = some y) : ∃ a, x = some a ∧ f a = some y := Option.bind_eq_some_iff.1 h
theorem ite_some {α : Type} {c : Prop} {_ : Decidable c} {x y : α} (h : (if c then some x else none) = some y) : c ∧ x = y := by
  split at h
  · cases h; exact ⟨by assumption, rfl⟩
  · cases h
end Caw

/-! Guards and branches whose outcome is not known: both are run, and what is kept is laid together. -/
namespace Caw
open Go Go.RowKit

abbrev Kept := List (Nat × AV) × List (Nm × List AV)
def keepL (L : List Nat) (M : List Nm) (s : St) : Option Kept :=
  if allOb s M then some (L.map fun i => (i, kT s M (s.sl i)), M.map fun n => (n, ((s.ob n).getD []).map (kL s M))) else none
theorem keep_L {L : List Nat} {M : List Nm} {s : St} {p : Kept} (h : keepL L M s = some p) : keep L M s = some (mkSt p.1 p.2) := by
  unfold keepL at h
  unfold keep
  split at h
  · cases h; rw [if_pos (by assumption)]
  · cases h

/-- One object's cells. -/
def mergeC (b : Bool) (x y : List AV) : List AV := if b = true then x else y
@[simp] theorem mergeC_nil (b : Bool) : mergeC b [] [] = [] := by cases b <;> rfl
@[simp] theorem mergeC_cons (b : Bool) (c d : AV) (x y : List AV) : mergeC b (c :: x) (d :: y) = (if b = true then c else d) :: mergeC b x y := by cases b <;> rfl
@[simp] theorem mergeC_self (b : Bool) (x : List AV) : mergeC b x x = x := by cases b <;> rfl
def mergeA (b : Bool) : List (Nat × AV) → List (Nat × AV) → Option (List (Nat × AV))
  | [], [] => some []
  | p :: r, q :: s => if p.1 = q.1 then (mergeA b r s).map ((p.1, if b = true then p.2 else q.2) :: ·) else none
  | _, _ => none
def mergeO (b : Bool) : List (Nm × List AV) → List (Nm × List AV) → Option (List (Nm × List AV))
  | [], [] => some []
  | p :: r, q :: s => if p.1 = q.1 then (mergeO b r s).map ((p.1, mergeC b p.2 q.2) :: ·) else none
  | _, _ => none
def merge (b : Bool) (p q : Kept) : Option Kept := (mergeA b p.1 q.1).bind fun x => (mergeO b p.2 q.2).map fun y => (x, y)
theorem mergeA_T : ∀ {x y z}, mergeA true x y = some z → z = x
  | [], [], _, h => by cases h; rfl
  | (_, _) :: r, (_, _) :: s, z, h => by
    simp only [mergeA] at h
    split at h
    · simp only [Option.map_eq_some_iff] at h
      obtain ⟨t, ht, rfl⟩ := h
      rw [mergeA_T ht]
      rfl
    · cases h
  | [], _ :: _, _, h => by cases h
  | _ :: _, [], _, h => by cases h
theorem mergeA_F : ∀ {x y z}, mergeA false x y = some z → z = y
  | [], [], _, h => by cases h; rfl
  | (_, _) :: r, (_, _) :: s, z, h => by
    simp only [mergeA] at h
    split at h
    · rename_i e
      simp only [Option.map_eq_some_iff] at h
      obtain ⟨t, ht, rfl⟩ := h
      rw [mergeA_F ht, e]
      rfl
    · cases h
  | [], _ :: _, _, h => by cases h
  | _ :: _, [], _, h => by cases h
theorem mergeO_T : ∀ {x y z}, mergeO true x y = some z → z = x
  | [], [], _, h => by cases h; rfl
  | (_, _) :: r, (_, _) :: s, z, h => by
    simp only [mergeO] at h
    split at h
    · simp only [Option.map_eq_some_iff] at h
      obtain ⟨t, ht, rfl⟩ := h
      rw [mergeO_T ht]
      rfl
    · cases h
  | [], _ :: _, _, h => by cases h
  | _ :: _, [], _, h => by cases h
theorem mergeO_F : ∀ {x y z}, mergeO false x y = some z → z = y
  | [], [], _, h => by cases h; rfl
  | (_, _) :: r, (_, _) :: s, z, h => by
    simp only [mergeO] at h
    split at h
    · rename_i e
      simp only [Option.map_eq_some_iff] at h
      obtain ⟨t, ht, rfl⟩ := h
      rw [mergeO_F ht, e]
      rfl
    · cases h
  | [], _ :: _, _, h => by cases h
  | _ :: _, [], _, h => by cases h
theorem merge_T {p q z : Kept} (h : merge true p q = some z) : z = p := by
  simp only [merge, Option.bind_eq_some_iff, Option.map_eq_some_iff] at h
  obtain ⟨x, hx, y, hy, rfl⟩ := h
  rw [mergeA_T hx, mergeO_T hy]
theorem merge_F {p q z : Kept} (h : merge false p q = some z) : z = q := by
  simp only [merge, Option.bind_eq_some_iff, Option.map_eq_some_iff] at h
  obtain ⟨x, hx, y, hy, rfl⟩ := h
  rw [mergeA_F hx, mergeO_F hy]

/-- 'x' has come to 'p': words that simp does not open. -/
def IsK (x : Option Kept) (p : Kept) : Prop := x = some p
theorem IsK.mk {p : Kept} : IsK (some p) p := rfl
def IsB (x : AV) (b : Bool) : Prop := x = .v (.bool b)
theorem IsB.mk {b : Bool} : IsB (.v (.bool b)) b := rfl

def IsV (x : Option (List AV)) (b : List AV) : Prop := x = some b
theorem IsV.mk {b : List AV} : IsV (some b) b := rfl
theorem post_plainV {P : Program} {fn : Func} {r : AV} {s : St} {xs : List AV} (hx : IsV (rets P s fn.results.toList) xs) (hr : isRef r = false) (hc : Co (lkN []) (lkN []) s (leaveSt r none) (retAV xs) (resSlot r)) : ∃ l m, PostC P fn l m r none s :=
  post_plain [] trivial xs hx hr hc
theorem post_plainL {P : Program} {fn : Func} {r : AV} {s : St} {xs : List AV} (l : List (Nm × Nm)) (hl : sepN l) (hx : IsV (rets P s fn.results.toList) xs) (hr : isRef r = false) (hc : Co (lkN l) (lkN []) s (leaveSt r none) (retAV xs) (resSlot r)) : ∃ l m, PostC P fn l m r none s :=
  post_plain l hl xs hx hr hc
theorem epCells_coE (l : List (Nm × Nm)) (ψ : Nm → Option Nm) (s s2 : St) (x y : Ep) (n n2 : Nm) (h : 0 = s.G n ∧ lkN l n2 = some n) (e : x = y) : All2P (CoL (lkN l) ψ s s2) (epCells x (some (n, 0))) (epCells y (some (n2, 0))) := by
  subst e
  exact epCells_co l ψ s s2 x n n2 h
theorem b_true {x : AV} {b : Bool} (h : IsB x b) : x = .v (.bool b) := h
/-! Names of slices that may grow, as the objects have them. -/
def lkS : List (Nm × Nm) → Nm → Option Nm
  | [], _ => none
  | p :: r, n => if n = p.1 then some p.2 else lkS r n
def lkT : List (Nm × Nm) → Nm → Option Nm
  | [], _ => none
  | p :: r, c => if c = p.2 then some p.1 else lkT r c
def tagsAt (s : St) (n : Nm) : Nat → List AV → List (Nm × Nm)
  | _, [] => []
  | k, .sl _ _ (some (m, g)) :: r => if g = s.G m then (m, (n.1, n.2.1, n.2.2 + k)) :: tagsAt s n (k + 1) r else tagsAt s n (k + 1) r
  | k, _ :: r => tagsAt s n (k + 1) r
def tagsM (s : St) : List Nm → List (Nm × Nm)
  | [] => []
  | n :: r => tagsAt s n 0 ((s.ob n).getD []) ++ tagsM s r
def kLr (s : St) (l : List (Nm × Nm)) (M : List Nm) : AV → AV
  | .v x => .v x
  | .sl sz es (some (n, g)) => .sl sz es (if g = s.G n then (match lkS l n with | some c => some (c, 0) | none => none) else none)
  | .sl sz es none => .sl sz es none
  | .rptr x k => .rptr x k
  | .ptr n k => if memN n M then .ptr n k else .dead
  | .osl n o l c => if memN n M then .osl n o l c else .dead
  | .own n o l => if memN n M then .own n o l else .dead
  | _ => .dead
def kAr (s : St) (l : List (Nm × Nm)) (M : List Nm) : AV → AV
  | .agg cs => .agg (cs.map (kLr s l M))
  | .fn g cs => .fn g (cs.map (kLr s l M))
  | x => kLr s l M x
def kTr (s : St) (l : List (Nm × Nm)) (M : List Nm) : AV → AV
  | .tup cs => .tup (cs.map (kAr s l M))
  | x => kAr s l M x
def okNm (l : List (Nm × Nm)) : Bool := l.all fun p => decide (lkS l p.1 = some p.2) && decide (lkT l p.2 = some p.1)
def keepR (L : List Nat) (M : List Nm) (s : St) : Option Kept :=
  if allOb s M && okNm (tagsM s M) then some (L.map fun i => (i, kTr s (tagsM s M) M (s.sl i)), M.map fun n => (n, ((s.ob n).getD []).map (kLr s (tagsM s M) M))) else none

theorem lkS_mem : ∀ {l : List (Nm × Nm)} {n c : Nm}, lkS l n = some c → (n, c) ∈ l
  | p :: r, n, c, h => by
    simp only [lkS] at h
    split at h
    · rename_i e; cases h; rw [e]; exact List.mem_cons_self ..
    · exact List.mem_cons_of_mem _ (lkS_mem h)
theorem lkT_mem : ∀ {l : List (Nm × Nm)} {n c : Nm}, lkT l c = some n → (n, c) ∈ l
  | p :: r, n, c, h => by
    simp only [lkT] at h
    split at h
    · rename_i e; cases h; rw [e]; exact List.mem_cons_self ..
    · exact List.mem_cons_of_mem _ (lkT_mem h)
section
variable {s s2 : St} {l : List (Nm × Nm)} {M : List Nm}
theorem okNm_ST (h : okNm l = true) {n c : Nm} (e : lkS l n = some c) : lkT l c = some n := by
  have := List.all_eq_true.1 h _ (lkS_mem e)
  simp only [Bool.and_eq_true, decide_eq_true_eq] at this
  exact this.2
theorem okNm_inj (h : okNm l = true) {n m k : Nm} (e1 : lkT l n = some k) (e2 : lkT l m = some k) : n = m := by
  have h1 := List.all_eq_true.1 h _ (lkT_mem e1)
  have h2 := List.all_eq_true.1 h _ (lkT_mem e2)
  simp only [Bool.and_eq_true, decide_eq_true_eq] at h1 h2
  exact Option.some.inj (h1.1.symm.trans h2.1)
theorem co_kLr (hl : okNm l = true) (h : ∀ n ∈ M, (s2.ob n).isSome = true) (x : AV) : CoL (lkT l) some s s2 x (kLr s l M x) := by
  cases x with
  | v x =>
    simp only [kLr]
    unfold CoL
    split <;> simp_all
  | sl sz es tg =>
    cases tg with
    | none => simp [kLr, CoL, tagCo]
    | some t =>
      obtain ⟨n, g⟩ := t
      simp only [kLr, CoL, true_and]
      by_cases hg : g = s.G n
      · rw [if_pos hg]
        cases he : lkS l n with
        | none => simp [tagCo]
        | some c => simp [tagCo, hg, okNm_ST hl he]
      · simp [hg, tagCo]
  | rptr x k => simp [kLr, CoL]
  | ptr n k =>
    simp only [kLr]
    by_cases hn : memN n M = true
    · simp [hn, CoL, h n (memN_iff.1 hn)]
    · simp [hn, CoL]
  | osl n o l c =>
    simp only [kLr]
    by_cases hn : memN n M = true
    · simp [hn, CoL, h n (memN_iff.1 hn)]
    · simp [hn, CoL]
  | own n o l =>
    simp only [kLr]
    by_cases hn : memN n M = true
    · simp [hn, CoL, h n (memN_iff.1 hn)]
    · simp [hn, CoL]
  | _ => simp [kLr, CoL]
theorem co_kAr (hl : okNm l = true) (h : ∀ n ∈ M, (s2.ob n).isSome = true) (x : AV) : CoA (lkT l) some s s2 x (kAr s l M x) := by
  cases x with
  | agg cs => simp only [kAr, CoA]; exact all2_map (co_kLr hl h) cs
  | fn g cs => simp only [kAr, CoA]; exact ⟨trivial, all2_map (co_kLr hl h) cs⟩
  | v y =>
    have := co_kLr (s := s) hl h (.v y)
    simp only [kAr, kLr] at this ⊢
    unfold CoA
    split <;> simp_all
  | sl sz es tg => exact co_kLr hl h (.sl sz es tg)
  | rptr x k => exact co_kLr (s := s) hl h (.rptr x k)
  | ptr n k =>
    have := co_kLr (s := s) hl h (.ptr n k)
    simp only [kAr]
    unfold CoA
    split <;> simp_all
  | osl n o l c =>
    have := co_kLr (s := s) hl h (.osl n o l c)
    simp only [kAr]
    unfold CoA
    split <;> simp_all
  | own n o l =>
    have := co_kLr (s := s) hl h (.own n o l)
    simp only [kAr]
    unfold CoA
    split <;> simp_all
  | _ => simp [kAr, kLr, CoA, CoL]
theorem co_kTr (hl : okNm l = true) (h : ∀ n ∈ M, (s2.ob n).isSome = true) (x : AV) : Co (lkT l) some s s2 x (kTr s l M x) := by
  have hx : ∀ y, (∀ xs, y ≠ .tup xs) → Co (lkT l) some s s2 y (kAr s l M y) := by
    intro y hy
    have := co_kAr (s := s) hl h y
    unfold Co
    split
    · exact absurd rfl (hy _)
    · rename_i vs ys hk
      exfalso
      simp [kAr, kLr] at hk
    · exact this
  cases x with
  | tup cs => simp only [kTr, Co]; exact all2_map (co_kAr hl h) cs
  | dead => exact hx _ (fun _ e => by cases e)
  | v y => exact hx _ (fun _ e => by cases e)
  | agg cs => exact hx _ (fun _ e => by cases e)
  | sl sz es tg => exact hx _ (fun _ e => by cases e)
  | ptr n k => exact hx _ (fun _ e => by cases e)
  | rptr x k => exact hx _ (fun _ e => by cases e)
  | osl n o l c => exact hx _ (fun _ e => by cases e)
  | own n o l => exact hx _ (fun _ e => by cases e)
  | ref cs => exact hx _ (fun _ e => by cases e)
  | fn g cs => exact hx _ (fun _ e => by cases e)
theorem keepR_le {N : Nat} {L : List Nat} {p : Kept} (h : keepR L M s = some p) : Le N s (mkSt p.1 p.2) := by
  unfold keepR at h
  split at h
  case isFalse => cases h
  rename_i hM
  simp only [Bool.and_eq_true] at hM
  obtain ⟨hM, hl⟩ := hM
  simp only [Option.some.injEq] at h
  subst h
  generalize tagsM s M = l at hl
  rintro B a w rfl ⟨E, h⟩
  have hob : ∀ n ∈ M, ((mkSt (L.map fun i => (i, kTr s l M (s.sl i))) (M.map fun n => (n, ((s.ob n).getD []).map (kLr s l M)))).ob n).isSome = true := by
    intro n hn
    have := lo_map (fun n => ((s.ob n).getD []).map (kLr s l M)) M n
    simp only [mkSt, this, if_pos hn]
    rfl
  refine ⟨_, h.view (φ := lkT l) (ψ := some) (fun n m k h1 h2 => okNm_inj hl h1 h2) (fun n m k h1 h2 => by cases h1; cases h2; rfl) (fun _ => rfl) (a2 := a) (N2 := B.N) h.defers h.size (fun i => ⟨_, h.sl i, ?_⟩) (fun n cs2 hn => ?_)⟩
  · have e : (mkSt (L.map fun i => (i, kTr s l M (s.sl i))) (M.map fun n => (n, ((s.ob n).getD []).map (kLr s l M)))).sl i = if i ∈ L then kTr s l M (s.sl i) else .dead := lk_map (fun i => kTr s l M (s.sl i)) L i
    rw [e]
    split
    · exact co_kTr hl hob _
    · unfold Co
      split
      · rename_i hk; cases hk
      · rename_i hk; cases hk
      · unfold CoA
        split
        · rename_i hk; cases hk
        · rename_i hk; cases hk
        · rename_i hk; cases hk
        · unfold CoL; trivial
  · have e : (mkSt (L.map fun i => (i, kTr s l M (s.sl i))) (M.map fun n => (n, ((s.ob n).getD []).map (kLr s l M)))).ob n = if n ∈ M then some (((s.ob n).getD []).map (kLr s l M)) else none := lo_map (fun n => ((s.ob n).getD []).map (kLr s l M)) M n
    rw [e] at hn
    split at hn
    case isFalse => cases hn
    rename_i hm
    simp only [Option.some.injEq] at hn
    subst hn
    obtain ⟨cs, hcs⟩ := Option.isSome_iff_exists.1 (allOb_iff hM n hm)
    refine ⟨n, cs, rfl, hcs, ?_⟩
    rw [hcs]
    exact all2_map (co_kLr hl hob) cs
end
section
variable {P : Program} {Γ : Ctx1} {C : Cfg} {N : Nat} {st s1 : St} {ops : Array Oper} {L : List Nat} {M : List Nm} {b : Bool} {p q z : Kept} {Q : Exit → St → Prop}
/-- The operations from i on, and what is kept. -/
noncomputable def runK (P : Program) (Γ : Ctx1) (C : Cfg) (N : Nat) (ops : Array Oper) (L : List Nat) (M : List Nm) (i : Nat) (st : St) : Option Kept :=
  match erunL P Γ C N ops (ops.toList.drop i) st with
  | some s => keepL L M s
  | none => none
theorem erunL_app : ∀ (l r : List Oper) (st : St), erunL P Γ C N ops (l ++ r) st = (erunL P Γ C N ops l st).bind (erunL P Γ C N ops r)
  | [], r, st => by simp [erunL]
  | o :: l, r, st => by
    simp only [List.cons_append, erunL]
    cases estep P Γ C N ops st o with
    | none => rfl
    | some s => exact erunL_app l r s
def setB (st : St) (d : Nat) (b : Bool) : St := { st with sl := setF st.sl d (.v (.bool b)) }
theorem run_split (i n d : Nat) (h1 : Is (erunL P Γ C N ops ((ops.toList.drop i).take n) st) s1) (hb : IsB (s1.sl d) b)
    (hT : IsK (runK P Γ C N ops L M (i + n) (setB s1 d true)) p) (hF : IsK (runK P Γ C N ops L M (i + n) (setB s1 d false)) q) (hm : IsK (merge b p q) z) : IsK (runK P Γ C N ops L M i st) z := by
  have e0 : ops.toList.drop i = (ops.toList.drop i).take n ++ ops.toList.drop (i + n) := by
    rw [← List.drop_drop, List.take_append_drop]
  have e1 : runK P Γ C N ops L M i st = runK P Γ C N ops L M (i + n) s1 := by
    unfold runK
    rw [e0, erunL_app, show erunL P Γ C N ops ((ops.toList.drop i).take n) st = some s1 from h1]
    rfl
  have e2 : setB s1 d b = s1 := by
    have : setF s1.sl d (.v (.bool b)) = s1.sl := by
      funext j
      unfold setF
      split
      · rename_i e; rw [e]; exact hb.symm
      · rfl
    unfold setB
    rw [this]
  unfold IsK
  rw [e1]
  cases b with
  | true => rw [e2] at hT; rw [merge_T hm]; exact hT
  | false => rw [e2] at hF; rw [merge_F hm]; exact hF

theorem runK_reg (h : IsK (runK P Γ C N ops L M 0 st) z) : ereg P Γ C N ops L M st = some (mkSt z.1 z.2) := by
  unfold IsK runK at h
  unfold ereg
  simp only [List.drop_zero] at h
  split at h
  · rename_i s hs
    rw [hs]
    exact keep_L h
  · cases h
/-- A region with guards, and what follows. -/
theorem tri_stepG {id : Nat} {draw : Bool} {y : Code} (L : List Nat) (M : List Nm) (hΓ : GOk1 P Γ)
    (hd : draw = true → P.follows .mixedOrders = true ∧ regOk C ops = true) (h : ∃ z, IsK (runK P Γ C N ops L M 0 st) z ∧ Tri P N (mkSt z.1 z.2) y Q) : Tri P N st (.seq (.region id ops draw) y) Q := by
  obtain ⟨sf, he, hq⟩ := h
  exact tri_seq (tri_reg L M hΓ hd (runK_reg he) hq)
theorem tri_lastG {id : Nat} {draw : Bool} (L : List Nat) (M : List Nm) (hΓ : GOk1 P Γ)
    (hd : draw = true → P.follows .mixedOrders = true ∧ regOk C ops = true) (h : ∃ z, IsK (runK P Γ C N ops L M 0 st) z ∧ Q .normal (mkSt z.1 z.2)) : Tri P N st (.region id ops draw) Q := by
  obtain ⟨sf, he, hq⟩ := h
  exact tri_reg L M hΓ hd (runK_reg he) hq

/-- Comes to what is kept. -/
def To (L : List Nat) (M : List Nm) (p : Kept) (s : St) : Prop := keepR L M s = some p
theorem to_mk {s : St} (h : IsK (keepR L M s) p) : To L M p s := h
/-- A branch whose arms are laid together. -/
theorem tri_ite {c : Operand} {x y r : Code} (L : List Nat) (M : List Nm) (hc : IsB (ev st c) b) (hT : b = true → Tri P N st x (Then (To L M p) Q)) (hF : b = false → Tri P N st y (Then (To L M q) Q))
    (hz : IsK (merge b p q) z) (hr : Tri P N (mkSt z.1 z.2) r Q) : Tri P N st (.seq (.cond c x y) r) Q := by
  refine tri_seq ?_
  have key : Tri P N st (.cond c x y) (Then (To L M z) Q) := by
    refine tri_cond hc (fun e => ?_) (fun e => ?_)
    · subst e; rw [merge_T hz]; exact hT rfl
    · subst e; rw [merge_F hz]; exact hF rfl
  intro B a w hN hrl
  refine wp_mono (key B a w hN hrl) ?_
  rintro e a' w' ⟨s, hq, hr'⟩
  cases e with
  | normal => exact ⟨_, hr, keepR_le hq B a' w' hN.1 hr'⟩
  | _ => exact ⟨s, hq, hr'⟩
/-- The same, at the end of an arm. -/
theorem tri_iteTo {c : Operand} {x y : Code} (L : List Nat) (M : List Nm) (hc : IsB (ev st c) b) (hT : b = true → Tri P N st x (Then (To L M p) Q)) (hF : b = false → Tri P N st y (Then (To L M q) Q))
    (hz : IsK (merge b p q) z) (hr : Q .normal (mkSt z.1 z.2)) : Tri P N st (.cond c x y) Q := by
  have key : Tri P N st (.cond c x y) (Then (To L M z) Q) := by
    refine tri_cond hc (fun e => ?_) (fun e => ?_)
    · subst e; rw [merge_T hz]; exact hT rfl
    · subst e; rw [merge_F hz]; exact hF rfl
  intro B a w hN hrl
  refine wp_mono (key B a w hN hrl) ?_
  rintro e a' w' ⟨s, hq, hr'⟩
  cases e with
  | normal => exact ⟨_, hr, keepR_le hq B a' w' hN.1 hr'⟩
  | _ => exact ⟨s, hq, hr'⟩
theorem then_to {s : St} (h : To L M p s) : Then (To L M p) Q .normal s := h
end
/-- A slice that holds nothing, by what it is. -/
theorem tri_nil {P : Program} {N : Nat} {st : St} {Q : Exit → St → Prop} {c : Code} {i : Nat} {sz : Nat} {tg : Tg} (hs : st.sl i = .sl sz [] tg) (hi : i < N) (h : ∀ a cap, Tri P N (putSt st (some i) (.v (.slice a 0 cap))) c Q) : Tri P N st c Q := by
  rintro B a w ⟨rfl, hTb⟩ ⟨E, hr⟩
  have h0 := hr.sl i
  rw [hs] at h0
  obtain ⟨ao, cap, hy, -⟩ := V_sl_inv h0
  have h1 := hr.putSt (dst := some i) (fun d e => by cases e; exact hi) (V.v (E := E) (st := st) (w := w) (a.tmps.getD i undef))
  have e : a.put (some i) (a.tmps.getD i undef) = a := by
    unfold Act.put
    have hlt : i < a.tmps.size := by rw [hr.size]; exact hi
    have : a.tmps.setIfInBounds i (a.tmps.getD i undef) = a.tmps := by
      simp [Array.setIfInBounds, Array.getD, hlt]
    simp only [this]
  rw [e, hy] at h1
  exact h ao cap B a w ⟨rfl, hTb⟩ ⟨E, h1⟩
theorem imp_ {b c : Bool} {A : Prop} (h : A) : b = c → A := fun _ => h
attribute [simp] keepR okNm lkS lkT tagsM kTr.eq_1 kTr.eq_2 kAr.eq_1 kAr.eq_2 kAr.eq_3 kLr.eq_1 kLr.eq_2 kLr.eq_3 kLr.eq_4 kLr.eq_5 kLr.eq_6 kLr.eq_7 kLr.eq_8 tagsAt keepL mergeA mergeO merge runK setB
@[simp] theorem encS_snoc_seg (l : List Seg) (a b c d e f g : Int) (x : List Int) : encS segCells l ++ [.agg [.v (.int .u16 a), .v (.int .u16 b), .v (.int .u32 c), .v (.int .u32 d), .v (.int .u8 e), .v (.int .u16 f), .v (.int .u16 g), .sl 1 (encB x) none]] = encS segCells (l ++ [⟨a, b, c, d, e, f, g, x⟩]) := by simp [encS, segCells]
@[simp] theorem encS_snoc_seg0 (l : List Seg) (a b c d e f g : Int) : encS segCells l ++ [.agg [.v (.int .u16 a), .v (.int .u16 b), .v (.int .u32 c), .v (.int .u32 d), .v (.int .u8 e), .v (.int .u16 f), .v (.int .u16 g), .sl 1 [] none]] = encS segCells (l ++ [⟨a, b, c, d, e, f, g, []⟩]) := by simp [encS, segCells, encB]
@[simp] theorem encS_snoc_seg1 (l : List Seg) (x : Seg) : encS segCells l ++ [.agg (segCells x)] = encS segCells (l ++ [x]) := by simp [encS]
@[simp] theorem encS_snoc_piece (l : List Piece) (a : Int) (x : List Int) : encS pieceCells l ++ [.agg [.v (.int .u32 a), .sl 1 (encB x) none]] = encS pieceCells (l ++ [⟨a, x⟩]) := by simp [encS, pieceCells]
@[simp] theorem encS_snoc_piece1 (l : List Piece) (x : Piece) : encS pieceCells l ++ [.agg (pieceCells x)] = encS pieceCells (l ++ [x]) := by simp [encS]
section
variable (c : Prop) [Decidable c]
@[simp] theorem ite_bool (x y : Bool) : (if c then AV.v (.bool x) else .v (.bool y)) = .v (.bool (if c then x else y)) := by split <;> rfl
@[simp] theorem ite_int (k : IntKind) (x y : Int) : (if c then AV.v (.int k x) else .v (.int k y)) = .v (.int k (if c then x else y)) := by split <;> rfl
@[simp] theorem ite_sl (n : Nat) (x y : List Int) (t : Tg) : (if c then AV.sl n (encB x) t else .sl n (encB y) t) = .sl n (encB (if c then x else y)) t := by split <;> rfl
@[simp] theorem ite_agg (x y : List AV) : (if c then AV.agg x else .agg y) = .agg (if c then x else y) := by split <;> rfl
@[simp] theorem ite_recvCells (x y : Recv) : (if c then recvCells x else recvCells y) = recvCells (if c then x else y) := by split <;> rfl
@[simp] theorem ite_sendCells (x y : Send) : (if c then sendCells x else sendCells y) = sendCells (if c then x else y) := by split <;> rfl
@[simp] theorem ite_connCells (x y : Conn) : (if c then connCells x else connCells y) = connCells (if c then x else y) := by split <;> rfl
@[simp] theorem ite_clockCells (x y : Clock) : (if c then clockCells x else clockCells y) = clockCells (if c then x else y) := by split <;> rfl
@[simp] theorem ite_segCells (x y : Seg) : (if c then segCells x else segCells y) = segCells (if c then x else y) := by split <;> rfl
@[simp] theorem ite_pieceCells (x y : Piece) : (if c then pieceCells x else pieceCells y) = pieceCells (if c then x else y) := by split <;> rfl
@[simp] theorem ite_epCells (x y : Ep) (t : Tg) : (if c then epCells x t else epCells y t) = epCells (if c then x else y) t := by split <;> rfl
@[simp] theorem mergeC_recv (b : Bool) (x y : Recv) : mergeC b (recvCells x) (recvCells y) = recvCells (if b = true then x else y) := by cases b <;> rfl
@[simp] theorem mergeC_send (b : Bool) (x y : Send) : mergeC b (sendCells x) (sendCells y) = sendCells (if b = true then x else y) := by cases b <;> rfl
@[simp] theorem mergeC_conn (b : Bool) (x y : Conn) : mergeC b (connCells x) (connCells y) = connCells (if b = true then x else y) := by cases b <;> rfl
@[simp] theorem mergeC_clock (b : Bool) (x y : Clock) : mergeC b (clockCells x) (clockCells y) = clockCells (if b = true then x else y) := by cases b <;> rfl
@[simp] theorem mergeC_seg (b : Bool) (x y : Seg) : mergeC b (segCells x) (segCells y) = segCells (if b = true then x else y) := by cases b <;> rfl
@[simp] theorem mergeC_piece (b : Bool) (x y : Piece) : mergeC b (pieceCells x) (pieceCells y) = pieceCells (if b = true then x else y) := by cases b <;> rfl
@[simp] theorem mergeC_ep (b : Bool) (x y : Ep) (t : Tg) : mergeC b (epCells x t) (epCells y t) = epCells (if b = true then x else y) t := by cases b <;> rfl
end
end Caw

/-! Printed: names of typed cells. -/
namespace Caw
open Go
@[simp] theorem addrCells_kLr (s : St) (l : List (Nm × Nm)) (M : List Nm) (x : Addr) : (addrCells x).map (kLr s l M) = addrCells x := rfl
@[simp] theorem addrCells_tagsAt (s : St) (n : Nm) (k : Nat) (x : Addr) : tagsAt s n k (addrCells x) = [] := by simp [addrCells, tagsAt]
@[simp] theorem clockCells_kLr (s : St) (l : List (Nm × Nm)) (M : List Nm) (x : Clock) : (clockCells x).map (kLr s l M) = clockCells x := rfl
@[simp] theorem clockCells_tagsAt (s : St) (n : Nm) (k : Nat) (x : Clock) : tagsAt s n k (clockCells x) = [] := by simp [clockCells, tagsAt]
@[simp] theorem pieceCells_kLr (s : St) (l : List (Nm × Nm)) (M : List Nm) (x : Piece) : (pieceCells x).map (kLr s l M) = pieceCells x := rfl
@[simp] theorem pieceCells_tagsAt (s : St) (n : Nm) (k : Nat) (x : Piece) : tagsAt s n k (pieceCells x) = [] := by simp [pieceCells, tagsAt]
@[simp] theorem recvCells_kLr (s : St) (l : List (Nm × Nm)) (M : List Nm) (x : Recv) : (recvCells x).map (kLr s l M) = recvCells x := rfl
@[simp] theorem recvCells_tagsAt (s : St) (n : Nm) (k : Nat) (x : Recv) : tagsAt s n k (recvCells x) = [] := by simp [recvCells, tagsAt]
@[simp] theorem sendCells_kLr (s : St) (l : List (Nm × Nm)) (M : List Nm) (x : Send) : (sendCells x).map (kLr s l M) = sendCells x := rfl
@[simp] theorem sendCells_tagsAt (s : St) (n : Nm) (k : Nat) (x : Send) : tagsAt s n k (sendCells x) = [] := by simp [sendCells, tagsAt]
@[simp] theorem segCells_kLr (s : St) (l : List (Nm × Nm)) (M : List Nm) (x : Seg) : (segCells x).map (kLr s l M) = segCells x := rfl
@[simp] theorem segCells_tagsAt (s : St) (n : Nm) (k : Nat) (x : Seg) : tagsAt s n k (segCells x) = [] := by simp [segCells, tagsAt]
@[simp] theorem connCells_kLr (s : St) (l : List (Nm × Nm)) (M : List Nm) (x : Conn) : (connCells x).map (kLr s l M) = connCells x := rfl
@[simp] theorem connCells_tagsAt (s : St) (n : Nm) (k : Nat) (x : Conn) : tagsAt s n k (connCells x) = [] := by simp [connCells, tagsAt]
@[simp high] theorem encAddr_kTr (s : St) (l : List (Nm × Nm)) (M : List Nm) (x : Addr) : kTr s l M (encAddr x) = encAddr x := rfl
@[simp high] theorem encAddr_kAr (s : St) (l : List (Nm × Nm)) (M : List Nm) (x : Addr) : kAr s l M (encAddr x) = encAddr x := rfl
@[simp high] theorem encAddr_kLr (s : St) (l : List (Nm × Nm)) (M : List Nm) (x : Addr) : kLr s l M (encAddr x) = encAddr x := rfl
@[simp high] theorem encClock_kTr (s : St) (l : List (Nm × Nm)) (M : List Nm) (x : Clock) : kTr s l M (encClock x) = encClock x := rfl
@[simp high] theorem encClock_kAr (s : St) (l : List (Nm × Nm)) (M : List Nm) (x : Clock) : kAr s l M (encClock x) = encClock x := rfl
@[simp high] theorem encClock_kLr (s : St) (l : List (Nm × Nm)) (M : List Nm) (x : Clock) : kLr s l M (encClock x) = encClock x := rfl
@[simp] theorem epCells_kLr (s : St) (l : List (Nm × Nm)) (M : List Nm) (x : Ep) (m : Nm) (g : Nat) : (epCells x (some (m, g))).map (kLr s l M) = epCells x (if g = s.G m then (match lkS l m with | some c => some (c, 0) | none => none) else none) := rfl
@[simp] theorem epCells_tagsAt (s : St) (n : Nm) (x : Ep) (m : Nm) (g : Nat) : tagsAt s n 0 (epCells x (some (m, g))) = if g = s.G m then [(m, (n.1, n.2.1, n.2.2 + 38))] else [] := by simp [epCells, tagsAt]
end Caw

