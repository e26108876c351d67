import Derived.Test.YtljlhooodbfpiaaGreatDoorK9
set_option linter.all false
/-! The functions of layer tcb, as plain functions. -/
namespace Caw
open Go

abbrev w32 (n : Int) : Int := IntKind.u32.wrap n
abbrev wi (n : Int) : Int := IntKind.i64.wrap n
abbrev wu (n : Int) : Int := IntKind.u64.wrap n
/-! ### seq -/
def seqAdd (a n : Int) : Int := IntKind.u32.wrap (a + IntKind.u32.wrap n)
def seqDiff (a b : Int) : Int := IntKind.i64.wrap (IntKind.i32.wrap (IntKind.u32.wrap (a - b)))
def seqLess (a b : Int) : Bool := decide (seqDiff a b < 0)
def seqIn (a s n : Int) : Bool := decide (0 < n) && decide (IntKind.u64.wrap (IntKind.u32.wrap (a - s)) < IntKind.u64.wrap n)
def seqFits (a n s w : Int) : Bool :=
  if n ≤ 0 ∧ w ≤ 0 then a == s else if n ≤ 0 then seqIn a s w else if w ≤ 0 then false
  else seqIn a s w || seqIn (seqAdd a (IntKind.i64.wrap (n - 1))) s w || seqIn s a n
/-! ### segment, rto -/
def hasF (f b : Int) : Bool := bAnd .u8 f b != 0
def segLen (s : Seg) : Int :=
  let n : Int := s.data.length
  let n := if hasF s.flags 2 then IntKind.i64.wrap (n + 1) else n
  if hasF s.flags 1 then IntKind.i64.wrap (n + 1) else n
def rtoNew : Clock := ⟨-1, -1, 10⟩
def rtoBound (n : Int) : Int := maxI 4 (minI n 240)
def rtoMeasure (c : Clock) (t : Int) : Clock :=
  let r := IntKind.i64.wrap (minI t 240)
  let c := if c.smooth < 0 ∨ c.spread < 0 then { c with smooth := IntKind.i64.wrap (8 * r), spread := IntKind.i64.wrap (2 * r) }
    else
      let off := IntKind.i64.wrap (IntKind.i64.wrap (c.smooth.tdiv 8) - r)
      { c with spread := IntKind.i64.wrap (c.spread + IntKind.i64.wrap (maxI off (IntKind.i64.wrap (0 - off)) - IntKind.i64.wrap (c.spread.tdiv 4)))
               smooth := IntKind.i64.wrap (c.smooth + IntKind.i64.wrap (r - IntKind.i64.wrap (c.smooth.tdiv 8))) }
  { c with wait := rtoBound (IntKind.i64.wrap (IntKind.i64.wrap (c.smooth.tdiv 8) + maxI 1 c.spread)) }
def rtoDouble (c : Clock) : Clock := { c with wait := rtoBound (IntKind.i64.wrap (2 * rtoBound c.wait)) }
def rtoRight (c : Clock) : Bool :=
  if c.wait < 4 ∨ 240 < c.wait then false
  else decide (c.smooth = -1) && decide (c.spread = -1) || (decide (0 ≤ c.smooth) && decide (c.smooth ≤ 1927) && decide (0 ≤ c.spread) && decide (c.spread ≤ 963))
@[simp] theorem encB_nil : encB [] = [] := rfl
/-- Not too long. -/
def Sm {α : Type} (l : List α) : Prop := l.length ≤ 100000
theorem Sm.le {α : Type} {l : List α} (h : Sm l) : l.length ≤ 100000 := h
@[simp] theorem sm_nil {α : Type} : Sm ([] : List α) := Nat.zero_le _
@[simp] theorem sm_take {α : Type} {l : List α} (n : Nat) (h : Sm l) : Sm (l.take n) := by unfold Sm at *; simp; omega
@[simp] theorem sm_drop {α : Type} {l : List α} (n : Nat) (h : Sm l) : Sm (l.drop n) := by unfold Sm at *; simp; omega
/-! ### sendq -/
/-- What the code asks of lengths. -/
def Send.sm (q : Send) : Prop := 0 ≤ q.sent ∧ q.sent ≤ q.data.length ∧ q.data.length ≤ 4096
def sendNew (u : Int) : Send := ⟨u, [], 0, false, false, false⟩
def sendRoom (q : Send) : Int := if q.fin then 0 else IntKind.i64.wrap (256 - q.data.length)
def sendWrite (q : Send) (d : List Int) : Send × Int :=
  let n := minI d.length (sendRoom q)
  ({ q with data := q.data ++ d.take n.toNat }, n)
def sendClose (q : Send) : Send := { q with fin := true }
def sendFlight (q : Send) : Int := if q.finSent && !q.finAcked then IntKind.i64.wrap (q.sent + 1) else q.sent
def nextN (q : Send) (w m : Int) : Int := maxI 0 (minI (minI (IntKind.i64.wrap (q.data.length - q.sent)) m) (IntKind.i64.wrap (maxI w 0 - q.sent)))
def nextF (q : Send) (w m : Int) : Bool := q.fin && !q.finSent && decide (IntKind.i64.wrap (q.sent + nextN q w m) = q.data.length)
def nextOk (q : Send) (w m : Int) : Bool := !(decide (nextN q w m = 0) && !nextF q w m)
def sendNext (q : Send) (w m : Int) : Send × Piece × Bool × Bool :=
  if nextOk q w m then
    ({ q with sent := IntKind.i64.wrap (q.sent + nextN q w m), finSent := q.finSent || nextF q w m }, ⟨seqAdd q.una q.sent, (q.data.take (IntKind.i64.wrap (q.sent + nextN q w m)).toNat).drop q.sent.toNat⟩, nextF q w m, true)
  else (q, ⟨0, []⟩, false, false)
def againN (q : Send) (m : Int) : Int := maxI 0 (minI q.sent m)
def againF (q : Send) (m : Int) : Bool := q.finSent && !q.finAcked && decide (againN q m = q.data.length)
def sendAgain (q : Send) (m : Int) : Piece × Bool × Bool :=
  if decide (againN q m = 0) && !againF q m then (⟨0, []⟩, false, false) else (⟨q.una, q.data.take (againN q m).toNat⟩, againF q m, true)
def sendAck (q : Send) (a : Int) : Send × Int × Int :=
  if seqDiff a q.una ≤ 0 then (q, 0, 0) else if sendFlight q < seqDiff a q.una then (q, 0, 1) else
  let n := minI (seqDiff a q.una) q.sent
  ({ q with una := a, data := q.data.drop n.toNat, sent := IntKind.i64.wrap (q.sent - n), finAcked := q.finAcked || decide (n < seqDiff a q.una) }, seqDiff a q.una, 0)
def sendRight (q : Send) : Bool :=
  decide ((q.data.length : Int) ≤ 256) && decide (0 ≤ q.sent) && decide (q.sent ≤ q.data.length) && (!q.finSent || q.fin && decide (q.sent = q.data.length)) && (!q.finAcked || q.finSent && decide (q.data.length = 0))
theorem wi_of {n : Int} (h : -9223372036854775808 ≤ n) (k : n ≤ 9223372036854775807) : IntKind.i64.wrap n = n := by
  rw [IntKind.wrap_i64]; omega
theorem write_facts (q : Send) (d : List Int) (h : q.data.length ≤ 256) : 0 ≤ minI d.length (sendRoom q) ∧ minI d.length (sendRoom q) ≤ d.length ∧ (q.data.length + min (minI d.length (sendRoom q)).toNat d.length) * 2 ≤ 1099511627776 ∧ (q.data.length + (minI d.length (sendRoom q)).toNat) * 2 ≤ 1099511627776 := by
  unfold sendRoom
  have := wi_of (n := 256 - q.data.length) (by omega) (by omega)
  rw [this]
  unfold minI
  split <;> split <;> refine ⟨?_, ?_, ?_, ?_⟩ <;> omega
theorem nextN_fold (q : Send) (w m : Int) : maxI 0 (minI (minI (IntKind.i64.wrap (q.data.length - q.sent)) m) (IntKind.i64.wrap (maxI w 0 - q.sent))) = nextN q w m := rfl
theorem nextN_le (q : Send) (w m : Int) (h : q.sm) : 0 ≤ nextN q w m ∧ q.sent + nextN q w m ≤ q.data.length ∧ IntKind.i64.wrap (q.sent + nextN q w m) = q.sent + nextN q w m := by
  obtain ⟨h1, h2, h3⟩ := h
  have hw := wi_of (n := q.data.length - q.sent) (by omega) (by omega)
  have key : 0 ≤ nextN q w m ∧ q.sent + nextN q w m ≤ q.data.length := by
    unfold nextN
    rw [hw]
    unfold maxI minI
    constructor <;> (repeat' split) <;> omega
  exact ⟨key.1, key.2, wi_of (by omega) (by omega)⟩
theorem next_facts (q : Send) (w m : Int) (h : q.sm) : 0 ≤ q.sent ∧ q.sent ≤ IntKind.i64.wrap (q.sent + nextN q w m) ∧ IntKind.i64.wrap (q.sent + nextN q w m) ≤ q.data.length ∧ min (IntKind.i64.wrap (q.sent + nextN q w m)).toNat q.data.length - q.sent.toNat ≤ 100000 := by
  obtain ⟨a, b, c⟩ := nextN_le q w m h
  obtain ⟨h1, h2, h3⟩ := h
  rw [c]
  refine ⟨h1, ?_, ?_, ?_⟩ <;> omega
theorem againN_fold (q : Send) (m : Int) : maxI 0 (minI q.sent m) = againN q m := rfl
theorem again_facts (q : Send) (m : Int) (h : q.sm) : 0 ≤ againN q m ∧ againN q m ≤ q.data.length ∧ min (againN q m).toNat q.data.length ≤ 100000 := by
  obtain ⟨h1, h2, h3⟩ := h
  unfold againN maxI minI
  refine ⟨?_, ?_, ?_⟩ <;> (repeat' split) <;> omega
theorem ack_facts (q : Send) (a : Int) (h : q.sm) : seqDiff a q.una ≤ 0 ∨ (¬ seqDiff a q.una ≤ 0 ∧ 0 ≤ minI (seqDiff a q.una) q.sent ∧ minI (seqDiff a q.una) q.sent ≤ q.data.length) := by
  obtain ⟨h1, h2, h3⟩ := h
  by_cases hd : seqDiff a q.una ≤ 0
  · exact .inl hd
  · refine .inr ⟨hd, ?_, ?_⟩ <;> unfold minI <;> split <;> omega
/-! ### tcb -/
/-- Room for n segments more. -/
def Rm (n : Nat) (l : List Seg) : Prop := l.length + n ≤ 100000
theorem rm_fit {n : Nat} {l : List Seg} (h : Rm (n + 1) l) (k : Nat) (hk : k ≤ 1000000) : (l.length + 1) * k ≤ 1099511627776 := by
  unfold Rm at h
  have := Nat.mul_le_mul (show l.length + 1 ≤ 100000 by omega) hk
  omega
theorem rm_le {n m : Nat} {l : List Seg} (h : Rm n l) (hm : m ≤ n) : Rm m l := by unfold Rm at *; omega
@[simp] theorem rm_snoc (n : Nat) (l : List Seg) (s : Seg) : Rm n (l ++ [s]) = Rm (n + 1) l := by unfold Rm; simp [Nat.add_assoc, Nat.add_comm 1]
@[simp] theorem rm_nil (n : Nat) : Rm n [] = (n ≤ 100000) := by simp [Rm]
def recvWindow (q : Recv) : Int := IntKind.i64.wrap (256 - q.data.length)
def recvNew (n : Int) : Recv := ⟨n, [], [], false, 0, false⟩
def epTell (e : Ep) (f : Int) (p : Piece) : Ep :=
  { e with out := e.out ++ [⟨e.conn.self.port, e.conn.peer.port, p.seq, if hasF f 16 then e.conn.recv.next else 0, f, IntKind.u16.wrap (recvWindow e.conn.recv), if hasF f 2 then 64 else 0, p.data⟩] }
def epAck (e : Ep) : Ep := epTell e 16 ⟨seqAdd e.conn.send.una (sendFlight e.conn.send), []⟩
def epArm (e : Ep) : Ep := { e with conn := { e.conn with due := IntKind.u64.wrap (e.now + IntKind.u64.wrap e.conn.clock.wait) } }
def epHello (e : Ep) : Ep := epTell e (if e.conn.phase = 2 then bOr .u8 2 16 else 2) ⟨e.conn.first, []⟩
def epMeet (e : Ep) (s : Seg) : Ep :=
  { e with conn := { e.conn with recv := recvNew (seqAdd s.seq 1), window := IntKind.i64.wrap s.wnd, mss := if s.mss = 0 then e.conn.mss else maxI 1 (minI (IntKind.i64.wrap s.mss) 64) } }
def epShut (e : Ep) (y : Int) : Ep := { e with conn := { e.conn with phase := 0, err := y, due := 0, timing := false } }
def epBroken (e : Ep) : Ep := if e.conn.phase = 4 then epShut e 0 else epShut e 12
def epMeasure (e : Ep) (a : Int) : Ep :=
  if e.conn.timing && !seqLess a e.conn.timedSeq then
    { e with conn := { e.conn with clock := rtoMeasure e.conn.clock (IntKind.u64.wrap (e.now - minI e.now e.conn.timedAt)), timing := false } }
  else e
def epOpened (e : Ep) (s : Seg) : Ep := epMeasure { e with conn := { e.conn with phase := 3, tries := 0, due := 0 } } s.ack
def epOver (e : Ep) : Ep :=
  if e.conn.phase ≠ 3 ∨ e.conn.recv.done = false ∨ e.conn.send.finAcked = false then e
  else if e.conn.ended then { e with conn := { e.conn with phase := 4, till := IntKind.u64.wrap (e.now + 40), due := 0, timing := false } }
  else epShut e 0
def refuse (s : Seg) : Seg :=
  if hasF s.flags 16 then ⟨s.dst, s.src, s.ack, 0, 4, 0, 0, []⟩ else ⟨s.dst, s.src, 0, seqAdd s.seq (segLen s), 20, 0, 0, []⟩
def pshF (p : Piece) (fin : Bool) : Int :=
  let f : Int := if 0 < p.data.length then bOr .u8 16 8 else 16
  if fin then bOr .u8 f 1 else f
def epAgain (e : Ep) : Ep :=
  if e.conn.phase ≠ 3 then epHello e else
  if (sendAgain e.conn.send e.conn.mss).2.2 then epTell e (pshF (sendAgain e.conn.send e.conn.mss).1 (sendAgain e.conn.send e.conn.mss).2.1) (sendAgain e.conn.send e.conn.mss).1
  else { e with conn := { e.conn with due := 0 } }
end Caw

/-! An array that is not written any more is read as a slice. -/
namespace Caw
open Go Go.RowKit

def oneV : AV → Bool
  | .v (.agg _) => false
  | .v _ => true
  | _ => false
theorem oneV_flat {x : AV} (h : oneV x = true) : flat x = [x] ∧ ∃ v, x = .v v := by
  cases x with
  | v v => cases v <;> first | (cases h; done) | exact ⟨rfl, _, rfl⟩
  | _ => cases h
def fzL (n : Nm) (cs : List AV) : AV → AV
  | .osl m o l c => if m = n then (if decide (o + l ≤ cs.length) && decide (l ≤ c) && (cut cs o l).all oneV then .sl 1 (cut cs o l) none else .dead) else .osl m o l c
  | .ptr m k => if m = n then .dead else .ptr m k
  | .own m s l => if m = n then .dead else .own m s l
  | .v x => .v x
  | .sl sz es tg => .sl sz es tg
  | .rptr x k => .rptr x k
  | _ => .dead
def fzA (n : Nm) (cs : List AV) : AV → AV
  | .agg xs => .agg (xs.map (fzL n cs))
  | .fn g xs => .fn g (xs.map (fzL n cs))
  | x => fzL n cs x
def fzT (n : Nm) (cs : List AV) : AV → AV
  | .tup xs => .tup (xs.map (fzA n cs))
  | x => fzA n cs x
def fzS (n : Nm) (cs : List AV) (st : St) : St := ⟨fun i => fzT n cs (st.sl i), fun m => if m = n then none else (st.ob m).map (·.map (fzL n cs)), st.G⟩

section
variable {P : Program} {B : Base} {w : World} {E : Env} {st : St} {a : Act} {n : Nm} {cs : List AV} {vs : Array Value} {e : TypeId}
def fzE (E : Env) (n : Nm) (k0 : Nat) : Env := ⟨E.ρ, E.τ, fun b k => E.pr b k ∨ (b = E.ρ n ∧ k < k0)⟩
theorem V_fzL (hh : w.heap[E.ρ n]? = some (.cells vs e (0, 0))) (hl : cs.length ≤ vs.size) (hv : ∀ i (hi : i < cs.length), V E st w cs[i] (vs.getD i undef)) {x : AV} {y : Value} (h : V E st w x y) :
    V (fzE E n vs.size) (fzS n cs st) w (fzL n cs x) y := by
  cases x with
  | dead => exact .dead _
  | agg => exact .dead _
  | tup => exact .dead _
  | ref => exact .dead _
  | fn => exact .dead _
  | v x => rw [V_v h]; exact .v _
  | sl sz es tg =>
    cases h with
    | sl h ht => exact .sl (h.mono (Fr.refl _ _) (fun _ _ => .inl)) ht
  | rptr x k =>
    cases h with
    | rptr cells hp h hc => exact .rptr cells (fun j hj => .inl (hp j hj)) (fun j hj => (h j hj).mono (Fr.refl _ _) (fun _ _ => .inl)) hc
  | ptr m k =>
    simp only [fzL]
    split
    · exact .dead _
    · rename_i hm
      cases h with
      | ptr h => exact .ptr (E := fzE E n vs.size) (by simpa [fzS, hm] using h)
  | osl m o l c =>
    simp only [fzL]
    by_cases hm : m = n
    · rw [if_pos hm]
      split
      case isFalse => exact .dead _
      rename_i hc
      simp only [Bool.and_eq_true, decide_eq_true_eq] at hc
      obtain ⟨⟨h1, h2⟩, h3⟩ := hc
      subst hm
      cases h with
      | osl hob =>
        have hlen : (cut cs o l).length = l := by simp [cut]; omega
        have hel : ∀ i (hi : i < (cut cs o l).length), flat (cut cs o l)[i] = [(cut cs o l)[i]] ∧ (cut cs o l)[i] = .v (vs.getD (o + i) undef) := by
          intro i hi
          obtain ⟨f1, v, f2⟩ := oneV_flat (List.all_eq_true.1 h3 _ (List.getElem_mem hi))
          refine ⟨f1, ?_⟩
          have hi' : o + i < cs.length := by omega
          have e1 : (cut cs o l)[i] = cs[o + i] := by simp [cut]
          have := hv (o + i) hi'
          rw [← e1, f2] at this
          rw [f2, V_v this]
        have key : PV w (fzE E m vs.size).pr (.sl 1 (cut cs o l) none) (.slice (some ⟨E.ρ m, o, none⟩) (cut cs o l).length c) := by
          refine .sl (fun i _ => vs.getD (o + i) undef) (by omega) (fun i hi => by rw [(hel i hi).1]; rfl) (fun i hi j hj => .inr ⟨rfl, by omega⟩) (fun i hi j hj => ?_) (fun i hi j hj => ?_)
          · have hf := hel i hi
            have hj0 : j = 0 := by rw [hf.1] at hj; simpa using hj
            subst hj0
            have e1 : (flat (cut cs o l)[i])[0] = (cut cs o l)[i] := by simp [hf.1]
            rw [e1, hf.2]
            exact .v _
          · have hj0 : j = 0 := by omega
            subst hj0
            have hi2 : o + i < vs.size := by omega
            simp [World.cell?, hh, hi2, Array.getD]
        rw [hlen] at key
        exact .sl key (fun _ _ h => by cases h)
    · rw [if_neg hm]
      cases h with
      | osl h => exact .osl (E := fzE E n vs.size) (by simpa [fzS, hm] using h)
  | own m s l =>
    simp only [fzL]
    split
    · exact .dead _
    · rename_i hm
      cases h with
      | own h hle hr => exact .own (E := fzE E n vs.size) (by simpa [fzS, hm] using h) hle hr

theorem V_fz_all {f g : AV → AV} {E' : Env} {st' : St} (hf : ∀ {x y}, V E st w x y → V E' st' w (f x) y) {xs : List AV} {us : Array Value} (hl : xs.length = us.size)
    (h : ∀ i (hi : i < xs.length), V E st w xs[i] (us.getD i undef)) : (xs.map f).length = us.size ∧ ∀ i (hi : i < (xs.map f).length), V E' st' w (xs.map f)[i] (us.getD i undef) :=
  ⟨by simpa using hl, fun i hi => by
    rw [List.getElem_map]
    exact hf (h i (by simpa using hi))⟩
theorem V_fzA (hh : w.heap[E.ρ n]? = some (.cells vs e (0, 0))) (hl : cs.length ≤ vs.size) (hv : ∀ i (hi : i < cs.length), V E st w cs[i] (vs.getD i undef)) {x : AV} {y : Value} (h : V E st w x y) :
    V (fzE E n vs.size) (fzS n cs st) w (fzA n cs x) y := by
  cases x with
  | agg xs =>
    cases h with
    | agg h1 h2 =>
      have := V_fz_all (g := id) (V_fzL hh hl hv) h1 h2
      exact .agg this.1 this.2
  | fn f xs =>
    cases h with
    | fn h1 h2 =>
      have := V_fz_all (g := id) (V_fzL hh hl hv) h1 h2
      exact .fn this.1 this.2
  | _ => exact V_fzL hh hl hv h
theorem V_fzT (hh : w.heap[E.ρ n]? = some (.cells vs e (0, 0))) (hl : cs.length ≤ vs.size) (hv : ∀ i (hi : i < cs.length), V E st w cs[i] (vs.getD i undef)) {x : AV} {y : Value} (h : V E st w x y) :
    V (fzE E n vs.size) (fzS n cs st) w (fzT n cs x) y := by
  cases x with
  | tup xs =>
    cases h with
    | tup h1 h2 =>
      have := V_fz_all (g := id) (V_fzA hh hl hv) h1 h2
      exact .tup this.1 this.2
  | _ => exact V_fzA hh hl hv h

theorem Rel0.freeze (h : Rel0 B E st a w) (hn : st.ob n = some cs) : ∃ E2, Rel0 B E2 (fzS n cs st) a w := by
  obtain ⟨vs, e, hh, hl, hv⟩ := h.ob n cs hn
  have hne : ∀ m, (fzS n cs st).ob m ≠ none → m ≠ n ∧ st.ob m ≠ none := by
    intro m hm
    simp only [fzS] at hm
    split at hm
    · exact absurd rfl hm
    · rename_i h1; exact ⟨h1, by simpa using hm⟩
  have hrn : ∀ m, m ≠ n → st.ob m ≠ none → E.ρ m ≠ E.ρ n := fun m h1 h2 he => h1 (h.inj m n h2 (by rw [hn]; simp) he)
  refine ⟨fzE E n vs.size, fun i => V_fzT hh hl hv (h.sl i), fun m cs2 hm => ?_, fun m k hm hk he => h.inj m k (hne m hm).2 (hne k hk).2 he, fun m hm k hp => ?_, fun m hm => h.own m (hne m hm).2, fun m b e' ht => ?_, h.tdis, h.frame, h.keep, fun b k hp => .inl (h.prot b k hp), fun b k hp => ?_, fun b k hp => ?_, fun hm => h.pin (hne _ hm).2, h.defers, h.size⟩
  · have h1 := hne m (by rw [hm]; simp)
    simp only [fzS, if_neg h1.1, Option.map_eq_some_iff] at hm
    obtain ⟨cs1, h2, rfl⟩ := hm
    obtain ⟨us, e1, q1, q2, q3⟩ := h.ob m cs1 h2
    refine ⟨us, e1, q1, by simpa using q2, fun i hi => ?_⟩
    rw [List.getElem_map]
    exact V_fzL hh hl hv (q3 i (by simpa using hi))
  · obtain ⟨h1, h2⟩ := hne m hm
    rcases hp with hp | ⟨hp, -⟩
    · exact h.obp m h2 k hp
    · exact hrn m h1 h2 hp
  · obtain ⟨t1, t2, t3, t4⟩ := h.tau m b e' ht
    refine ⟨t1, t2, fun k hk hp => ?_, fun j hj => t4 j (hne j hj).2⟩
    rcases hp with hp | ⟨hp, -⟩
    · exact t3 k hk hp
    · exact t4 n (by rw [hn]; simp) hp.symm
  · rcases hp with hp | ⟨rfl, -⟩
    · exact h.prnew b k hp
    · exact .inr (h.own n (by rw [hn]; simp))
  · rcases hp with hp | ⟨rfl, -⟩
    · exact h.prlt b k hp
    · exact (Array.getElem?_eq_some_iff.1 hh).1

end

/-- The same for what is kept. -/
def fzK (n : Nm) (p : Kept) : Option Kept :=
  match lo p.2 n with
  | some cs => some (p.1.map (fun q => (q.1, fzT n cs q.2)), (p.2.filter fun q => !decide (q.1 = n)).map fun q => (q.1, q.2.map (fzL n cs)))
  | none => none
theorem lk_fz (n : Nm) (cs : List AV) (i : Nat) : ∀ l : List (Nat × AV), lk (l.map fun q => (q.1, fzT n cs q.2)) i = fzT n cs (lk l i)
  | [] => rfl
  | q :: r => by
    simp only [List.map_cons, lk, lk_fz n cs i r]
    split <;> rfl
theorem lo_fz (n : Nm) (cs : List AV) (m : Nm) : ∀ l : List (Nm × List AV), lo ((l.filter fun q => !decide (q.1 = n)).map fun q => (q.1, q.2.map (fzL n cs))) m = if m = n then none else (lo l m).map (·.map (fzL n cs))
  | [] => by simp [lo]
  | q :: r => by
    by_cases hq : q.1 = n
    · rw [List.filter_cons_of_neg (by simp [hq]), lo_fz n cs m r]
      by_cases hm : m = n
      · simp [hm]
      · have : m ≠ q.1 := fun e => hm (e.trans hq)
        simp [hm, lo, this]
    · rw [List.filter_cons_of_pos (by simp [hq])]
      simp only [List.map_cons, lo, lo_fz n cs m r]
      by_cases hm : m = q.1
      · have : q.1 ≠ n := hq
        simp [hm, this]
      · simp [hm]
theorem fzK_le {N : Nat} {n : Nm} {p z : Kept} (h : fzK n p = some z) : Le N (mkSt p.1 p.2) (mkSt z.1 z.2) := by
  unfold fzK at h
  split at h
  case h_2 => cases h
  rename_i cs hcs
  cases h
  rintro B a w rfl ⟨E, h⟩
  obtain ⟨E2, h2⟩ := h.freeze (n := n) (cs := cs) (by simpa using hcs)
  refine ⟨E2, ?_⟩
  have e : fzS n cs (mkSt p.1 p.2) = mkSt (p.1.map fun q => (q.1, fzT n cs q.2)) ((p.2.filter fun q => !decide (q.1 = n)).map fun q => (q.1, q.2.map (fzL n cs))) := by
    unfold fzS mkSt
    congr 1
    · funext i; exact (lk_fz n cs i p.1).symm
    · funext m; exact (lo_fz n cs m p.2).symm
  rw [← e]
  exact h2

section
variable {P : Program} {Γ : Ctx1} {C : Cfg} {N : Nat} {st : St} {ops : Array Oper} {L : List Nat} {M : List Nm} {n : Nm} {p z : Kept} {Q : Exit → St → Prop}
/-- A region behind which an array is not written any more. -/
theorem tri_lastF {id : Nat} {draw : Bool} (L : List Nat) (M : List Nm) (n : Nm) (hΓ : GOk1 P Γ)
    (hd : draw = true → P.follows .mixedOrders = true ∧ regOk C ops = true) (h : ∃ p z, IsK (runK P Γ C N ops L M 0 st) p ∧ IsK (fzK n p) z ∧ Q .normal (mkSt z.1 z.2)) : Tri P N st (.region id ops draw) Q := by
  obtain ⟨p, z, h1, h2, hq⟩ := h
  have h3 : Tri P N st (.region id ops draw) (fun e s => e = .normal ∧ s = mkSt p.1 p.2) := tri_reg L M hΓ hd (runK_reg h1) ⟨rfl, rfl⟩
  intro B a w hN hr
  refine wp_mono (h3 B a w hN hr) ?_
  rintro e a' w' ⟨s', ⟨rfl, rfl⟩, hr'⟩
  exact ⟨_, hq, fzK_le h2 B a' w' hN.1 hr'⟩
theorem tri_stepF {id : Nat} {draw : Bool} {y : Code} (L : List Nat) (M : List Nm) (n : Nm) (hΓ : GOk1 P Γ)
    (hd : draw = true → P.follows .mixedOrders = true ∧ regOk C ops = true) (h : ∃ p z, IsK (runK P Γ C N ops L M 0 st) p ∧ IsK (fzK n p) z ∧ Tri P N (mkSt z.1 z.2) y Q) : Tri P N st (.seq (.region id ops draw) y) Q := by
  obtain ⟨p, z, h1, h2, hq⟩ := h
  exact tri_seq (tri_lastF L M n hΓ hd ⟨p, z, h1, h2, hq⟩)
end
end Caw

/-! The functions of layers recvq and tcb, as plain functions: the second half. -/
namespace Caw
open Go

/-! ### recvq -/
def idxF (t : Int) : List Piece → Nat → Int
  | [], _ => -1
  | p :: r, i => if 0 < seqDiff (seqAdd p.seq p.data.length) t then (i : Int) else idxF t r (i + 1)
def recvBeyond (q : Recv) (t : Int) : Bool := q.ahead.any fun p => decide (0 < seqDiff (seqAdd p.seq p.data.length) t)
def paste (b : List Int) (k : Nat) (d : List Int) : List Int := b.take k ++ d ++ b.drop (k + d.length)
def bothFrom (f t : Piece) : Int := if seqLess t.seq f.seq then t.seq else f.seq
def bothLen (f t : Piece) : Int :=
  maxI (IntKind.i64.wrap (seqDiff f.seq (bothFrom f t) + f.data.length)) (IntKind.i64.wrap (seqDiff t.seq (bothFrom f t) + t.data.length))
def both (f t : Piece) : Piece :=
  ⟨bothFrom f t, paste (paste (List.replicate (bothLen f t).toNat 0) (seqDiff t.seq (bothFrom f t)).toNat t.data) (seqDiff f.seq (bothFrom f t)).toNat f.data⟩
/-- Where 'both' may be called. -/
def bothOk (f t : Piece) : Prop :=
  ∃ L k1 k2 : Nat, bothLen f t = L ∧ seqDiff f.seq (bothFrom f t) = k1 ∧ seqDiff t.seq (bothFrom f t) = k2 ∧ k1 + f.data.length ≤ L ∧ k2 + t.data.length ≤ L ∧ k1 ≠ L ∧ k2 ≠ L ∧ L ≤ 100000
theorem bothFrom_fold (f t : Piece) : (if seqLess t.seq f.seq = true then t.seq else f.seq) = bothFrom f t := rfl
theorem bothLen_fold (f t : Piece) : maxI (IntKind.i64.wrap (seqDiff f.seq (bothFrom f t) + f.data.length)) (IntKind.i64.wrap (seqDiff t.seq (bothFrom f t) + t.data.length)) = bothLen f t := rfl
def layLoop : List Piece → List Piece → Piece → List Piece × Piece
  | [], out, p => (out, p)
  | x :: r, out, p =>
    if seqDiff (seqAdd x.seq x.data.length) p.seq < 0 then layLoop r (out ++ [x]) p
    else if seqDiff (seqAdd p.seq p.data.length) x.seq < 0 then layLoop r (out ++ [p]) x
    else layLoop r out (both x p)
def layOk : List Piece → Piece → Prop
  | [], _ => True
  | x :: r, p =>
    if seqDiff (seqAdd x.seq x.data.length) p.seq < 0 then layOk r p
    else if seqDiff (seqAdd p.seq p.data.length) x.seq < 0 then layOk r x
    else bothOk x p ∧ layOk r (both x p)
def layAll (l : List Piece) (p : Piece) : List Piece := (layLoop l [] p).1 ++ [(layLoop l [] p).2]
def layPut (q : Recv) (out : List Piece) : Recv := if (out.length : Int) ≤ 8 then { q with ahead := out } else q
def layEnd (q : Recv) (out : List Piece) : Recv :=
  match out with
  | [] => q
  | y :: r => if y.seq = q.next then layPut { q with data := q.data ++ y.data, next := seqAdd q.next y.data.length } r else layPut q (y :: r)
def lay (q : Recv) (p : Piece) : Recv := layEnd q (layAll q.ahead p)
def accKnow (q : Recv) (a : Int) (d : List Int) (e : Bool) : Bool :=
  e && !q.known && decide (0 ≤ seqDiff (seqAdd a d.length) q.next) && decide (seqDiff (seqAdd a d.length) q.next ≤ recvWindow q) && !recvBeyond q (seqAdd a d.length)
def accMark (q : Recv) (a : Int) (d : List Int) (e : Bool) : Recv := if accKnow q a d e then { q with known := true, fin := seqAdd a d.length } else q
def accFrom (q : Recv) (a : Int) : Int := maxI (seqDiff a q.next) 0
def accTo (q : Recv) (a : Int) (d : List Int) (e : Bool) : Int :=
  let t := minI (IntKind.i64.wrap (seqDiff a q.next + d.length)) (recvWindow q)
  if (accMark q a d e).known then minI t (seqDiff (accMark q a d e).fin q.next) else t
def accPiece (q : Recv) (a : Int) (d : List Int) (e : Bool) : Piece :=
  let skip := IntKind.i64.wrap (accFrom q a - seqDiff a q.next)
  ⟨seqAdd q.next (accFrom q a), (d.take (IntKind.i64.wrap (IntKind.i64.wrap (skip + accTo q a d e) - accFrom q a)).toNat).drop skip.toNat⟩
def accLay (q : Recv) (a : Int) (d : List Int) (e : Bool) : Recv := if accFrom q a < accTo q a d e then lay (accMark q a d e) (accPiece q a d e) else accMark q a d e
def accDone (q : Recv) : Recv := if q.known && decide (q.fin = q.next) then { q with done := true, next := seqAdd q.next 1 } else q
def recvAccept (q : Recv) (a : Int) (d : List Int) (e : Bool) : Recv := if q.done then q else accDone (accLay q a d e)
def readN (q : Recv) (n : Int) : Int := maxI 0 (minI n q.data.length)
def recvRead (q : Recv) (n : Int) : Recv × List Int := ({ q with data := q.data.drop (readN q n).toNat }, q.data.take (readN q n).toNat)
/-- Where the pieces that came ahead end, if they lie in order; below 0: they don't. -/
def recvAt (q : Recv) : List Piece → Int → Option Int
  | [], t => some t
  | p :: r, t =>
    let d := seqDiff p.seq q.next
    if d ≤ t ∨ p.data.length = 0 ∨ recvWindow q < IntKind.i64.wrap (d + p.data.length) then none else recvAt q r (IntKind.i64.wrap (d + p.data.length))
def recvRight (q : Recv) : Bool :=
  if 256 < (q.data.length : Int) ∨ 8 < (q.ahead.length : Int) ∨ (q.done = true ∧ (q.known = false ∨ 0 < (q.ahead.length : Int) ∨ q.next ≠ seqAdd q.fin 1)) ∨ (q.known = false ∧ q.fin ≠ 0) then false else
  match recvAt q q.ahead 0 with
  | none => false
  | some t => !q.known || q.done || (decide (0 < seqDiff q.fin q.next) && decide (t ≤ seqDiff q.fin q.next) && decide (seqDiff q.fin q.next ≤ recvWindow q))
/-- What the code asks of lengths. -/
def Recv.sm (q : Recv) : Prop := q.data.length ≤ 4096 ∧ q.ahead.length ≤ 4096 ∧ ∀ p ∈ q.ahead, p.data.length ≤ 4096
/-! ### tcb -/
def epAt (c : Conn) (now : Int) : Ep := ⟨c, now, []⟩
def epBegin (phase : Int) (self peer : Addr) (first now : Int) : Ep :=
  epArm ⟨⟨phase, self, peer, first, sendNew (seqAdd first 1), ⟨0, [], [], false, 0, false⟩, 0, 64, rtoNew, 0, 0, true, seqAdd first 1, now, 0, false, 0⟩, now, []⟩
def epDial (self peer : Addr) (first now : Int) : Ep := epHello (epBegin 1 self peer first now)
def epAnswer (self peer : Addr) (s : Seg) (first now : Int) : Ep := epHello (epMeet (epBegin 2 self peer first now) s)
def pushW (e : Ep) : Int := if e.conn.window = 0 ∧ sendFlight e.conn.send = 0 then 1 else e.conn.window
def pushN (e : Ep) : Send × Piece × Bool × Bool := sendNext e.conn.send (pushW e) e.conn.mss
def pushStep (e : Ep) : Ep :=
  let n := pushN e
  let f := pshF n.2.1 n.2.2.1
  let e : Ep := epTell { e with conn := { e.conn with send := n.1 } } f n.2.1
  let e : Ep := if e.conn.timing then e else { e with conn := { e.conn with timing := true, timedSeq := seqAdd n.2.1.seq (segLen ⟨0, 0, 0, 0, f, 0, 0, n.2.1.data⟩), timedAt := e.now } }
  if e.conn.due = 0 then epArm e else e
def pushLoop : Nat → Ep → Ep
  | 0, e => e
  | n + 1, e => if e.conn.phase = 3 ∧ (pushN e).2.2.2 = true then pushLoop n (pushStep e) else e
/-- How often there is something to send, at most. -/
def pushM (q : Send) : Nat := (q.data.length - q.sent).toNat + (if q.fin && !q.finSent then 1 else 0)
def epPush (e : Ep) : Ep := pushLoop (pushM e.conn.send) e
def epTakesAck (e : Ep) (s : Seg) : Ep :=
  let r := sendAck e.conn.send s.ack
  let e : Ep := { e with conn := { e.conn with send := r.1 } }
  let e : Ep := if 0 < r.2.1 then
      let e : Ep := epMeasure e s.ack
      let e : Ep := { e with conn := { e.conn with tries := 0, due := 0 } }
      if 0 < sendFlight r.1 then epArm e else e
    else e
  if s.ack = r.1.una then
    let e : Ep := { e with conn := { e.conn with window := IntKind.i64.wrap s.wnd } }
    if e.conn.window = 0 then { e with conn := { e.conn with tries := 0 } } else e
  else e
def epTakesData (e : Ep) (s : Seg) : Ep := epOver { e with conn := { e.conn with recv := recvAccept e.conn.recv s.seq s.data (hasF s.flags 1) } }
def epTakesEnd (e : Ep) (s : Seg) : Ep :=
  let e2 := epPush e
  if e2.out.length = e.out.length ∧ 0 < segLen s then epAck e2 else e2
def epTakesOpen (e : Ep) (s : Seg) : Ep :=
  if (sendAck e.conn.send s.ack).2.2 ≠ 0 then epAck e else epTakesEnd (epTakesData (epTakesAck e s) s) s
def epTakes (e : Ep) (s : Seg) : Ep :=
  if e.conn.phase = 2 then
    if s.ack ≠ seqAdd e.conn.first 1 then { e with out := e.out ++ [refuse s] } else epTakesOpen (epOpened e s) s
  else epTakesOpen e s
def epLate (e : Ep) (s : Seg) : Ep :=
  let e2 := if recvWindow e.conn.recv = 0 ∧ hasF s.flags 16 = true ∧ seqIn s.seq e.conn.recv.next 3 = true then epTakes e { s with data := [], flags := bAndNot .u8 s.flags 1 } else e
  if 0 < segLen s ∧ e2.out.length = 0 then epAck e2 else e2
def isMine (e : Ep) (s : Seg) : Bool := hasF s.flags 16 && decide (s.ack = seqAdd e.conn.first 1)
def epDialling (e : Ep) (s : Seg) : Ep :=
  if hasF s.flags 4 then (if isMine e s then epShut e 14 else e)
  else if hasF s.flags 16 && !isMine e s then { e with out := e.out ++ [refuse s] }
  else if hasF s.flags 2 && isMine e s then epPush (epAck (epOpened (epMeet e s) s))
  else if hasF s.flags 2 then epHello (epMeet { e with conn := { e.conn with phase := 2 } } s)
  else e
def epHear (c : Conn) (s : Seg) (now : Int) : Ep :=
  let e : Ep := epAt c now
  if c.phase = 0 then e
  else if c.phase = 1 then epDialling e s
  else if hasF s.flags 4 then (if seqFits s.seq 0 c.recv.next (recvWindow c.recv) then epBroken e else e)
  else if hasF s.flags 2 then epAck e
  else if !seqFits s.seq (segLen s) c.recv.next (recvWindow c.recv) then epLate e s
  else if hasF s.flags 16 then epTakes e s
  else e
/-- Bytes go: the end, how many, the segments, the error. -/
def epWrite (c : Conn) (d : List Int) (now : Int) : Conn × Int × List Seg × Int :=
  if c.phase = 0 ∧ c.err ≠ 0 then (c, 0, [], c.err)
  else if c.phase = 0 ∨ c.phase = 4 ∨ c.send.fin = true then (c, 0, [], 3)
  else if sendRoom c.send = 0 ∧ 0 < d.length then (c, 0, [], 10)
  else
    let e : Ep := epPush { epAt c now with conn := { c with send := (sendWrite c.send d).1 } }
    (e.conn, (sendWrite c.send d).2, e.out, 0)
def epRead (c : Conn) (n : Int) (now : Int) : Conn × List Int × List Seg × Int :=
  if n < 1 then (c, [], [], 1)
  else if 0 < c.recv.data.length then
    let e : Ep := { epAt c now with conn := { c with recv := (recvRead c.recv n).1 } }
    let e : Ep := if c.phase = 3 ∧ recvWindow c.recv < 64 then epAck e else e
    (e.conn, (recvRead c.recv n).2, e.out, 0)
  else if c.recv.done then (c, [], [], 11)
  else if c.phase = 0 ∧ c.err ≠ 0 then (c, [], [], c.err)
  else if c.phase = 0 then (c, [], [], 3)
  else (c, [], [], 10)
def epClose (c : Conn) (now : Int) : Ep :=
  let e : Ep := epAt c now
  if c.phase = 1 then epShut e 0
  else if (c.phase = 2 ∨ c.phase = 3) ∧ c.send.fin = false then epPush { e with conn := { e.conn with send := sendClose c.send, ended := !c.recv.done } }
  else e
def epAbort (c : Conn) (why : Int) : Ep :=
  let e : Ep := epAt c 0
  let e : Ep := if c.phase = 2 ∨ c.phase = 3 then { e with out := [⟨c.self.port, c.peer.port, seqAdd c.send.una (sendFlight c.send), c.recv.next, 20, 0, 0, []⟩] } else e
  if c.phase ≠ 0 then epShut e why else e
def epTick (c : Conn) (now : Int) : Ep :=
  let e : Ep := epAt c now
  if c.phase = 4 ∧ c.till ≤ now then epShut e 0
  else if c.due = 0 ∨ now < c.due then e
  else if 8 ≤ c.tries then epShut e 13
  else epAgain (epArm { e with conn := { e.conn with tries := IntKind.i64.wrap (c.tries + 1), clock := rtoDouble c.clock, timing := false } })
end Caw
namespace Caw
open Go
/-- Where 'lay' may be called. -/
def layPre (q : Recv) (p : Piece) : Prop := q.sm ∧ layOk q.ahead p ∧ ∀ y ∈ layAll q.ahead p, y.data.length ≤ 100000
def accSkip (q : Recv) (a : Int) : Int := IntKind.i64.wrap (accFrom q a - seqDiff a q.next)
def accHi (q : Recv) (a : Int) (d : List Int) (e : Bool) : Int := IntKind.i64.wrap (IntKind.i64.wrap (accSkip q a + accTo q a d e) - accFrom q a)
def accOk (q : Recv) (a : Int) (d : List Int) (e : Bool) : Prop :=
  q.sm ∧ d.length ≤ 4096 ∧ (q.done = false → accFrom q a < accTo q a d e → 0 ≤ accSkip q a ∧ accSkip q a ≤ accHi q a d e ∧ accHi q a d e ≤ d.length ∧ layPre (accMark q a d e) (accPiece q a d e))
theorem accFrom_fold (q : Recv) (a : Int) : maxI (seqDiff a q.next) 0 = accFrom q a := rfl
theorem accSkip_fold (q : Recv) (a : Int) : IntKind.i64.wrap (accFrom q a - seqDiff a q.next) = accSkip q a := rfl
theorem accHi_fold (q : Recv) (a : Int) (d : List Int) (e : Bool) : IntKind.i64.wrap (IntKind.i64.wrap (accSkip q a + accTo q a d e) - accFrom q a) = accHi q a d e := rfl
end Caw

/-! Helpers of walks with loops, closures and arrays. -/
namespace Caw
open Go Go.RowKit

/-! ### Closures as arguments -/
def dX (k : IntKind) : AV → Option Int
  | .rptr (.v (.int k' n)) 0 => if k' = k then some n else none
  | _ => none
@[simp] theorem dX_v (k : IntKind) (n : Int) : dX k (.rptr (.v (.int k n)) 0) = some n := by simp [dX]
theorem dX_co {k : IntKind} {x : AV} {n : Int} (h : dX k x = some n) : CoPA x (.rptr (.v (.int k n)) 0) := by
  unfold dX at h
  split at h
  · split at h
    · rename_i e; subst e; cases h
      intro φ ψ s s2
      exact ⟨rfl, rfl⟩
    · cases h
  · cases h
def dF (f : FuncId) (k : IntKind) : AV → Option Int
  | .fn g [.rptr (.v (.int k' n)) 0] => if g = f ∧ k' = k then some n else none
  | _ => none
@[simp] theorem dF_v (f : FuncId) (k : IntKind) (n : Int) : dF f k (.fn f [.rptr (.v (.int k n)) 0]) = some n := by simp [dF]
theorem dF_co {f : FuncId} {k : IntKind} {x : AV} {n : Int} (h : dF f k x = some n) : CoPA x (.fn f [.rptr (.v (.int k n)) 0]) := by
  unfold dF at h
  split at h
  · split at h
    · rename_i e; obtain ⟨e1, e2⟩ := e; subst e1; subst e2; cases h
      intro φ ψ s s2
      exact ⟨rfl, ⟨rfl, rfl⟩, trivial⟩
    · cases h
  · cases h

/-! ### Less is told of lists -/
def coK (φ ψ : Nm → Option Nm) (s s2 : St) : List (Nat × AV) → List (Nat × AV) → Prop
  | [], [] => True
  | p :: r, q :: t => p.1 = q.1 ∧ Co φ ψ s s2 p.2 q.2 ∧ coK φ ψ s s2 r t
  | _, _ => False
def coO (φ ψ : Nm → Option Nm) (s s2 : St) : List (Nm × List AV) → List (Nm × List AV) → Prop
  | [], [] => True
  | p :: r, q :: t => p.1 = q.1 ∧ All2P (CoL φ ψ s s2) p.2 q.2 ∧ coO φ ψ s s2 r t
  | _, _ => False
theorem coK_lk {φ ψ : Nm → Option Nm} {s s2 : St} : ∀ {l t : List (Nat × AV)}, coK φ ψ s s2 l t → ∀ i, Co φ ψ s s2 (lk l i) (lk t i)
  | [], [], _, i => by simp only [lk]; unfold Co; split <;> first | (rename_i h; cases h; done) | (unfold CoA; split <;> first | (rename_i h; cases h; done) | (unfold CoL; trivial))
  | p :: r, q :: t, h, i => by
    simp only [lk, ← h.1]
    split
    · exact h.2.1
    · exact coK_lk h.2.2 i
theorem coO_lo {φ ψ : Nm → Option Nm} {s s2 : St} : ∀ {l t : List (Nm × List AV)}, coO φ ψ s s2 l t → ∀ n cs2, lo t n = some cs2 → ∃ cs, lo l n = some cs ∧ All2P (CoL φ ψ s s2) cs cs2
  | [], [], _, n, cs2, h => by cases h
  | p :: r, q :: t, h, n, cs2, hn => by
    simp only [lo, ← h.1] at hn ⊢
    split
    · rename_i e
      rw [if_pos e] at hn
      cases hn
      exact ⟨_, rfl, h.2.1⟩
    · rename_i e
      rw [if_neg e] at hn
      exact coO_lo h.2.2 n cs2 hn
theorem le_K {N : Nat} {ss tt : List (Nat × AV)} {oo uu : List (Nm × List AV)} (h1 : coK some some (mkSt ss oo) (mkSt tt uu) ss tt) (h2 : coO some some (mkSt ss oo) (mkSt tt uu) oo uu) : Le N (mkSt ss oo) (mkSt tt uu) :=
  le_of_co (coK_lk h1) (coO_lo h2)

/-! ### Lists -/
@[simp] theorem encS_get? {α : Type} (enc : α → List AV) (l : List α) (k : Nat) : (encS enc l)[k]? = l[k]?.map fun x => .agg (enc x) := by simp [encS]
@[simp] theorem encB_get? (l : List Int) (k : Nat) : (encB l)[k]? = l[k]?.map fun n => .v (.int .u8 n) := by simp [encB]
theorem get_mid {α : Type} {l d r : List α} {x : α} {i : Nat} (h : l = d ++ x :: r) (hi : i = d.length) : l[i]? = some x := by subst h; subst hi; simp
theorem lt_mid {α : Type} {l d r : List α} {x : α} {i : Nat} (h : l = d ++ x :: r) (hi : i = d.length) : decide (i < l.length) = true := by subst h; subst hi; simp
theorem ge_end {α : Type} {l d : List α} {i : Nat} (h : l = d ++ []) (hi : i = d.length) : decide (i < l.length) = false := by subst h; subst hi; simp
theorem wi_succ {i : Nat} (h : i ≤ 1000000) : IntKind.i64.wrap ((i : Int) + 1) = ((i + 1 : Nat) : Int) := by
  rw [wi_of (by omega) (by omega)]; rfl
theorem piece_eta (p : Piece) : (⟨p.seq, p.data⟩ : Piece) = p := rfl

/-! ### Arrays of bytes -/
def makeB (P : Program) (t : TypeId) : Bool :=
  match P.underlying t with
  | some (.slice e) => (match P.info? e with
    | some i => (match i.zero with
      | some (.int .u8 0) => i.size == 1 && i.bytes == 1
      | _ => false)
    | none => false)
  | _ => false
theorem emake_eq {P : Program} {st : St} {d : Nat} {t : TypeId} {n : Int} (h : makeB P t = true) : emake P st d t n = if 0 ≤ n ∧ n * 2 ≤ 1099511627776 ∧ (st.ob (nmOf d 0)).isNone = true then
    some (.osl (nmOf d 0) 0 n.toNat n.toNat, { st with ob := setF st.ob (nmOf d 0) (some (encB (List.replicate n.toNat 0))) }) else none := by
  unfold makeB at h
  split at h
  case h_2 => cases h
  rename_i e hu
  split at h
  case h_2 => cases h
  rename_i i hi
  split at h
  case h_2 => cases h
  rename_i hz
  simp only [Bool.and_eq_true, beq_iff_eq] at h
  obtain ⟨h1, h2⟩ := h
  have e1 : ∀ k : Nat, (madeCells (Value.int .u8 0).cells k).toList.map AV.v = encB (List.replicate k 0) := by
    intro k
    have : (Value.int .u8 0).cells = #[.int .u8 0] := rfl
    rw [this]
    unfold madeCells encB
    simp only [Array.toList_map, Array.toList_range, List.map_map]
    apply List.ext_getElem
    · simp
    · intro j hj1 hj2
      simp [Nat.mod_one]
  unfold emake
  simp only [hu, hi, hz, h1, h2, Nat.mul_one, if_true]
  rw [e1]
  rfl
theorem splice_B (b d : List Int) (k : Nat) : splice (encB b) k (encB d) d.length = encB (paste b k d) := by
  simp [splice, paste, encB]
@[simp] theorem paste_len (b d : List Int) (k : Nat) (h : k + d.length ≤ b.length) : (paste b k d).length = b.length := by
  simp [paste]; omega
@[simp] theorem cut_B (b : List Int) (k n : Nat) : cut (encB b) k n = encB ((b.drop k).take n) := by simp [cut]
@[simp] theorem encB_oneV (b : List Int) : (encB b).all oneV = true := by simp [encB, oneV]
attribute [simp] fzK fzT.eq_1 fzT.eq_2 fzA.eq_1 fzA.eq_2 fzA.eq_3 fzL.eq_1 fzL.eq_2 fzL.eq_3 fzL.eq_4 fzL.eq_5 coK coO
end Caw
namespace Caw
theorem idxF_any (t : Int) : ∀ (l : List Piece) (i : Nat), (decide (0 ≤ idxF t l i)) = l.any fun p => decide (0 < seqDiff (seqAdd p.seq p.data.length) t)
  | [], i => rfl
  | p :: r, i => by
    simp only [idxF, List.any_cons]
    split
    · rename_i h; simp [h]
    · rename_i h; simp [h, idxF_any t r (i + 1)]
end Caw
namespace Caw
/-- The i-th element of l is the first of r; a word that simp does not open. -/
def At {α : Type} (l d r : List α) (i : Nat) : Prop := l = d ++ r ∧ i = d.length
section
variable {α : Type} {l d r : List α} {x : α} {i : Nat}
theorem At.start (l : List α) : At l [] l 0 := ⟨rfl, rfl⟩
theorem At.next (h : At l d (x :: r) i) : At l (d ++ [x]) r (i + 1) := ⟨by rw [h.1]; simp, by rw [h.2]; simp⟩
theorem At.get (h : At l d (x :: r) i) : l[i]? = some x := get_mid h.1 h.2
theorem At.lt (h : At l d (x :: r) i) : decide (i < l.length) = true := lt_mid h.1 h.2
theorem At.ge (h : At l d [] i) : decide (i < l.length) = false := ge_end h.1 h.2
theorem At.wi (h : At l d (x :: r) i) (hl : l.length ≤ 1000000) : Go.IntKind.i64.wrap ((i : Int) + 1) = ((i + 1 : Nat) : Int) := wi_succ (by have := h.lt; simp at this; omega)
theorem At.mem (h : At l d (x :: r) i) : x ∈ l := by rw [h.1]; simp
theorem At.end (h : At l d [] i) : d = l := by rw [h.1]; simp
end
end Caw
namespace Caw
@[simp] theorem encB_kL (s : St) (M : List Nm) (l : List Int) : (encB l).map (kL s M) = encB l := by simp [encB]
@[simp] theorem encB_kLr (s : St) (m : List (Nm × Nm)) (M : List Nm) (l : List Int) : (encB l).map (kLr s m M) = encB l := by simp [encB]
@[simp] theorem encB_fzL (n : Nm) (cs : List AV) (l : List Int) : (encB l).map (fzL n cs) = encB l := by simp [encB]
end Caw
namespace Caw
open Go
/-! ### Elements' tags say nothing -/
def stripE : AV → AV
  | .agg cs => .agg (cs.map stripL)
  | .sl sz es _ => .sl sz es none
  | x => x
def cK : AV → AV
  | .sl sz es tg => .sl sz (es.map stripE) tg
  | x => x
section
variable {B : Base} {w : World} {E : Env} {st : St} {a : Act} {pr : Pr}
theorem PV_stripL {x : AV} {y : Value} (h : PV w pr x y) : PV w pr (stripL x) y := by
  cases x with
  | sl sz es tg => exact PV_tag none h
  | _ => exact h
theorem flat_stripE (x : AV) : flat (stripE x) = (flat x).map stripL := by
  cases x with
  | agg cs => rfl
  | v v => cases v <;> first | rfl | (simp only [stripE, flat]; induction ‹Array Value›.toList <;> simp_all [stripL])
  | _ => rfl
theorem PV_cK {sz : Nat} {es : List AV} {tg : Tg} {y : Value} (h : PV w pr (.sl sz es tg) y) : PV w pr (.sl sz (es.map stripE) tg) y := by
  cases h with
  | nil => exact .nil _ _
  | sl cells hle hs hp h hc =>
    rename_i b off cap
    have key : PV w pr (.sl sz (es.map stripE) tg) (.slice (some ⟨b, off, none⟩) (es.map stripE).length cap) := by
      refine .sl cells (by simpa using hle) (fun i hi => ?_) (fun i hi j hj => hp i (by simpa using hi) j hj) (fun i hi j hj => ?_) (fun i hi j hj => hc i (by simpa using hi) j hj)
      · rw [List.getElem_map, flat_stripE, List.length_map]
        exact hs i (by simpa using hi)
      · have hi' : i < es.length := by simpa using hi
        have e : flat (es.map stripE)[i] = (flat es[i]).map stripL := by rw [List.getElem_map, flat_stripE]
        have hj' : j < (flat es[i]).length := by rw [e] at hj; simpa using hj
        have e2 : (flat (es.map stripE)[i])[j] = stripL (flat es[i])[j] := by
          rw [List.getElem_of_eq e hj]
          simp
        rw [e2]
        exact PV_stripL (h i hi' j hj')
    rw [List.length_map] at key
    exact key
theorem V_cK {x : AV} {y : Value} (h : V E st w x y) : V E st w (cK x) y := by
  cases x with
  | sl sz es tg =>
    cases h with
    | sl h ht => exact .sl (PV_cK h) ht
  | _ => exact h
theorem le_cK {N : Nat} {ss : List (Nat × AV)} {oo : List (Nm × List AV)} : Le N (mkSt ss oo) (mkSt (ss.map fun p => (p.1, cK p.2)) (oo.map fun p => (p.1, p.2.map cK))) := by
  have e1 : ∀ (l : List (Nat × AV)) i, lk (l.map fun p => (p.1, cK p.2)) i = cK (lk l i) := by
    intro l i
    induction l with
    | nil => rfl
    | cons p r ih => simp only [List.map_cons, lk, ih]; split <;> rfl
  have e2 : ∀ (l : List (Nm × List AV)) n, lo (l.map fun p => (p.1, p.2.map cK)) n = (lo l n).map (·.map cK) := by
    intro l n
    induction l with
    | nil => rfl
    | cons p r ih => simp only [List.map_cons, lo, ih]; split <;> rfl
  have hob : ∀ n, (mkSt (ss.map fun p => (p.1, cK p.2)) (oo.map fun p => (p.1, p.2.map cK))).ob n ≠ none ↔ (mkSt ss oo).ob n ≠ none := by
    intro n
    simp only [mk_ob, e2]
    simp
  rintro B a w rfl ⟨E, h⟩
  have step : Step E E (mkSt ss oo) (mkSt (ss.map fun p => (p.1, cK p.2)) (oo.map fun p => (p.1, p.2.map cK))) w w :=
    ⟨Fr.refl _ _, fun _ _ h => h, fun n hn => ⟨(hob n).2 hn, rfl⟩, fun n => .inl ⟨rfl, rfl⟩⟩
  refine ⟨E, fun i => ?_, fun n cs hn => ?_, fun n m hn hm he => h.inj n m ((hob n).1 hn) ((hob m).1 hm) he, fun n hn => h.obp n ((hob n).1 hn), fun n hn => h.own n ((hob n).1 hn), fun n b e ht => ?_, h.tdis, h.frame, h.keep, h.prot, h.prnew, h.prlt, fun hn => h.pin ((hob _).1 hn), h.defers, h.size⟩
  · simp only [mk_sl, e1]
    exact V_cK ((h.sl i).mono step)
  · simp only [mk_ob, e2, Option.map_eq_some_iff] at hn
    obtain ⟨cs1, h1, rfl⟩ := hn
    obtain ⟨vs, e, q1, q2, q3⟩ := h.ob n cs1 h1
    refine ⟨vs, e, q1, by simpa using q2, fun i hi => ?_⟩
    rw [List.getElem_map]
    exact V_cK ((q3 i (by simpa using hi)).mono step)
  · obtain ⟨t1, t2, t3, t4⟩ := h.tau n b e ht
    exact ⟨t1, t2, t3, fun m hm => t4 m ((hob m).1 hm)⟩
end
@[simp] theorem encB_stripE (l : List Int) : (encB l).map stripE = encB l := by simp [encB, stripE]
@[simp] theorem encS_stripE_piece (l : List Piece) : (encS pieceCells l).map stripE = encS pieceCells l := by simp [encS, stripE, pieceCells, stripL]
@[simp] theorem encS_stripE_seg (l : List Seg) : (encS segCells l).map stripE = encS segCells l := by simp [encS, stripE, segCells, stripL]
@[simp] theorem encS_nil {α : Type} (enc : α → List AV) : encS enc [] = [] := rfl
attribute [simp] cK.eq_1 stripE.eq_1 stripE.eq_2
@[simp] theorem cK_v (x : Value) : cK (.v x) = .v x := rfl
@[simp] theorem cK_ptr (n : Nm) (k : Nat) : cK (.ptr n k) = .ptr n k := rfl
@[simp] theorem cK_rptr (x : AV) (k : Nat) : cK (.rptr x k) = .rptr x k := rfl
@[simp] theorem cK_agg (x : List AV) : cK (.agg x) = .agg x := rfl
@[simp] theorem cK_osl (n : Nm) (a b c : Nat) : cK (.osl n a b c) = .osl n a b c := rfl
@[simp] theorem cK_own (n : Nm) (a b : Nat) : cK (.own n a b) = .own n a b := rfl
end Caw
namespace Caw
open Go
/-- The same, with names of slices that may grow told anew. -/
theorem le_Kn {N : Nat} {ss tt : List (Nat × AV)} {oo uu : List (Nm × List AV)} (l : List (Nm × Nm)) (hl : sepN l) (h1 : coK (lkN l) some (mkSt ss oo) (mkSt tt uu) ss tt) (h2 : coO (lkN l) some (mkSt ss oo) (mkSt tt uu) oo uu) : Le N (mkSt ss oo) (mkSt tt uu) := by
  rintro B a w rfl ⟨E, h⟩
  refine ⟨viewE E (lkN l) some, ?_⟩
  have := h.view (st2 := mkSt tt uu) (φ := lkN l) (ψ := some) (lkN_inj hl) (fun n m k h1 h2 => by cases h1; cases h2; rfl) (fun _ => rfl) (a2 := a) (N2 := B.N) h.defers h.size
    (fun i => ⟨_, h.sl i, coK_lk h1 i⟩) (fun n cs2 hn => by
      obtain ⟨cs, h3, h4⟩ := coO_lo h2 n cs2 hn
      exact ⟨n, cs, rfl, h3, h4⟩)
  exact this
end Caw
namespace Caw
open Go
@[simp] theorem encS_getE {α : Type} (enc : α → List AV) (l : List α) (k : Nat) (h : k < (encS enc l).length) : (encS enc l)[k] = .agg (enc (l[k]'(by simpa using h))) := by simp [encS]
end Caw
namespace Caw
@[simp] theorem one_le_succ (n : Nat) : ((1 : Int) ≤ (n : Int) + 1) = True := eq_true (by omega)
@[simp] theorem zero_le_succ (n : Nat) : ((0 : Int) ≤ (n : Int) + 1) = True := eq_true (by omega)
end Caw
namespace Caw
@[simp] theorem encS_tail {α : Type} (enc : α → List AV) (l : List α) : (encS enc l).tail = encS enc l.tail := by cases l <;> rfl
@[simp] theorem encB_tail (l : List Int) : (encB l).tail = encB l.tail := by cases l <;> rfl
end Caw

