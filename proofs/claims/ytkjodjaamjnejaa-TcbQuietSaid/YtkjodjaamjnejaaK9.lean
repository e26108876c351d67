import Derived.Test.YtkjodjaamjnejaaK8
set_option linter.all false
/-! The laws of layer tcb: their steps, as plain functions. -/
namespace Caw
open Go
theorem refMod_range (n : Int) (h : -4294967296 ≤ n) (k : n ≤ 4294967296) : 0 ≤ refMod n ∧ refMod n < 4294967296 := by
  unfold refMod
  have h1 := Int.emod_add_mul_ediv n 4294967296
  have h2 : n.tmod 4294967296 = if 0 ≤ n then n % 4294967296 else -((-n) % 4294967296) := by
    split
    · rw [Int.tmod_eq_emod_of_nonneg (by omega)]
    · have := Int.tmod_eq_emod_of_nonneg (a := -n) (b := 4294967296) (by omega)
      rw [Int.neg_tmod] at this
      omega
  rw [h2]
  split <;> split <;> first | omega | (rw [wi_of (by omega) (by omega)]; omega)
theorem wi_range (n : Int) : -9223372036854775808 ≤ IntKind.i64.wrap n ∧ IntKind.i64.wrap n ≤ 9223372036854775807 := by
  rw [IntKind.wrap_i64]; omega
/-- Is an end's segment not what it may be? Printed by the walk, and put into words below. -/
theorem lt_of_lt {a b : Int} (h : a ≤ b) : ¬ b < a := by omega
end Caw
namespace Caw
open Go
def fitsL (l : List Stp) : Bool := l.all (fun x => decide ((x.data.length : Int) ≤ 300)) && decide ((l.length : Int) ≤ 80)
end Caw
namespace Caw
open Go
theorem talk_le {N : Nat} {ss : List (Nat × AV)} {x : Seg} {t t2 : Talk} (h : t = t2) : Le N (mkSt ss [((0,1,0), talkCells t), ((8,0,0), segCells x)]) (mkSt ss [((0,1,0), talkCells t2), ((8,0,0), segCells x)]) := by subst h; exact Le.refl _
theorem talk_le1 {N : Nat} {ss : List (Nat × AV)} {t t2 : Talk} (h : t = t2) : Le N (mkSt ss [((0,1,0), talkCells t)]) (mkSt ss [((0,1,0), talkCells t2)]) := by subst h; exact Le.refl _
def sentAt (f q : Int) : Int := refDiff q (IntKind.u32.wrap (f + 1))
def bytesS (l : List Int) : ByteArray := ⟨(l.map fun n => UInt8.ofNat n.toNat).toArray⟩
def badA (w : ByteArray) (a : Int) (x : Seg) (wr : Bool) : Bool :=
  if hasF x.flags 4 = true ∨ 64 < (x.data.length : Int) ∨ 256 < x.wnd then true
  else if hasF x.flags 2 = true then wr || (a != -1) || decide (0 < x.data.length)
  else if a < 0 ∨ IntKind.i64.wrap ((w.size : Int) + 1) < IntKind.i64.wrap (a + x.data.length) ∨
    (0 < x.data.length ∧ ((w.size : Int) < IntKind.i64.wrap (a + x.data.length) ∨ (x.data.map fun n => UInt8.ofNat n.toNat) ≠ (w.extract a.toNat (IntKind.i64.wrap (a + x.data.length)).toNat).toList)) then true else wr
def badB (w w2 : ByteArray) (closed : Bool) (a o : Int) (x : Seg) : Bool :=
  (hasF x.flags 1 && (!closed || (IntKind.i64.wrap (a + x.data.length) != (w.size : Int)))) || (hasF x.flags 16 && (decide (o < 0) || decide (IntKind.i64.wrap ((w2.size : Int) + 1) < o)))
def sendOne (side : Int) (t : Talk) (x : Seg) : Talk :=
  if side = 0 then { t with wrong := badB t.written0 t.written1 t.closed0 (sentAt t.first0 x.seq) (sentAt t.first1 x.ack) x || badA t.written0 (sentAt t.first0 x.seq) x t.wrong }
  else { t with wrong := badB t.written1 t.written0 t.closed1 (sentAt t.first1 x.seq) (sentAt t.first0 x.ack) x || badA t.written1 (sentAt t.first1 x.seq) x t.wrong }
def sendEnd (side : Int) (t : Talk) (l : List Seg) : Talk :=
  if side = 0 then { t with way1 := t.way1 ++ l, wrong := t.wrong || !connRight t.c0 || decide (300 < (l.length : Int)) }
  else { t with way0 := t.way0 ++ l, wrong := t.wrong || !connRight t.c1 || decide (300 < (l.length : Int)) }
def sends (side : Int) (t : Talk) (l : List Seg) : Talk := sendEnd side (l.foldl (sendOne side) t) l
theorem sentAt_fold (f q : Int) : refDiff q (IntKind.u32.wrap (f + 1)) = sentAt f q := rfl
theorem refDiff_range (a b : Int) : -9223372036854775808 ≤ refDiff a b ∧ refDiff a b ≤ 9223372036854775807 := by
  unfold refDiff
  split
  · exact wi_range _
  · unfold refMod
    have h2 := Int.tmod_lt_of_pos (IntKind.i64.wrap (IntKind.i64.wrap a - IntKind.i64.wrap b)) (b := 4294967296) (by omega)
    split
    · exact wi_range _
    · omega
end Caw
namespace Caw
theorem sendOne_same (side : Int) (t : Talk) (x : Seg) : sendOne side t x = { t with wrong := (sendOne side t x).wrong } := by
  unfold sendOne; split <;> rfl
theorem sendOne_keeps (side : Int) : ∀ (l : List Seg) (t : Talk), l.foldl (sendOne side) t = { t with wrong := (l.foldl (sendOne side) t).wrong }
  | [], t => rfl
  | x :: r, t => by
    rw [List.foldl_cons]
    have h1 := sendOne_same side t x
    have h2 := sendOne_keeps side r (sendOne side t x)
    rw [h2, h1]
end Caw
namespace Caw
theorem fit_k {n : Nat} (h : n ≤ 1000000) (k : Nat) (hk : k ≤ 1000000) : n * k ≤ 1099511627776 := by
  have := Nat.mul_le_mul h hk
  omega
end Caw
namespace Caw
open Go
@[simp] theorem wi_one : IntKind.i64.wrap 1 = 1 := by rw [IntKind.wrap_i64]; rfl
@[simp] theorem wi_zero : IntKind.i64.wrap 0 = 0 := by rw [IntKind.wrap_i64]; rfl
end Caw
namespace Caw
open Go
@[simp] theorem encS_flat_seg (l : List Seg) : ((encS segCells l).all fun y => (flat y).all leafOk) = true := encS_leaf _ _ segCells_leafOk
@[simp] theorem encS_flat_piece (l : List Piece) : ((encS pieceCells l).all fun y => (flat y).all leafOk) = true := encS_leaf _ _ pieceCells_leafOk
end Caw
namespace Caw
open Go
/-! ### Tags are forgotten -/
def s0 : AV → AV
  | .sl sz es _ => .sl sz es none
  | x => x
@[simp] theorem s0_sl (sz : Nat) (es : List AV) (t : Tg) : s0 (.sl sz es t) = .sl sz es none := rfl
@[simp] theorem s0_v (x : Value) : s0 (.v x) = .v x := rfl
section
variable {B : Base} {w : World} {E : Env} {st : St} {a : Act}
theorem V_s0 {x : AV} {y : Value} (h : V E st w x y) : V E st w (s0 x) y := by
  cases x with
  | sl sz es tg =>
    cases h with
    | sl h ht => exact .sl (PV_tag none h) (fun n g hn => by cases hn)
  | _ => exact h
theorem le_s0 {N : Nat} {ss : List (Nat × AV)} {oo : List (Nm × List AV)} : Le N (mkSt ss oo) (mkSt ss (oo.map fun p => (p.1, p.2.map s0))) := by
  have e2 : ∀ (l : List (Nm × List AV)) n, lo (l.map fun p => (p.1, p.2.map s0)) n = (lo l n).map (·.map s0) := by
    intro l n
    induction l with
    | nil => rfl
    | cons p r ih => simp only [List.map_cons, lo, ih]; split <;> rfl
  have hob : ∀ n, (mkSt ss (oo.map fun p => (p.1, p.2.map s0))).ob n ≠ none ↔ (mkSt ss oo).ob n ≠ none := by
    intro n
    simp only [mk_ob, e2]
    simp
  rintro B a w rfl ⟨E, h⟩
  have step : Step E E (mkSt ss oo) (mkSt ss (oo.map fun p => (p.1, p.2.map s0))) w w :=
    ⟨Fr.refl _ _, fun _ _ h => h, fun n hn => ⟨(hob n).2 hn, rfl⟩, fun n => .inl ⟨rfl, rfl⟩⟩
  refine ⟨E, fun i => (h.sl i).mono step, fun n cs hn => ?_, fun n m hn hm he => h.inj n m ((hob n).1 hn) ((hob m).1 hm) he, fun n hn => h.obp n ((hob n).1 hn), fun n hn => h.own n ((hob n).1 hn), fun n b e ht => ?_, h.tdis, h.frame, h.keep, h.prot, h.prnew, h.prlt, fun hn => h.pin ((hob _).1 hn), h.defers, h.size⟩
  · simp only [mk_ob, e2, Option.map_eq_some_iff] at hn
    obtain ⟨cs1, h1, rfl⟩ := hn
    obtain ⟨vs, e, q1, q2, q3⟩ := h.ob n cs1 h1
    refine ⟨vs, e, q1, by simpa using q2, fun i hi => ?_⟩
    rw [List.getElem_map]
    exact V_s0 ((q3 i (by simpa using hi)).mono step)
  · obtain ⟨t1, t2, t3, t4⟩ := h.tau n b e ht
    exact ⟨t1, t2, t3, fun m hm => t4 m ((hob m).1 hm)⟩
end
theorem le_s1 {N : Nat} {ss : List (Nat × AV)} {cs : List AV} {t2 : Talk} (h : cs.map s0 = talkCells t2) : Le N (mkSt ss [((0,1,0), cs)]) (mkSt ss [((0,1,0), talkCells t2)]) := by
  have := le_s0 (N := N) (ss := ss) (oo := [((0,1,0), cs)])
  simp only [List.map_cons, List.map_nil, h] at this
  exact this
end Caw
namespace Caw
open Go
theorem refDiff_small (a b : Int) : -9223372036854775808 ≤ refDiff a b ∧ refDiff a b < 4294967296 ∨ True := .inr trivial
end Caw
namespace Caw
open Go
theorem refMod_lt (n : Int) : refMod n < 4294967296 := by
  unfold refMod
  have h2 := Int.tmod_lt_of_pos n (b := 4294967296) (by omega)
  have h3 := Int.lt_tmod_of_pos n (b := 4294967296) (by omega)
  split
  · rw [wi_of (by omega) (by omega)]; omega
  · omega
theorem refMod_ge (n : Int) : 0 ≤ refMod n := by
  unfold refMod
  have h2 := Int.tmod_lt_of_pos n (b := 4294967296) (by omega)
  have h3 := Int.lt_tmod_of_pos n (b := 4294967296) (by omega)
  split
  · rw [wi_of (by omega) (by omega)]; omega
  · omega
theorem refDiff_lt (a b : Int) : -2147483648 ≤ refDiff a b ∧ refDiff a b < 2147483648 := by
  unfold refDiff
  have h1 := refMod_lt (IntKind.i64.wrap (IntKind.i64.wrap a - IntKind.i64.wrap b))
  have h2 := refMod_ge (IntKind.i64.wrap (IntKind.i64.wrap a - IntKind.i64.wrap b))
  split
  · rw [wi_of (by omega) (by omega)]; omega
  · omega
theorem sentAt_len (f q : Int) (d : List Int) (h : d.length ≤ 4096) : sentAt f q ≤ IntKind.i64.wrap (sentAt f q + d.length) := by
  unfold sentAt
  have := refDiff_lt q (IntKind.u32.wrap (f + 1))
  rw [wi_of (by omega) (by omega)]
  omega
end Caw
namespace Caw
open Go
/-- The middle of two codes. -/
theorem tri_cut {P : Program} {N : Nat} {st : St} {x y : Code} {Q : Exit → St → Prop} (s1 : St) (hx : Tri P N st x (fun e s => e = .normal ∧ Le N s s1)) (hy : Tri P N s1 y Q) : Tri P N st (.seq x y) Q := by
  refine tri_seq ?_
  intro B a w hN hr
  refine wp_mono (hx B a w hN hr) ?_
  rintro e a' w' ⟨s, ⟨rfl, hle⟩, hr'⟩
  exact ⟨s1, hy, hle B a' w' hN hr'⟩
theorem b_cases (w w2 : ByteArray) (c : Bool) (a o : Int) (x : Seg) :
    (hasF x.flags 1 = true ∧ c = false) ∨ (hasF x.flags 1 = true ∧ c = true ∧ (IntKind.i64.wrap (a + x.data.length) != (w.size : Int)) = true) ∨
    (((hasF x.flags 1 = true ∧ c = true ∧ (IntKind.i64.wrap (a + x.data.length) != (w.size : Int)) = false) ∨ hasF x.flags 1 = false) ∧ (hasF x.flags 16 = false ∨ (hasF x.flags 16 = true ∧ o < 0) ∨ (hasF x.flags 16 = true ∧ ¬ o < 0))) := by
  by_cases h1 : hasF x.flags 1 = true <;> by_cases h2 : c = true <;> by_cases h3 : (IntKind.i64.wrap (a + x.data.length) != (w.size : Int)) = true <;> by_cases h4 : hasF x.flags 16 = true <;> by_cases h5 : o < 0 <;> simp_all
end Caw
namespace Caw
open Go
theorem a_cases (w : ByteArray) (a : Int) (x : Seg) : a < 0 ∨ (¬ a < 0 ∧ IntKind.i64.wrap ((w.size : Int) + 1) < IntKind.i64.wrap (a + x.data.length)) ∨
    (¬ a < 0 ∧ ¬ IntKind.i64.wrap ((w.size : Int) + 1) < IntKind.i64.wrap (a + x.data.length) ∧ ¬ 0 < x.data.length) ∨
    (¬ a < 0 ∧ ¬ IntKind.i64.wrap ((w.size : Int) + 1) < IntKind.i64.wrap (a + x.data.length) ∧ 0 < x.data.length ∧ (w.size : Int) < IntKind.i64.wrap (a + x.data.length)) ∨
    (¬ a < 0 ∧ ¬ IntKind.i64.wrap ((w.size : Int) + 1) < IntKind.i64.wrap (a + x.data.length) ∧ 0 < x.data.length ∧ ¬ (w.size : Int) < IntKind.i64.wrap (a + x.data.length)) := by
  by_cases h1 : a < 0 <;> by_cases h2 : IntKind.i64.wrap ((w.size : Int) + 1) < IntKind.i64.wrap (a + x.data.length) <;> by_cases h3 : 0 < x.data.length <;> by_cases h4 : (w.size : Int) < IntKind.i64.wrap (a + x.data.length) <;> simp_all
end Caw

/-! The steps of two ends, as plain functions. -/
set_option linter.unusedVariables false
namespace Caw
open Go
/-- What 'sends' asks. -/
def sendsPre (side : Int) (t : Talk) (l : List Seg) : Prop :=
  (side = 0 ∨ side = 1) ∧ (l.length ≤ 10000 ∧ t.way0.length ≤ 900000 ∧ t.way1.length ≤ 900000) ∧ (t.c0.recv.sm ∧ t.c1.recv.sm) ∧ ∀ x ∈ l, x.data.length ≤ 4096
def connZ : Conn := ⟨0, ⟨0, 0, 0, 0, 0⟩, ⟨0, 0, 0, 0, 0⟩, 0, ⟨0, [], 0, false, false, false⟩, ⟨0, [], [], false, 0, false⟩, 0, 0, ⟨0, 0, 0⟩, 0, 0, false, 0, 0, 0, false, 0⟩
def talk0 (f0 f1 : Int) : Talk := ⟨connZ, connZ, false, false, f0, f1, [], [], ⟨#[]⟩, ⟨#[]⟩, ⟨#[]⟩, ⟨#[]⟩, false, false, false, false, 0, false⟩
def begins (f0 f1 : Int) : Talk :=
  sends 0 { talk0 f0 f1 with c0 := (epDial addrX addrY f0 0).conn, is0 := true } (epDial addrX addrY f0 0).out
@[simp] theorem wholeC_talk (x : Talk) : wholeC pTalk (talkCells x) = some x := by simp [wholeC]
theorem At.wi2 {α : Type} {l d r : List α} {x : α} {i : Nat} (h : At l d (x :: r) i) (hl : l.length ≤ 9223372036854775807) : IntKind.i64.wrap ((i : Int) + 1) = ((i + 1 : Nat) : Int) := by
  have := h.lt
  simp at this
  rw [wi_of (by omega) (by omega)]; omega
theorem beq_no {a b : Int} (h : a ≠ b) : (a == b) = false := by simp [h]
theorem wi_two : IntKind.i64.wrap 2 = 2 := by rw [IntKind.wrap_i64]; rfl
theorem told_cases (b : Bool) : b = true ∨ b = false := by cases b <;> simp
theorem bne_true {a b : Int} (h : a ≠ b) : (a != b) = true := by simp [h]
theorem bne_false {a b : Int} (h : a = b) : (a != b) = false := by simp [h]
theorem bytes_size (l : List Int) : (bytesS l).size = l.length := by simp [bytesS, ByteArray.size]
theorem wrote_fit (w : ByteArray) (d : List Int) (n : Nat) (hw : w.size ≤ 1000000) (hd : d.length ≤ 1000) :
    w.size + (⟨(List.take n (List.map (fun n => UInt8.ofNat n.toNat) d)).toArray⟩ : ByteArray).size ≤ 4611686018427387904 := by
  have : (⟨(List.take n (List.map (fun n => UInt8.ofNat n.toNat) d)).toArray⟩ : ByteArray).size = min n d.length := by simp [ByteArray.size]
  omega
theorem read_fit (w : ByteArray) (d : List Int) (hw : w.size ≤ 1000000) (hd : d.length ≤ 5000) :
    w.size + (⟨(List.map (fun n => UInt8.ofNat n.toNat) d).toArray⟩ : ByteArray).size ≤ 4611686018427387904 := by
  have : (⟨(List.map (fun n => UInt8.ofNat n.toNat) d).toArray⟩ : ByteArray).size = d.length := by simp [ByteArray.size]
  omega
/-! ### A segment comes -/
def comes (t : Talk) (side : Int) (s : Seg) : Talk :=
  if side = 1 ∧ t.is1 = false then
    if s.flags = 2 then sends 1 { t with c1 := (epAnswer addrY addrX s t.first1 t.now).conn, is1 := true } (epAnswer addrY addrX s t.first1 t.now).out else t
  else if side = 0 then sends 0 { t with c0 := (hear t.c0 s t.now).conn } (hear t.c0 s t.now).out
  else sends 1 { t with c1 := (hear t.c1 s t.now).conn } (hear t.c1 s t.now).out
def comesPre (t : Talk) (side : Int) (s : Seg) : Prop :=
  (side = 0 ∧ hearPre t.c0 s ∧ sendsPre 0 { t with c0 := (hear t.c0 s t.now).conn } (hear t.c0 s t.now).out) ∨
  (side = 1 ∧ t.is1 = true ∧ hearPre t.c1 s ∧ sendsPre 1 { t with c1 := (hear t.c1 s t.now).conn } (hear t.c1 s t.now).out) ∨
  (side = 1 ∧ t.is1 = false ∧ s.flags ≠ 2) ∨
  (side = 1 ∧ t.is1 = false ∧ s.flags = 2 ∧ sendsPre 1 { t with c1 := (epAnswer addrY addrX s t.first1 t.now).conn, is1 := true } (epAnswer addrY addrX s t.first1 t.now).out)
/-! ### Bytes are written -/
def write0 (t : Talk) (d : List Int) : Talk := { t with c0 := (epWrite t.c0 d t.now).1, written0 := t.written0 ++ bytesS (d.take (epWrite t.c0 d t.now).2.1.toNat) }
def write1 (t : Talk) (d : List Int) : Talk := { t with c1 := (epWrite t.c1 d t.now).1, written1 := t.written1 ++ bytesS (d.take (epWrite t.c1 d t.now).2.1.toNat) }
def writes (t : Talk) (side : Int) (d : List Int) : Talk :=
  if side = 0 then (if t.is0 = false then t else sends 0 (write0 t d) (epWrite t.c0 d t.now).2.2.1)
  else (if t.is1 = false then t else sends 1 (write1 t d) (epWrite t.c1 d t.now).2.2.1)
/-- Where 'Write' takes as many bytes as it may. -/
def wroteOk (r : Conn × Int × List Seg × Int) (d : List Int) : Prop := 0 ≤ r.2.1 ∧ r.2.1 ≤ d.length ∧ (r.2.2.2 = 0 ∨ (r.2.2.2 ≠ 0 ∧ r.2.1 = 0))
def writesPre (t : Talk) (side : Int) (d : List Int) : Prop :=
  (side = 0 ∧ t.is0 = false) ∨ (side = 1 ∧ t.is1 = false) ∨
  (side = 0 ∧ t.is0 = true ∧ (t.written0.size ≤ 1000000 ∧ d.length ≤ 1000) ∧ (t.c0.sm ∧ t.c0.send.data.length ≤ 256) ∧ wroteOk (epWrite t.c0 d t.now) d ∧ sendsPre 0 (write0 t d) (epWrite t.c0 d t.now).2.2.1) ∨
  (side = 1 ∧ t.is1 = true ∧ (t.written1.size ≤ 1000000 ∧ d.length ≤ 1000) ∧ (t.c1.sm ∧ t.c1.send.data.length ≤ 256) ∧ wroteOk (epWrite t.c1 d t.now) d ∧ sendsPre 1 (write1 t d) (epWrite t.c1 d t.now).2.2.1)
/-! ### Time passes -/
def tick0 (t : Talk) : Talk := if t.is0 = true then sends 0 { t with c0 := (epTick t.c0 t.now).conn } (epTick t.c0 t.now).out else t
def tick1 (t : Talk) : Talk := if t.is1 = true then sends 1 { t with c1 := (epTick t.c1 t.now).conn } (epTick t.c1 t.now).out else t
def later (t : Talk) (n : Int) : Talk := { t with now := IntKind.u64.wrap (t.now + n) }
def ticks (t : Talk) (n : Int) : Talk := tick1 (tick0 (later t n))
def tick0Pre (t : Talk) : Prop := t.is0 = false ∨ (t.is0 = true ∧ t.c0.sm ∧ sendsPre 0 { t with c0 := (epTick t.c0 t.now).conn } (epTick t.c0 t.now).out)
def tick1Pre (t : Talk) : Prop := t.is1 = false ∨ (t.is1 = true ∧ t.c1.sm ∧ sendsPre 1 { t with c1 := (epTick t.c1 t.now).conn } (epTick t.c1 t.now).out)
def ticksPre (t : Talk) (n : Int) : Prop := tick0Pre (later t n) ∧ tick1Pre (tick0 (later t n))
/-! ### An end is closed -/
def close0 (t : Talk) : Talk := { t with closed0 := true, c0 := (epClose t.c0 t.now).conn }
def close1 (t : Talk) : Talk := { t with closed1 := true, c1 := (epClose t.c1 t.now).conn }
def closes (t : Talk) (side : Int) : Talk :=
  if side = 0 then (if t.is0 = true ∧ t.c0.phase ≠ 1 then sends 0 (close0 t) (epClose t.c0 t.now).out else t)
  else (if t.is1 = true ∧ t.c1.phase ≠ 1 then sends 1 (close1 t) (epClose t.c1 t.now).out else t)
def closesPre (t : Talk) (side : Int) : Prop :=
  (side = 0 ∧ t.is0 = false) ∨ (side = 0 ∧ t.is0 = true ∧ t.c0.phase = 1) ∨ (side = 0 ∧ t.is0 = true ∧ t.c0.phase ≠ 1 ∧ t.c0.sm ∧ sendsPre 0 (close0 t) (epClose t.c0 t.now).out) ∨
  (side = 1 ∧ t.is1 = false) ∨ (side = 1 ∧ t.is1 = true ∧ t.c1.phase = 1) ∨ (side = 1 ∧ t.is1 = true ∧ t.c1.phase ≠ 1 ∧ t.c1.sm ∧ sendsPre 1 (close1 t) (epClose t.c1 t.now).out)
/-! ### Bytes are read -/
def read0T (t : Talk) (n : Int) : Talk :=
  { t with c0 := (epRead t.c0 n t.now).1, read0 := t.read0 ++ bytesS (epRead t.c0 n t.now).2.1, told0 := t.told0 || ((epRead t.c0 n t.now).2.2.2 == 11) }
def read1T (t : Talk) (n : Int) : Talk :=
  { t with c1 := (epRead t.c1 n t.now).1, read1 := t.read1 ++ bytesS (epRead t.c1 n t.now).2.1, told1 := t.told1 || ((epRead t.c1 n t.now).2.2.2 == 11) }
/-- Is what was read not the beginning of what was written? -/
def oddR (r w : ByteArray) (told closed : Bool) : Bool :=
  decide ((w.size : Int) < r.size) || (!(r.toList == (w.extract 0 r.size).toList)) || (told && (!closed || !(r.toList == w.toList)))
theorem odd_cases (r w : ByteArray) (told closed : Bool) : ((w.size : Int) < r.size) ∨
    (¬ (w.size : Int) < r.size ∧ minI (w.size : Int) r.size = r.size ∧ (r.size : Int) ≤ w.size ∧ (r.toList == (w.extract 0 r.size).toList) = false) ∨
    (¬ (w.size : Int) < r.size ∧ minI (w.size : Int) r.size = r.size ∧ (r.size : Int) ≤ w.size ∧ (r.toList == (w.extract 0 r.size).toList) = true ∧ told = false) ∨
    (¬ (w.size : Int) < r.size ∧ minI (w.size : Int) r.size = r.size ∧ (r.size : Int) ≤ w.size ∧ (r.toList == (w.extract 0 r.size).toList) = true ∧ told = true ∧ closed = false) ∨
    (¬ (w.size : Int) < r.size ∧ minI (w.size : Int) r.size = r.size ∧ (r.size : Int) ≤ w.size ∧ (r.toList == (w.extract 0 r.size).toList) = true ∧ told = true ∧ closed = true ∧ (r.toList == w.toList) = false) ∨
    (¬ (w.size : Int) < r.size ∧ minI (w.size : Int) r.size = r.size ∧ (r.size : Int) ≤ w.size ∧ (r.toList == (w.extract 0 r.size).toList) = true ∧ told = true ∧ closed = true ∧ (r.toList == w.toList) = true) := by
  by_cases h : (w.size : Int) < r.size
  · exact .inl h
  · have hm : minI (w.size : Int) r.size = r.size := by unfold minI; split <;> omega
    have hl : (r.size : Int) ≤ w.size := by omega
    cases h2 : (r.toList == (w.extract 0 r.size).toList) <;> cases told <;> cases closed <;> cases h3 : (r.toList == w.toList) <;> simp only [hm, hl, h, h2, h3] <;> simp
def read0E (t : Talk) : Talk := if oddR t.read0 t.written1 t.told0 t.closed1 = true then { t with wrong := true } else t
def read1E (t : Talk) : Talk := if oddR t.read1 t.written0 t.told1 t.closed0 = true then { t with wrong := true } else t
def reads (t : Talk) (side : Int) (n : Int) : Talk :=
  if side = 0 then read0E (sends 0 (read0T t n) (epRead t.c0 n t.now).2.2.1) else read1E (sends 1 (read1T t n) (epRead t.c1 n t.now).2.2.1)
theorem reads_0 (t : Talk) (n : Int) : reads t 0 n = read0E (sends 0 (read0T t n) (epRead t.c0 n t.now).2.2.1) := if_pos rfl
theorem reads_1 (t : Talk) (n : Int) : reads t 1 n = read1E (sends 1 (read1T t n) (epRead t.c1 n t.now).2.2.1) := if_neg (by omega)
def readsPre (t : Talk) (side : Int) (n : Int) : Prop :=
  (side = 0 ∧ t.c0.sm ∧ (t.read0.size ≤ 1000000 ∧ (epRead t.c0 n t.now).2.1.length ≤ 5000) ∧ sendsPre 0 (read0T t n) (epRead t.c0 n t.now).2.2.1) ∨
  (side = 1 ∧ t.c1.sm ∧ (t.read1.size ≤ 1000000 ∧ (epRead t.c1 n t.now).2.1.length ≤ 5000) ∧ sendsPre 1 (read1T t n) (epRead t.c1 n t.now).2.2.1)
/-! ### Others -/
def refFits (a n s w : Int) : Bool :=
  if maxI n 0 = 0 ∧ maxI w 0 = 0 then decide (refMod (IntKind.i64.wrap (IntKind.i64.wrap a - IntKind.i64.wrap s)) = 0)
  else if maxI n 0 = 0 then decide (refMod (IntKind.i64.wrap (IntKind.i64.wrap a - IntKind.i64.wrap s)) < maxI w 0)
  else decide (0 < maxI w 0) && (decide (refMod (IntKind.i64.wrap (IntKind.i64.wrap a - IntKind.i64.wrap s)) < maxI w 0) ||
    decide (4294967296 < IntKind.i64.wrap (refMod (IntKind.i64.wrap (IntKind.i64.wrap a - IntKind.i64.wrap s)) + minI (maxI n 0) 4294967296)))
end Caw

