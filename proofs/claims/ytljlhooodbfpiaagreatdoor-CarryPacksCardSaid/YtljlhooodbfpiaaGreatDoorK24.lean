import Derived.Test.YtljlhooodbfpiaaGreatDoorK15
import Derived.OpenShut
import Derived.Below
import Derived.ChangeOld
import Derived.Lib.LaidTab
import Derived.Lib.ItoaNum
import Derived.Stop.LaidErr
import Derived.Test.YtljlhooodbfpiaaGreatDoorK18
set_option linter.all false
/-! Printed by gencells2.py: the structures of the laws of layer tcb. -/
namespace Caw
open Go Go.RowKit
set_option linter.unusedSimpArgs false
set_option maxRecDepth 100000

@[ext] structure Two where
  a : Int
  b : Int
deriving Inhabited
def twoCells (x : Two) : List AV := [.v (.int .u32 x.a), .v (.int .u32 x.b)]
noncomputable def pTwo : List AV → Option (Two × List AV) := fun cs => (pI .u32 cs).bind fun (a0, cs) => (pI .u32 cs).bind fun (a1, cs) => some (⟨a0, a1⟩, cs)
theorem pTwo_snd : Snd CoP pTwo (fun x => twoCells x) := by
  intro cs x r h0
  unfold pTwo at h0
  obtain ⟨a0, r0, q0, h1, e0, c0⟩ := Snd.step (pI_snd .u32) h0
  obtain ⟨a1, r1, q1, h2, e1, c1⟩ := Snd.step (pI_snd .u32) h1
  cases h2
  subst e1 e0
  exact ⟨(q0 ++ q1), by simp only [List.append_assoc], (c0.app c1)⟩
@[simp] theorem pTwo_app (x : Two) (r : List AV) : pTwo (twoCells x ++ r) = some (x, r) := by simp [pTwo, twoCells]
@[simp] theorem pTwo_all (x : Two) : pTwo (twoCells x) = some (x, []) := by have := pTwo_app x []; rwa [List.append_nil] at this
@[simp] theorem twoCells_len (x : Two) : (twoCells x).length = 2 := rfl
def encTwo (x : Two) : AV := .v (.agg #[.int .u32 x.a, .int .u32 x.b])
@[simp high] theorem mkAgg_two (x : Two) : mkAgg (twoCells x) = encTwo x := rfl
@[simp] theorem flat_encTwo (x : Two) : flat (encTwo x) = twoCells x := by simp [encTwo, flat, twoCells]
@[simp] theorem whole_encTwo (x : Two) : whole pTwo (encTwo x) = some x := by simp [encTwo, pTwo]
@[simp high] theorem encTwo_kT (x : Two) (s : St) (M : List Nm) : kT s M (encTwo x) = encTwo x := rfl
@[simp high] theorem encTwo_kA (x : Two) (s : St) (M : List Nm) : kA s M (encTwo x) = encTwo x := rfl
@[simp high] theorem encTwo_kL (x : Two) (s : St) (M : List Nm) : kL s M (encTwo x) = encTwo x := rfl
@[simp high] theorem encTwo_leafP (x : Two)  : leafP (encTwo x) = true := rfl
@[simp high] theorem encTwo_isPure (x : Two)  : isPure (encTwo x) = true := rfl
@[simp high] theorem encTwo_leafH (x : Two)  : leafH (encTwo x) = true := rfl
@[simp high] theorem encTwo_isHand (x : Two)  : isHand (encTwo x) = true := rfl
@[simp high] theorem encTwo_live (x : Two)  : live (encTwo x) = true := rfl
@[simp high] theorem encTwo_isRes (x : Two)  : isRes (encTwo x) = true := rfl
@[simp high] theorem encTwo_isRef (x : Two)  : isRef (encTwo x) = false := rfl
@[simp high] theorem encTwo_strip (x : Two)  : strip (encTwo x) = encTwo x := rfl
@[simp high] theorem encTwo_stripL (x : Two)  : stripL (encTwo x) = encTwo x := rfl
@[simp high] theorem encTwo_stripA (x : Two)  : stripA (encTwo x) = encTwo x := rfl
@[simp high] theorem encTwo_flagL (x : Two) (s : St) : flagL s (encTwo x) = encTwo x := rfl
@[simp high] theorem encTwo_nameL (x : Two) (g : Nm → Nat) (m : Nm) : nameL g m (encTwo x) = encTwo x := rfl
@[simp high] theorem encTwo_nameX (x : Two) (g : Nm → Nat) (d k : Nat) : nameX g d k (encTwo x) = encTwo x := rfl
@[simp high] theorem encTwo_nameR (x : Two) (g : Nm → Nat) (d : Nat) : nameR g d (encTwo x) = encTwo x := rfl
@[simp high] theorem encTwo_toV (x : Two)  : toV (encTwo x) = some (.agg #[.int .u32 x.a, .int .u32 x.b]) := rfl
@[simp high] theorem encTwo_coA (x : Two) (φ ψ : Nm → Option Nm) (s s2 : St) (ys : List AV) : CoA φ ψ s s2 (encTwo x) (.agg ys) = All2P (CoL φ ψ s s2) (twoCells x) ys := rfl
@[simp high] theorem encTwo_co (x : Two) (φ ψ : Nm → Option Nm) (s s2 : St) (ys : List AV) : Co φ ψ s s2 (encTwo x) (.agg ys) = All2P (CoL φ ψ s s2) (twoCells x) ys := rfl
@[simp] theorem encTwo_ne_ptr (x : Two) (n : Nm) (k : Nat) : (encTwo x = .ptr n k) = False := eq_false (fun h => by cases h)
@[simp] theorem encTwo_ne_tup (x : Two) (c : List AV) : (encTwo x = .tup c) = False := eq_false (fun h => by cases h)
@[simp] theorem encTwo_ne_agg (x : Two) (c : List AV) : (encTwo x = .agg c) = False := eq_false (fun h => by cases h)
@[simp] theorem encTwo_ne_ref (x : Two) (c : List AV) : (encTwo x = .ref c) = False := eq_false (fun h => by cases h)
@[simp] theorem encTwo_ne_rptr (x : Two) (y : AV) (k : Nat) : (encTwo x = .rptr y k) = False := eq_false (fun h => by cases h)
@[simp] theorem ite_encTwo (c : Prop) [Decidable c] (x y : Two) : (if c then encTwo x else encTwo y) = encTwo (if c then x else y) := by split <;> rfl
@[simp] theorem two_get_a (x : Two) : (twoCells x)[0]? = some (.v (.int .u32 x.a)) := rfl
@[simp] theorem two_put_a (x : Two) (y : Int) : splice (twoCells x) 0 [.v (.int .u32 y)] 1 = twoCells { x with a := y } := rfl
@[simp] theorem two_get_b (x : Two) : (twoCells x)[1]? = some (.v (.int .u32 x.b)) := rfl
@[simp] theorem two_put_b (x : Two) (y : Int) : splice (twoCells x) 1 [.v (.int .u32 y)] 1 = twoCells { x with b := y } := rfl
@[simp] theorem two_whole (x : Two) (ys : List AV) : splice (twoCells x) 0 ys 2 = ys := by simp [splice, twoCells]
@[simp] theorem two_cutall (x : Two) : cut (twoCells x) 0 2 = twoCells x := rfl
@[simp] theorem twoCells_leafH (x : Two) : (twoCells x).all leafH = true := rfl
@[simp] theorem twoCells_leafP (x : Two) : (twoCells x).all leafP = true := rfl
@[simp] theorem twoCells_leafOk (x : Two) : (twoCells x).all leafOk = true := rfl
@[simp] theorem twoCells_kL (s : St) (M : List Nm) (x : Two) : (twoCells x).map (kL s M) = twoCells x := rfl
@[simp] theorem twoCells_strip (x : Two) : (twoCells x).map strip = twoCells x := rfl
@[simp] theorem twoCells_stripL (x : Two) : (twoCells x).map stripL = twoCells x := rfl
@[simp] theorem twoCells_name (g : Nm → Nat) (d i k : Nat) (x : Two) : nameC g d i k (twoCells x) = twoCells x := rfl
@[simp] theorem twoCells_flag (s : St) (x : Two) : (twoCells x).map (flagL s) = twoCells x := rfl
@[simp] theorem twoCells_tags (s : St) (x : Two) : tagsOf s (twoCells x) = [] := by simp [twoCells, tagsOf]
@[simp] theorem twoCells_co (φ ψ : Nm → Option Nm) (s s2 : St) (x : Two) : All2P (CoL φ ψ s s2) (twoCells x) (twoCells x) := by simp [twoCells]

@[simp] theorem twoCells_kLr (s : St) (l : List (Nm × Nm)) (M : List Nm) (x : Two) : (twoCells x).map (kLr s l M) = twoCells x := rfl
@[simp] theorem twoCells_tagsAt (s : St) (n : Nm) (k : Nat) (x : Two) : tagsAt s n k (twoCells x) = [] := by simp [twoCells, tagsAt]
@[simp] theorem mergeC_two (b : Bool) (x y : Two) : mergeC b (twoCells x) (twoCells y) = twoCells (if b = true then x else y) := by cases b <;> rfl
@[simp] theorem ite_twoCells (c : Prop) [Decidable c] (x y : Two) : (if c then twoCells x else twoCells y) = twoCells (if c then x else y) := by split <;> rfl
theorem twoCells_coE {φ ψ : Nm → Option Nm} {s s2 : St} {x y : Two} (e : x = y) : All2P (CoL φ ψ s s2) (twoCells x) (twoCells y) := by subst e; exact twoCells_co ..
end Caw

/-! What comes in, as its reading tells it. -/
set_option linter.unusedVariables false
namespace Caw
open Go Go.RowKit
/-- All that there is, is protected. -/
def pr0 (W : World) : Pr := fun b _ => b < W.heap.size
section
variable {H : Type} {enc : TypeId × Value → H} {P : Program} {W : World} {base : Nat} {spare : Nat → Bool} {held : Bool}
theorem cell_lt {a : Go.Addr} {v : Value} (h : W.cell? a = some v) : a.block < W.heap.size := by
  unfold World.cell? at h
  by_cases hh : a.block < W.heap.size
  · exact hh
  · simp [hh] at h
/-- A slice of rows, each of which can be read. -/
theorem rd_rowsQ {α : Type} [Inhabited α] {t e : TypeId} {sz : Nat} (E : α → AV) (R : α → Prop) (ht : P.underlying t = some (.slice e)) (hce : P.cellsOf e = sz) (hpos : 0 < sz)
    (hE : ∀ x, (flat (E x)).length = sz)
    (hrd : ∀ n cs y, DataW.trod enc P W base spare held n e cs = some y → ∃ x : α, R x ∧ ∀ j (hj : j < (flat (E x)).length), PV W (pr0 W) (flat (E x))[j] (cs.getD j undef))
    {n : Nat} {c : Value} {y : DataW H × List MemPlace} (h : DataW.trod enc P W base spare held n t [c] = some y) :
    ∃ l : List α, l.length ≤ 9223372036854775807 ∧ (∀ x ∈ l, R x) ∧ PV W (pr0 W) (.sl sz (l.map E) none) c := by
  rcases DataW.trod_slice ht h with ⟨h0, _⟩ | ⟨a, len, cap, elems, rest, m, _, h0, _, hb, hle, hmax, hlen, hel, _, _⟩
  · simp only [List.cons.injEq, and_true] at h0
    subst h0
    exact ⟨[], by simp, by simp, .nil _ _⟩
  simp only [List.cons.injEq, and_true] at h0
  subst h0
  by_cases hz : len = 0
  · subst hz
    exact ⟨[], by simp, by simp, .nil _ _⟩
  have hone : ∀ i, i < len → ∃ cs x, W.cells? base (a.add (i * sz)) sz = some cs ∧ R x ∧ ∀ j (hj : j < (flat (E x)).length), PV W (pr0 W) (flat (E x))[j] (cs.getD j undef) := by
    intro i hi
    have h1 := hel i hi
    rw [hce, List.getElem?_eq_getElem (by omega), Option.bind_eq_some_iff] at h1
    obtain ⟨cs, hcs, h2⟩ := h1
    obtain ⟨x, hx1, hx⟩ := hrd _ _ _ h2
    exact ⟨cs, x, hcs, hx1, hx⟩
  have hall : ∀ i, ∃ p : List Value × α, i < len → W.cells? base (a.add (i * sz)) sz = some p.1 ∧ R p.2 ∧ ∀ j (hj : j < (flat (E p.2)).length), PV W (pr0 W) (flat (E p.2))[j] (p.1.getD j undef) := by
    intro i
    by_cases hi : i < len
    · obtain ⟨cs, x, h1, h2, h3⟩ := hone i hi
      exact ⟨(cs, x), fun _ => ⟨h1, h2, h3⟩⟩
    · exact ⟨([], default), fun h => absurd h hi⟩
  obtain ⟨f, hf⟩ := Classical.axiomOfChoice hall
  have hcell : ∀ i, i < len → ∀ j, j < sz → W.cell? (a.add (i * sz + j)) = some ((f i).1.getD j undef) := by
    intro i hi j hj
    obtain ⟨_, hl, hc⟩ := World.cells?_some (hf i hi).1
    have := hc j hj
    rw [Addr.add_add] at this
    rw [this]
    have hj2 : j < (f i).1.length := by omega
    simp [List.getD, hj2]
  obtain ⟨b, off, spot⟩ := a
  have hspot : spot = none := by
    have := World.cell?_spot (hcell 0 (by omega) 0 hpos)
    simpa [Addr.add] using this
  subst hspot
  have hlb : b < W.heap.size := by
    have := cell_lt (hcell 0 (by omega) 0 hpos)
    simpa [Addr.add] using this
  refine ⟨(List.range len).map fun i => (f i).2, ?_, fun x hx => ?_, ?_⟩
  · have : maxLen = 9223372036854775807 := by decide
    simp
    omega
  · obtain ⟨i, hi, rfl⟩ := List.mem_map.1 hx
    exact (hf i (List.mem_range.1 hi)).2.1
  have hll : (((List.range len).map fun i => (f i).2).map E).length = len := by simp
  have hget : ∀ i (hi : i < (((List.range len).map fun i => (f i).2).map E).length), (((List.range len).map fun i => (f i).2).map E)[i] = E (f i).2 := by
    intro i hi
    simp
  have hpv : PV W (pr0 W) (.sl sz (((List.range len).map fun i => (f i).2).map E) none) (.slice (some ⟨b, off, none⟩) (((List.range len).map fun i => (f i).2).map E).length cap) := by
    refine .sl (fun i j => (f i).1.getD j undef) (by rw [hll]; exact hle) (fun i hi => by rw [hget i hi]; exact hE _) (fun i hi j hj => hlb) (fun i hi j hj => ?_) (fun i hi j hj => ?_)
    · have hi' : i < len := by rw [hll] at hi; exact hi
      have hj' : j < (flat (E (f i).2)).length := by rw [hget i hi] at hj; exact hj
      have := (hf i hi').2.2 j hj'
      have e1 : (flat (((List.range len).map fun i => (f i).2).map E)[i])[j] = (flat (E (f i).2))[j] := by
        congr 1
        rw [hget i hi]
      rw [e1]; exact this
    · have hi' : i < len := by rw [hll] at hi; exact hi
      have := hcell i hi' j hj
      rw [Addr.add_mid] at this
      exact this
  rw [hll] at hpv
  exact hpv
/-- A slice of rows, of which nothing more is told. -/
theorem rd_rows {α : Type} [Inhabited α] {t e : TypeId} {sz : Nat} (E : α → AV) (ht : P.underlying t = some (.slice e)) (hce : P.cellsOf e = sz) (hpos : 0 < sz)
    (hE : ∀ x, (flat (E x)).length = sz)
    (hrd : ∀ n cs y, DataW.trod enc P W base spare held n e cs = some y → ∃ x : α, ∀ j (hj : j < (flat (E x)).length), PV W (pr0 W) (flat (E x))[j] (cs.getD j undef))
    {n : Nat} {c : Value} {y : DataW H × List MemPlace} (h : DataW.trod enc P W base spare held n t [c] = some y) :
    ∃ l : List α, l.length ≤ 9223372036854775807 ∧ PV W (pr0 W) (.sl sz (l.map E) none) c := by
  obtain ⟨l, h1, _, h2⟩ := rd_rowsQ E (fun _ => True) ht hce hpos hE (fun n cs y h => by
    obtain ⟨x, hx⟩ := hrd n cs y h
    exact ⟨x, trivial, hx⟩) h
  exact ⟨l, h1, h2⟩
theorem rd_int {t : TypeId} {k : IntKind} (ht : P.underlying t = some (.int k)) {n : Nat} {c : Value} {y : DataW H × List MemPlace} (h : DataW.trod enc P W base spare held n t [c] = some y) : ∃ z, c = .int k z := by
  obtain ⟨z, h1, _⟩ := DataW.trod_int ht h
  exact ⟨z, by simpa using h1⟩
/-- A slice of bytes. -/
theorem rd_bytes {t e : TypeId} (ht : P.underlying t = some (.slice e)) (he : P.underlying e = some (.int .u8)) (hce : P.cellsOf e = 1) {n : Nat} {c : Value} {y : DataW H × List MemPlace}
    (h : DataW.trod enc P W base spare held n t [c] = some y) : ∃ l : List Int, PV W (pr0 W) (.sl 1 (encB l) none) c := by
  obtain ⟨l, _, hl⟩ := rd_rows (fun n : Int => AV.v (.int .u8 n)) ht hce (by omega) (fun x => rfl) (fun n cs y h => by
    obtain ⟨z, h1, _⟩ := DataW.trod_int he h
    refine ⟨z, fun j hj => ?_⟩
    have hj0 : j = 0 := by simp [flat] at hj; omega
    subst hj0
    subst h1
    exact .v _) h
  exact ⟨l, hl⟩
/-- A step. -/
theorem rd_stp {t e : TypeId} {f0 f1 f2 f3 f4 : Field} (ht : P.underlying t = some (.struct #[f0, f1, f2, f3, f4])) (hI : P.underlying f0.type = some (.int .i64)) (h1 : f1.type = f0.type) (h2 : f2.type = f0.type) (h3 : f3.type = f0.type)
    (h4 : P.underlying f4.type = some (.slice e)) (he : P.underlying e = some (.int .u8)) (hce : P.cellsOf e = 1) (hc0 : P.cellsOf f0.type = 1) (hc4 : P.cellsOf f4.type = 1) (hct : P.cellsOf t = 5)
    (o0 : f0.offset = 0) (o1 : f1.offset = 1) (o2 : f2.offset = 2) (o3 : f3.offset = 3) (o4 : f4.offset = 4)
    {n : Nat} {cs : List Value} {y : DataW H × List MemPlace} (h : DataW.trod enc P W base spare held n t cs = some y) :
    ∃ x : Stp, ∀ j (hj : j < (flat (.agg (stpCells x))).length), PV W (pr0 W) (flat (.agg (stpCells x)))[j] (cs.getD j undef) := by
  obtain ⟨xs, m, _, _, hl, hxs, hf⟩ := DataW.trod_struct ht h
  rw [hct] at hl
  match cs, hl with
  | [c0, c1, c2, c3, c4], _ =>
    have g0 := hf 0 f0 rfl
    have g1 := hf 1 f1 rfl
    have g2 := hf 2 f2 rfl
    have g3 := hf 3 f3 rfl
    have g4 := hf 4 f4 rfl
    simp only [h1, h2, h3, o0, o1, o2, o3, o4, hc0, hc4, List.drop, List.take] at g0 g1 g2 g3 g4
    match xs, hxs with
    | [y0, y1, y2, y3, y4], _ =>
      obtain ⟨z0, rfl⟩ := rd_int hI (by simpa using g0)
      obtain ⟨z1, rfl⟩ := rd_int hI (by simpa using g1)
      obtain ⟨z2, rfl⟩ := rd_int hI (by simpa using g2)
      obtain ⟨z3, rfl⟩ := rd_int hI (by simpa using g3)
      obtain ⟨l, hp⟩ := rd_bytes h4 he hce (by simpa using g4)
      refine ⟨⟨z0, z1, z2, z3, l⟩, fun j hj => ?_⟩
      have hj5 : j < 5 := hj
      match j, hj5 with
      | 0, _ => exact .v _
      | 1, _ => exact .v _
      | 2, _ => exact .v _
      | 3, _ => exact .v _
      | 4, _ => exact hp
/-- A segment that anybody may send. -/
def FarOk (x : Far) : Prop := (0 ≤ x.wnd ∧ x.wnd ≤ 65535) ∧ (0 ≤ x.mss ∧ x.mss ≤ 65535)
theorem rd_far {t e : TypeId} {f0 f1 f2 f3 f4 f5 : Field} (ht : P.underlying t = some (.struct #[f0, f1, f2, f3, f4, f5])) (hI : P.underlying f0.type = some (.int .i64)) (h1 : f1.type = f0.type) (hB : P.underlying f2.type = some (.int .u8)) (hS : P.underlying f3.type = some (.int .u16)) (h4 : f4.type = f3.type)
    (h5 : P.underlying f5.type = some (.slice e)) (he : P.underlying e = some (.int .u8)) (hce : P.cellsOf e = 1) (hc0 : P.cellsOf f0.type = 1) (hc2 : P.cellsOf f2.type = 1) (hc3 : P.cellsOf f3.type = 1) (hc5 : P.cellsOf f5.type = 1) (hct : P.cellsOf t = 6)
    (o0 : f0.offset = 0) (o1 : f1.offset = 1) (o2 : f2.offset = 2) (o3 : f3.offset = 3) (o4 : f4.offset = 4) (o5 : f5.offset = 5)
    {n : Nat} {cs : List Value} {y : DataW H × List MemPlace} (h : DataW.trod enc P W base spare held n t cs = some y) :
    ∃ x : Far, FarOk x ∧ ∀ j (hj : j < (flat (.agg (farCells x))).length), PV W (pr0 W) (flat (.agg (farCells x)))[j] (cs.getD j undef) := by
  obtain ⟨xs, m, _, _, hl, hxs, hf⟩ := DataW.trod_struct ht h
  rw [hct] at hl
  match cs, hl with
  | [c0, c1, c2, c3, c4, c5], _ =>
    have g0 := hf 0 f0 rfl
    have g1 := hf 1 f1 rfl
    have g2 := hf 2 f2 rfl
    have g3 := hf 3 f3 rfl
    have g4 := hf 4 f4 rfl
    have g5 := hf 5 f5 rfl
    simp only [h1, h4, o0, o1, o2, o3, o4, o5, hc0, hc2, hc3, hc5, List.drop, List.take] at g0 g1 g2 g3 g4 g5
    match xs, hxs with
    | [y0, y1, y2, y3, y4, y5], _ =>
      obtain ⟨z0, rfl⟩ := rd_int hI (by simpa using g0)
      obtain ⟨z1, rfl⟩ := rd_int hI (by simpa using g1)
      obtain ⟨z2, rfl⟩ := rd_int hB (by simpa using g2)
      obtain ⟨z3, hz3, _, b3⟩ := DataW.trod_int hS (by simpa using g3)
      obtain ⟨z4, hz4, _, b4⟩ := DataW.trod_int hS (by simpa using g4)
      simp only [List.cons.injEq, and_true] at hz3 hz4
      subst hz3 hz4
      obtain ⟨l, hp⟩ := rd_bytes h5 he hce (by simpa using g5)
      refine ⟨⟨z0, z1, z2, z3, z4, l⟩, ⟨bounds_u16 b3, bounds_u16 b4⟩, fun j hj => ?_⟩
      have hj6 : j < 6 := hj
      match j, hj6 with
      | 0, _ => exact .v _
      | 1, _ => exact .v _
      | 2, _ => exact .v _
      | 3, _ => exact .v _
      | 4, _ => exact .v _
      | 5, _ => exact hp
/-- Two numbers. -/
theorem rd_two {t e : TypeId} (ht : P.underlying t = some (.array 2 e)) (he : P.underlying e = some (.int .u32)) (hce : P.cellsOf e = 1) (hct : P.cellsOf t = 2) {n : Nat} {cs : Array Value} {y : DataW H × List MemPlace}
    (h : DataW.trod enc P W base spare held n t cs.toList = some y) : ∃ x : Two, PV W (pr0 W) (.agg (twoCells x)) (.agg cs) := by
  obtain ⟨xs, m, _, _, hl, hxs, hf⟩ := DataW.trod_array ht h
  rw [hct] at hl
  obtain ⟨l⟩ := cs
  match l, hl with
  | [c0, c1], _ =>
    have g0 := hf 0 (by omega)
    have g1 := hf 1 (by omega)
    simp only [hce, Nat.zero_mul, Nat.one_mul, List.drop, List.take] at g0 g1
    match xs, hxs with
    | [y0, y1], _ =>
      obtain ⟨z0, rfl⟩ := rd_int he (by simpa using g0)
      obtain ⟨z1, rfl⟩ := rd_int he (by simpa using g1)
      refine ⟨⟨z0, z1⟩, .agg rfl fun i hi => ?_⟩
      have hi2 : i < 2 := hi
      match i, hi2 with
      | 0, _ => exact .v _
      | 1, _ => exact .v _
end
theorem okWide_arr {P : Program} {w : World} {r : Reach} {base : Nat} {t n e : TypeId} {v : Value} (ht : P.underlying t = some (.array n e)) (h : Value.okWide P w r base t v) : ∃ cs, v = .agg cs ∧ cs.size = P.cellsOf t := by
  unfold Value.okWide at h
  rw [ht] at h
  obtain ⟨cs, h1, h2, _⟩ := h
  exact ⟨cs, h1, h2⟩
/-! ### From a contract to the calls of a world -/
def base0 (w : World) (n : Nat) : Base := ⟨pr0 w, fun _ => False, w, n, 0⟩
def env0 (w : World) : Env := ⟨fun _ => 0, fun _ => none, pr0 w⟩
theorem V_leaf {w : World} {st : St} {x : AV} {y : Value} (h : PV w (pr0 w) x y) (hx : (∃ z, x = .v z) ∨ ∃ sz es, x = .sl sz es none) : V (env0 w) st w x y := by
  rcases hx with ⟨z, rfl⟩ | ⟨sz, es, rfl⟩
  · cases h; exact .v _
  · exact .sl h (fun n g hn => by cases hn)
theorem V_agg0 {w : World} {st : St} {cs : List AV} {y : Value} (h : PV w (pr0 w) (.agg cs) y) (hx : ∀ x ∈ cs, (∃ z, x = .v z) ∨ ∃ sz es, x = .sl sz es none) : V (env0 w) st w (.agg cs) y := by
  cases h with
  | agg hl h => exact .agg hl (fun i hi => V_leaf (h i hi) (hx _ (List.getElem_mem hi)))
theorem enter_rel {ys : List AV} {args : Array Value} (w : World) (hlen : args.size = ys.length) (he : enterSt ys = ⟨fun i => ys.getD i (.v undef), fun _ => none, zg⟩)
    (hv : ∀ i (hi : i < ys.length) (st : St), V (env0 w) st w ys[i] (args.getD i undef)) : Rel0 (base0 w args.size) (env0 w) (enterSt ys) ⟨args, []⟩ w := by
  rw [he]
  refine ⟨fun i => ?_, fun n cs h => (by cases h), fun n m h => absurd rfl h, fun n h => absurd rfl h, fun n h => absurd rfl h, fun n b e h => (by cases h), fun n m b e e' h => (by cases h),
    Fr.refl _ _, fun b hb => rfl, fun b k h => h, fun b k h => .inl h, fun b k h => h, fun h => absurd rfl h, rfl, rfl⟩
  by_cases hi : i < ys.length
  · have e1 : ys.getD i (.v undef) = ys[i] := by simp [List.getD, hi]
    simp only [e1]
    exact hv i hi _
  · have e1 : ys.getD i (.v undef) = .v undef := by simp [List.getD, List.getElem?_eq_none (by omega : ys.length ≤ i)]
    have e2 : args.getD i undef = undef := by
      have : ¬ i < args.size := by omega
      simp [Array.getD, this]
    simp only [e1, e2]
    exact .v _
theorem calls_of {P : Program} {f : FuncId} {ys : List AV} {args : Array Value} {b : Bool} (w : World) (hTb : TabB P (base0 w args.size)) (h : SpecAt P f ys (.v (.bool b)) none) (hlen : args.size = ys.length) (he : enterSt ys = ⟨fun i => ys.getD i (.v undef), fun _ => none, zg⟩)
    (hv : ∀ i (hi : i < ys.length) (st : St), V (env0 w) st w ys[i] (args.getD i undef)) : Calls P f args w fun e w' => e = .returned (.bool b) ∧ Below w.heap.size w w' := by
  refine (h (base0 w args.size) (env0 w) args w rfl hTb (enter_rel w hlen he hv) hlen).mono fun e w' hq => ?_
  obtain ⟨y, E', rfl, hr⟩ := hq
  have h0 := hr.sl 0
  simp only [leaveSt, resSlot] at h0
  have hy : y = .bool b := by
    have h1 : V E' (leaveSt (.v (.bool b)) none) w' (.v (.bool b)) y := by simpa [nameR, nameX] using h0
    cases h1
    rfl
  subst hy
  refine ⟨rfl, ?_⟩
  have hf := hr.frame
  exact ⟨hf.os, hf.tape, hf.output, hf.size, fun k hk => hf.whole k hk fun j => hk⟩
end Caw

/-! The table of strconv's, out of a card's list; numbers that come in. -/
set_option linter.all false
namespace Caw
open Go Go.RowKit
theorem tabT_of {P : Program} {W : World} {n : Nat} (ht : Lib.TabIs P W "internal/strconv.uint64pow10" .u64 Lib.pow10Tab) : TabB P (base0 W n) := by
  intro g hg
  have hlt : g < W.heap.size := by
    have h2 := ht
    unfold Lib.TabIs World.var? at h2
    rw [hg, Option.bind_some] at h2
    split at h2
    · rename_i h; exact (Array.getElem?_eq_some_iff.1 h).1
    · cases h2
  exact ⟨hlt, fun _ => hlt, ht⟩
theorem tabT_laid {P : Program} {W : World} {n : Nat} {x y : String × DataW Unit} {rest : List (String × DataW Unit)} {g : Nat} {t e : TypeId}
    (hg : P.globalNamed "internal/strconv.uint64pow10" = some g) (hty : (P.globals[g]?).map (·.type) = some t) (ht : P.underlying t = some (.array 20 e)) (he : P.underlying e = some (.int .u64)) (hce : P.cellsOf e = 1) (hct : P.cellsOf t = 20)
    (h : laidMet P (x :: y :: ("internal/strconv.uint64pow10", Lib.tabData .u64 Lib.pow10Tab) :: rest) W) : TabB P (base0 W n) :=
  tabT_of (Lib.tabIs_of_head hg hty ht he hce hct h.tail.tail)
theorem bounds_u32 {n : Int} (h : (Lit.int .u32 n).wf = true) : 0 ≤ n ∧ n < 4294967296 := by
  have e1 : IntKind.min .u32 = 0 := rfl
  have e2 : IntKind.max .u32 = 4294967295 := rfl
  simp [Lit.wf] at h
  omega
end Caw

/-! What comes in: bytes, and messages. -/
set_option linter.unusedVariables false
namespace Caw
open Go Go.RowKit
theorem bounds_b {n : Int} (h : (Lit.int .u8 n).wf = true) : 0 ≤ n ∧ n < 256 := by
  have e1 : IntKind.min .u8 = 0 := rfl
  have e2 : IntKind.max .u8 = 255 := rfl
  simp [Lit.wf] at h
  omega
section
variable {H : Type} {enc : TypeId × Value → H} {P : Program} {W : World} {base : Nat} {spare : Nat → Bool} {held : Bool}
theorem rd_bytesU {t e : TypeId} (ht : P.underlying t = some (.slice e)) (he : P.underlying e = some (.int .u8)) (hce : P.cellsOf e = 1) {n : Nat} {c : Value} {y : DataW H × List MemPlace}
    (h : DataW.trod enc P W base spare held n t [c] = some y) : ∃ l : List Int, u8L l ∧ PV W (pr0 W) (.sl 1 (encB l) none) c := by
  obtain ⟨l, _, hu, hl⟩ := rd_rowsQ (fun n : Int => AV.v (.int .u8 n)) (fun n => 0 ≤ n ∧ n < 256) ht hce (by omega) (fun x => rfl) (fun n cs y h => by
    obtain ⟨z, h1, _, hb⟩ := DataW.trod_int he h
    refine ⟨z, bounds_b hb, fun j hj => ?_⟩
    have hj0 : j = 0 := by simp [flat] at hj; omega
    subst hj0
    subst h1
    exact .v _) h
  exact ⟨l, hu, hl⟩
def MsgOk (x : Msg) : Prop := (0 ≤ x.run ∧ x.run < 4294967296) ∧ (0 ≤ x.num ∧ x.num < 4294967296) ∧ u8L x.data
/-- A message. -/
theorem rd_msg {t e : TypeId} {f0 f1 f2 f3 : Field} (ht : P.underlying t = some (.struct #[f0, f1, f2, f3])) (hI : P.underlying f0.type = some (.int .i64)) (hU : P.underlying f1.type = some (.int .u32)) (h2 : f2.type = f1.type)
    (h3 : P.underlying f3.type = some (.slice e)) (he : P.underlying e = some (.int .u8)) (hce : P.cellsOf e = 1) (hc0 : P.cellsOf f0.type = 1) (hc1 : P.cellsOf f1.type = 1) (hc3 : P.cellsOf f3.type = 1) (hct : P.cellsOf t = 4)
    (o0 : f0.offset = 0) (o1 : f1.offset = 1) (o2 : f2.offset = 2) (o3 : f3.offset = 3)
    {n : Nat} {cs : Array Value} {y : DataW H × List MemPlace} (h : DataW.trod enc P W base spare held n t cs.toList = some y) :
    ∃ x : Msg, MsgOk x ∧ PV W (pr0 W) (.agg (msgCells x)) (.agg cs) := by
  obtain ⟨xs, m, _, _, hl, hxs, hf⟩ := DataW.trod_struct ht h
  rw [hct] at hl
  obtain ⟨l⟩ := cs
  match l, hl with
  | [c0, c1, c2, c3], _ =>
    have g0 := hf 0 f0 rfl
    have g1 := hf 1 f1 rfl
    have g2 := hf 2 f2 rfl
    have g3 := hf 3 f3 rfl
    simp only [h2, o0, o1, o2, o3, hc0, hc1, hc3, List.drop, List.take] at g0 g1 g2 g3
    match xs, hxs with
    | [y0, y1, y2, y3], _ =>
      obtain ⟨z0, rfl⟩ := rd_int hI (by simpa using g0)
      obtain ⟨z1, hz1, _, b1⟩ := DataW.trod_int hU (by simpa using g1)
      obtain ⟨z2, hz2, _, b2⟩ := DataW.trod_int hU (by simpa using g2)
      simp only [List.cons.injEq, and_true] at hz1 hz2
      subst hz1 hz2
      obtain ⟨l, hu, hp⟩ := rd_bytesU h3 he hce (by simpa using g3)
      refine ⟨⟨z0, z1, z2, l⟩, ⟨bounds_u32 b1, bounds_u32 b2, hu⟩, .agg rfl fun i hi => ?_⟩
      have hi4 : i < 4 := hi
      match i, hi4 with
      | 0, _ => exact .v _
      | 1, _ => exact .v _
      | 2, _ => exact .v _
      | 3, _ => exact hp
end
theorem okWide_str {P : Program} {w : World} {r : Reach} {base : Nat} {t : TypeId} {fs : Array Field} {v : Value} (ht : P.underlying t = some (.struct fs)) (h : Value.okWide P w r base t v) : ∃ cs, v = .agg cs := by
  unfold Value.okWide at h
  rw [ht] at h
  obtain ⟨cs, h1, _⟩ := h
  exact ⟨cs, h1⟩
theorem msg_leaf (x : Msg) : ∀ c ∈ msgCells x, (∃ z, c = .v z) ∨ ∃ sz es, c = .sl sz es none := by
  intro c hc
  simp only [msgCells, List.mem_cons, List.not_mem_nil, or_false] at hc
  rcases hc with rfl | rfl | rfl | rfl
  · exact .inl ⟨_, rfl⟩
  · exact .inl ⟨_, rfl⟩
  · exact .inl ⟨_, rfl⟩
  · exact .inr ⟨_, _, rfl⟩
end Caw

