import Derived.WalkKit
import Derived.Deep.MidRow
set_option linter.all false
namespace Caw
open Go Go.RowKit

/-! ## Abstract values, once more: slices that grow, and pointers that are handed in -/

/-- A slice's right to grow in place: a name and a generation. -/
abbrev Nm := Nat × Nat × Nat

/-- The j-th name of what the operation makes that writes slot d. -/
def nmOf (d j : Nat) : Nm := (d + 1, 0, j)
abbrev Tg := Option (Nm × Nat)

inductive AV where
  | dead
  | v (x : Value)
  | agg (cs : List AV)
  | tup (xs : List AV)
  | sl (sz : Nat) (es : List AV) (tg : Tg)
  | ptr (n : Nm) (k : Nat)
  | rptr (x : AV) (k : Nat)
  | osl (n : Nm) (off len cap : Nat)
  /-- A slice whose row is an object, from its beginning on; so many elements of sz cells each; how many more there is room for isn't told. -/
  | own (n : Nm) (sz len : Nat)
  | ref (cs : List AV)
  | fn (g : FuncId) (cs : List AV)

def flat : AV → List AV
  | .agg cs => cs
  | .v (.agg cs) => cs.toList.map .v
  | x => [x]

/-- Cells that are not written any more. -/
abbrev Pr := Nat → Nat → Prop

/-- A reading that shares nothing with what is written: all its cells are protected; tags say nothing. -/
inductive PV (w : World) (pr : Pr) : AV → Value → Prop where
  | v (x : Value) : PV w pr (.v x) x
  | agg {cs : List AV} {vs : Array Value} (hl : cs.length = vs.size) (h : ∀ i (hi : i < cs.length), PV w pr cs[i] (vs.getD i undef)) : PV w pr (.agg cs) (.agg vs)
  | tup {cs : List AV} {vs : Array Value} (hl : cs.length = vs.size) (h : ∀ i (hi : i < cs.length), PV w pr cs[i] (vs.getD i undef)) : PV w pr (.tup cs) (.tuple vs)
  | nil {sz : Nat} {tg : Tg} (a : Option Addr) (cap : Nat) : PV w pr (.sl sz [] tg) (.slice a 0 cap)
  | sl {sz : Nat} {es : List AV} {tg : Tg} {b off cap : Nat} (cells : Nat → Nat → Value) (hle : es.length ≤ cap)
      (hs : ∀ i (hi : i < es.length), (flat es[i]).length = sz)
      (hp : ∀ i, i < es.length → ∀ j, j < sz → pr b (off + (i * sz + j)))
      (h : ∀ i (hi : i < es.length) j (hj : j < (flat es[i]).length), PV w pr (flat es[i])[j] (cells i j))
      (hc : ∀ i, i < es.length → ∀ j, j < sz → w.cell? ⟨b, off + (i * sz + j), none⟩ = some (cells i j)) :
      PV w pr (.sl sz es tg) (.slice (some ⟨b, off, none⟩) es.length cap)

/-- What a world keeps of the protected cells; blocks that are protected whole are as they were. -/
structure Fr (pr : Pr) (w w' : World) : Prop where
  os : w'.os = w.os
  tape : w'.tape = w.tape
  output : w'.output = w.output
  size : w.heap.size ≤ w'.heap.size
  cell : ∀ b k x, pr b k → w.cell? ⟨b, k, none⟩ = some x → w'.cell? ⟨b, k, none⟩ = some x
  whole : ∀ b, b < w.heap.size → (∀ k, pr b k) → w'.heap[b]? = w.heap[b]?
  rows : ∀ (b : Nat) (vs : Array Value) (e : TypeId) (m : Nat × Nat), w.heap[b]? = some (.cells vs e m) → ∃ us : Array Value, w'.heap[b]? = some (.cells us e m) ∧ us.size = vs.size

theorem Fr.refl (pr : Pr) (w : World) : Fr pr w w := ⟨rfl, rfl, rfl, Nat.le_refl _, fun _ _ _ _ h => h, fun _ _ _ => rfl, fun _ vs _ _ h => ⟨vs, h, rfl⟩⟩
theorem Fr.trans {pr pr' : Pr} {a b c : World} (h : Fr pr a b) (k : Fr pr' b c) (hp : ∀ i j, pr i j → pr' i j) : Fr pr a c :=
  ⟨k.os.trans h.os, k.tape.trans h.tape, k.output.trans h.output, Nat.le_trans h.size k.size, fun i j x hx hc => k.cell i j x (hp i j hx) (h.cell i j x hx hc),
   fun i hi hw => (k.whole i (Nat.lt_of_lt_of_le hi h.size) (fun j => hp i j (hw j))).trans (h.whole i hi hw), fun i vs e m hv => by
    obtain ⟨us, h1, h2⟩ := h.rows i vs e m hv
    obtain ⟨ts, h3, h4⟩ := k.rows i us e m h1
    exact ⟨ts, h3, h4.trans h2⟩⟩

theorem PV.mono {w w' : World} {pr pr' : Pr} (hk : Fr pr w w') (hp : ∀ b k, pr b k → pr' b k) {x : AV} {y : Value} (h : PV w pr x y) : PV w' pr' x y := by
  induction h with
  | v x => exact .v x
  | agg hl _ ih => exact .agg hl ih
  | tup hl _ ih => exact .tup hl ih
  | nil a cap => exact .nil a cap
  | sl cells hle hs hpr _ hc ih => exact .sl cells hle hs (fun i hi j hj => hp _ _ (hpr i hi j hj)) ih (fun i hi j hj => hk.cell _ _ _ (hpr i hi j hj) (hc i hi j hj))

/-- Local objects: the row of cells of a variable, or of an array, that lies in memory and may be written. -/
abbrev Obs := Nm → Option (List AV)

/-- Where things lie: an object's block; a name's block, and where its elements end. -/
structure Env where
  ρ : Nm → Nat
  τ : Nm → Option (Nat × Nat)
  pr : Pr

/-- The abstract state of a frame: slots, objects, and each name's generation. -/
structure St where
  sl : Nat → AV
  ob : Obs
  G : Nm → Nat

/-- The right to grow: the slice is full; or its elements end where its name's end, and there is room behind them. -/
def TagOk (w : World) (τ : Nm → Option (Nat × Nat)) (n : Nm) (sz : Nat) : Value → Prop
  | .slice a len cap => len = cap ∨ ∃ b off vs e, a = some ⟨b, off, none⟩ ∧ len ≤ cap ∧ τ n = some (b, off + len * sz) ∧ w.heap[b]? = some (.cells vs e (0, 0)) ∧ off + cap * sz ≤ vs.size
  | _ => False

inductive V (E : Env) (st : St) (w : World) : AV → Value → Prop where
  | dead (y : Value) : V E st w .dead y
  | v (x : Value) : V E st w (.v x) x
  | agg {cs : List AV} {vs : Array Value} (hl : cs.length = vs.size) (h : ∀ i (hi : i < cs.length), V E st w cs[i] (vs.getD i undef)) : V E st w (.agg cs) (.agg vs)
  | tup {cs : List AV} {vs : Array Value} (hl : cs.length = vs.size) (h : ∀ i (hi : i < cs.length), V E st w cs[i] (vs.getD i undef)) : V E st w (.tup cs) (.tuple vs)
  | sl {sz : Nat} {es : List AV} {tg : Tg} {y : Value} (h : PV w E.pr (.sl sz es tg) y) (ht : ∀ n g, tg = some (n, g) → g ≤ st.G n ∧ (g = st.G n → TagOk w E.τ n sz y)) : V E st w (.sl sz es tg) y
  | fn {g : FuncId} {cs : List AV} {vs : Array Value} (hl : cs.length = vs.size) (h : ∀ i (hi : i < cs.length), V E st w cs[i] (vs.getD i undef)) : V E st w (.fn g cs) (.func (.func g) #[] vs)
  | ptr {n : Nm} {k : Nat} (h : st.ob n ≠ none) : V E st w (.ptr n k) (.pointer (some ⟨E.ρ n, k, none⟩))
  | rptr {x : AV} {k b off : Nat} (cells : Nat → Value) (hp : ∀ j, j < (flat x).length → E.pr b (off + j))
      (h : ∀ j (hj : j < (flat x).length), PV w E.pr (flat x)[j] (cells j))
      (hc : ∀ j, j < (flat x).length → w.cell? ⟨b, off + j, none⟩ = some (cells j)) : V E st w (.rptr x k) (.pointer (some ⟨b, off + k, none⟩))
  | osl {n : Nm} {off len cap : Nat} (h : st.ob n ≠ none) : V E st w (.osl n off len cap) (.slice (some ⟨E.ρ n, off, none⟩) len cap)
  | own {n : Nm} {sz len cap : Nat} (h : st.ob n ≠ none) (hle : len ≤ cap) (hr : ∃ vs : Array Value, ∃ e : TypeId, w.heap[E.ρ n]? = some (.cells vs e (0, 0)) ∧ cap * sz ≤ vs.size) : V E st w (.own n sz len) (.slice (some ⟨E.ρ n, 0, none⟩) len cap)

theorem TagOk.mono {w w' : World} {τ τ' : Nm → Option (Nat × Nat)} {n : Nm} {sz : Nat} {y : Value} (hr : ∀ (b : Nat) (vs : Array Value) (e : TypeId) (m : Nat × Nat), w.heap[b]? = some (.cells vs e m) → ∃ us : Array Value, w'.heap[b]? = some (.cells us e m) ∧ us.size = vs.size)
    (ht : τ' n = τ n) (h : TagOk w τ n sz y) : TagOk w' τ' n sz y := by
  cases y with
  | slice a len cap =>
    rcases h with h | ⟨b, off, vs, e, h1, h2, h3, h4, h5⟩
    · exact .inl h
    · obtain ⟨us, h6, h7⟩ := hr _ _ _ _ h4
      exact .inr ⟨b, off, us, e, h1, h2, ht.trans h3, h6, by omega⟩
  | _ => exact h

/-- What a step may do to a state, so that all readings stay. -/
structure Step (E E' : Env) (st st' : St) (w w' : World) : Prop where
  fr : Fr E.pr w w'
  pr : ∀ b k, E.pr b k → E'.pr b k
  ob : ∀ n, st.ob n ≠ none → st'.ob n ≠ none ∧ E'.ρ n = E.ρ n
  G : ∀ n, (st'.G n = st.G n ∧ E'.τ n = E.τ n) ∨ st.G n < st'.G n

theorem V.mono {E E' : Env} {st st' : St} {w w' : World} (k : Step E E' st st' w w') {x : AV} {y : Value} (h : V E st w x y) : V E' st' w' x y := by
  induction h with
  | dead y => exact .dead y
  | v x => exact .v x
  | agg hl _ ih => exact .agg hl ih
  | tup hl _ ih => exact .tup hl ih
  | sl h ht =>
    refine .sl (h.mono k.fr k.pr) (fun n g hn => ?_)
    obtain ⟨h1, h2⟩ := ht n g hn
    rcases k.G n with ⟨e1, e2⟩ | hlt
    · exact ⟨by omega, fun hg => (h2 (by omega)).mono k.fr.rows e2⟩
    · exact ⟨by omega, fun hg => by omega⟩
  | fn hl _ ih => exact .fn hl ih
  | ptr h => rw [← (k.ob _ h).2]; exact .ptr (k.ob _ h).1
  | osl h => rw [← (k.ob _ h).2]; exact .osl (k.ob _ h).1
  | own h hle hr =>
    obtain ⟨vs, e, h1, h2⟩ := hr
    obtain ⟨us, h3, h4⟩ := k.fr.rows _ _ _ _ h1
    have e1 := (k.ob _ h).2
    rw [← e1]
    exact .own (k.ob _ h).1 hle ⟨us, e, by rw [e1]; exact h3, by omega⟩
  | rptr cells hp h hc => exact .rptr cells (fun j hj => k.pr _ _ (hp j hj)) (fun j hj => (h j hj).mono k.fr k.pr) (fun j hj => k.fr.cell _ _ _ (hp j hj) (hc j hj))

/-- A local object's row. -/
def Row (E : Env) (st : St) (w : World) (n : Nm) (cs : List AV) : Prop :=
  ∃ vs : Array Value, ∃ e : TypeId, w.heap[E.ρ n]? = some (.cells vs e (0, 0)) ∧ cs.length ≤ vs.size ∧ ∀ i (hi : i < cs.length), V E st w cs[i] (vs.getD i undef)

/-- Where a frame began: the world; the cells that are read of it; the blocks that it may write; how many slots it has; the block of the object that was handed in. -/
structure Base where
  pr : Pr
  wr : Nat → Prop
  w : World
  N : Nat
  rb : Nat

/-- May a block be written, or is it new? -/
def Base.mine (B : Base) (b : Nat) : Prop := B.wr b ∨ B.w.heap.size ≤ b

/-- The frame a and the world w are as the abstract state says; of what was protected at the beginning nothing turned. -/
structure Rel0 (B : Base) (E : Env) (st : St) (a : Act) (w : World) : Prop where
  sl : ∀ i, V E st w (st.sl i) (a.tmps.getD i undef)
  ob : ∀ n cs, st.ob n = some cs → Row E st w n cs
  inj : ∀ n m, st.ob n ≠ none → st.ob m ≠ none → E.ρ n = E.ρ m → n = m
  obp : ∀ n, st.ob n ≠ none → ∀ k, ¬ E.pr (E.ρ n) k
  own : ∀ n, st.ob n ≠ none → B.mine (E.ρ n)
  tau : ∀ n b e, E.τ n = some (b, e) → b < w.heap.size ∧ B.mine b ∧ (∀ k, e ≤ k → ¬ E.pr b k) ∧ ∀ m, st.ob m ≠ none → E.ρ m ≠ b
  tdis : ∀ n m b e e', E.τ n = some (b, e) → E.τ m = some (b, e') → n = m
  frame : Fr B.pr B.w w
  keep : ∀ b, ¬ B.mine b → w.heap[b]? = B.w.heap[b]?
  prot : ∀ b k, B.pr b k → E.pr b k
  prnew : ∀ b k, E.pr b k → B.pr b k ∨ B.mine b
  prlt : ∀ b k, E.pr b k → b < w.heap.size
  pin : st.ob (0, 1, 0) ≠ none → E.ρ (0, 1, 0) = B.rb
  defers : a.defers = []
  size : a.tmps.size = B.N

def Rel (B : Base) (st : St) (a : Act) (w : World) : Prop := ∃ E, Rel0 B E st a w

end Caw

namespace Caw
open Go Go.RowKit

def setF {ι α : Type} [DecidableEq ι] (f : ι → α) (d : ι) (x : α) : ι → α := fun i => if i = d then x else f i

theorem getD_set (xs : Array Value) (d i : Nat) (y : Value) (hd : d < xs.size) : (xs.setIfInBounds d y).getD i undef = if i = d then y else xs.getD i undef := by
  by_cases h : i = d
  · subst h; simp [Array.getD, hd]
  · simp only [h, if_false, Array.getD_eq_getD_getElem?]
    rw [Array.getElem?_setIfInBounds_ne (Ne.symm h)]

section
variable {B : Base} {w w' : World} {E : Env} {st : St} {a : Act}

theorem Rel0.lt (h : Rel0 B E st a w) {n : Nm} (hn : st.ob n ≠ none) : E.ρ n < w.heap.size := by
  cases hc : st.ob n with
  | none => exact absurd hc hn
  | some cs =>
    obtain ⟨vs, e, hh, _⟩ := h.ob n cs hc
    exact (Array.getElem?_eq_some_iff.1 hh).1

/-- The world turns; what is protected stays, and the objects' rows do, and more may be protected, but of objects, and of what is behind a name's end. -/
theorem Rel0.turn (h : Rel0 B E st a w) (hf : Fr E.pr w w') (hk : ∀ b, ¬ B.mine b → w'.heap[b]? = w.heap[b]?) (hob : ∀ n, st.ob n ≠ none → w'.heap[E.ρ n]? = w.heap[E.ρ n]?) {pr' : Pr} (hp : ∀ b k, E.pr b k → pr' b k)
    (hn : ∀ b k, pr' b k → ¬ E.pr b k → b < w'.heap.size ∧ B.mine b ∧ (∀ m, st.ob m ≠ none → E.ρ m ≠ b) ∧ ∀ n e, E.τ n = some (b, e) → k < e) : Rel0 B { E with pr := pr' } st a w' := by
  have k : Step E { E with pr := pr' } st st w w' := ⟨hf, hp, fun n hn => ⟨hn, rfl⟩, fun n => .inl ⟨rfl, rfl⟩⟩
  refine ⟨fun i => (h.sl i).mono k, fun n cs hc => ?_, h.inj, fun n hn' j hj => ?_, h.own, fun n b e ht => ?_, h.tdis, h.frame.trans hf h.prot, fun b hb => (hk b hb).trans (h.keep b hb), fun b j hj => hp _ _ (h.prot b j hj), fun b j hj => ?_, fun b j hj => ?_, h.pin, h.defers, h.size⟩
  · obtain ⟨vs, e, hh, hl, hv⟩ := h.ob n cs hc
    exact ⟨vs, e, by rw [← hh]; exact hob n (by rw [hc]; simp), hl, fun i hi => (hv i hi).mono k⟩
  · by_cases hc : E.pr (E.ρ n) j
    · exact h.obp n hn' j hc
    · exact (hn _ j hj hc).2.2.1 n hn' rfl
  · obtain ⟨h1, h1', h2, h3⟩ := h.tau n b e ht
    refine ⟨Nat.lt_of_lt_of_le h1 hf.size, h1', fun j hj hpj => ?_, h3⟩
    by_cases hc : E.pr b j
    · exact h2 j hj hc
    · have := (hn b j hpj hc).2.2.2 n e ht
      omega
  · by_cases hc : E.pr b j
    · exact h.prnew b j hc
    · exact .inr (hn b j hj hc).2.1
  · by_cases hc : E.pr b j
    · exact Nat.lt_of_lt_of_le (h.prlt b j hc) hf.size
    · exact (hn b j hj hc).1

/-- A new block, of which cells are protected from now on. -/
theorem Rel0.fresh (h : Rel0 B E st a w) (hf : Fr E.pr w w') (hk : ∀ b, b < w.heap.size → w'.heap[b]? = w.heap[b]?) {pr' : Pr} (hp : ∀ b k, E.pr b k → pr' b k)
    (hn : ∀ b k, pr' b k → ¬ E.pr b k → w.heap.size ≤ b ∧ b < w'.heap.size) : Rel0 B { E with pr := pr' } st a w' :=
  h.turn hf (fun b hb => by
    refine hk b (Nat.lt_of_not_le fun hle => hb (.inr (Nat.le_trans h.frame.size hle)))) (fun n hn => hk _ (h.lt hn)) hp fun b k h1 h2 => by
    obtain ⟨h3, h4⟩ := hn b k h1 h2
    exact ⟨h4, .inr (Nat.le_trans h.frame.size h3), fun m hm e => by have := h.lt hm; omega, fun n e ht => by have := (h.tau n b e ht).1; omega⟩

/-- A name's place is set anew: its generation grows. -/
theorem Rel0.tag (h : Rel0 B E st a w) (n : Nm) (t : Option (Nat × Nat))
    (ht : ∀ b e, t = some (b, e) → b < w.heap.size ∧ B.mine b ∧ (∀ k, e ≤ k → ¬ E.pr b k) ∧ (∀ m, st.ob m ≠ none → E.ρ m ≠ b) ∧ ∀ m e', m ≠ n → E.τ m ≠ some (b, e')) :
    Rel0 B { E with τ := setF E.τ n t } { st with G := setF st.G n (st.G n + 1) } a w := by
  have k : Step E { E with τ := setF E.τ n t } st { st with G := setF st.G n (st.G n + 1) } w w := by
    refine ⟨Fr.refl _ _, fun _ _ h => h, fun n hn => ⟨hn, rfl⟩, fun m => ?_⟩
    by_cases hm : m = n
    · exact .inr (by simp [setF, hm])
    · exact .inl ⟨by simp [setF, hm], by simp [setF, hm]⟩
  refine ⟨fun i => (h.sl i).mono k, fun m cs hc => ?_, h.inj, h.obp, h.own, fun m b e hm => ?_, fun m j b e e' hm hj => ?_, h.frame, h.keep, h.prot, h.prnew, h.prlt, h.pin, h.defers, h.size⟩
  · obtain ⟨vs, e, hh, hl, hv⟩ := h.ob m cs hc
    exact ⟨vs, e, hh, hl, fun i hi => (hv i hi).mono k⟩
  · simp only [setF] at hm
    by_cases hmn : m = n
    · simp only [hmn, if_true] at hm
      exact ⟨(ht b e hm).1, (ht b e hm).2.1, (ht b e hm).2.2.1, (ht b e hm).2.2.2.1⟩
    · simp only [hmn, if_false] at hm
      exact h.tau m b e hm
  · simp only [setF] at hm hj
    by_cases h1 : m = n <;> by_cases h2 : j = n
    · exact h1.trans h2.symm
    · simp only [h1, h2, if_true, if_false] at hm hj
      exact absurd hj ((ht b e hm).2.2.2.2 j e' h2)
    · simp only [h1, h2, if_true, if_false] at hm hj
      exact absurd hm ((ht b e' hj).2.2.2.2 m e h1)
    · simp only [h1, h2, if_false] at hm hj
      exact h.tdis m j b e e' hm hj

/-- A slot is written. -/
theorem Rel0.put (h : Rel0 B E st a w) {d : Nat} (hd : d < B.N) {x : AV} {y : Value} (hx : V E st w x y) :
    Rel0 B E { st with sl := setF st.sl d x } (a.put (some d) y) w := by
  have k : Step E E st { st with sl := setF st.sl d x } w w := ⟨Fr.refl _ _, fun _ _ h => h, fun n hn => ⟨hn, rfl⟩, fun n => .inl ⟨rfl, rfl⟩⟩
  refine ⟨fun i => ?_, fun n cs hc => ?_, h.inj, h.obp, h.own, h.tau, h.tdis, h.frame, h.keep, h.prot, h.prnew, h.prlt, h.pin, h.defers, by simp [Act.put, h.size]⟩
  · simp only [Act.put, setF]
    rw [getD_set _ _ _ _ (by rw [h.size]; exact hd)]
    split
    · exact hx.mono k
    · exact (h.sl i).mono k
  · obtain ⟨vs, e, hh, hl, hv⟩ := h.ob n cs hc
    exact ⟨vs, e, hh, hl, fun i hi => (hv i hi).mono k⟩

theorem fr_alloc (pr : Pr) (w : World) (o : Obj) : Fr pr w (w.alloc o) :=
  ⟨rfl, rfl, rfl, by simp, fun b j x _ hc => by
    rw [← hc]
    exact World.cell?_of_block (w := w) (a := ⟨b, j, none⟩) (Below.heap_alloc _ _ _ (World.block_lt_of_cell? _ _ hc)), fun b hb _ => Below.heap_alloc _ _ _ hb,
   fun b vs e m hv => ⟨vs, by rw [Below.heap_alloc _ _ _ (Array.getElem?_eq_some_iff.1 hv).1]; exact hv, rfl⟩⟩

theorem Rel0.keep_alloc (h : Rel0 B E st a w) (o : Obj) : ∀ b, ¬ B.mine b → (w.alloc o).heap[b]? = B.w.heap[b]? := by
  intro b hb
  rw [← h.keep b hb]
  exact Below.heap_alloc _ _ _ (Nat.lt_of_not_le fun hle => hb (.inr (Nat.le_trans h.frame.size hle)))

/-- A new object. -/
theorem Rel0.alloc (h : Rel0 B E st a w) {n : Nm} (hn : st.ob n = none) (hn1 : n ≠ (0, 1, 0)) {cs : List AV} {vs : Array Value} (e : TypeId) (hl : cs.length ≤ vs.size)
    (hv : ∀ i (hi : i < cs.length), V E st w cs[i] (vs.getD i undef)) :
    Rel0 B { E with ρ := setF E.ρ n w.heap.size } { st with ob := setF st.ob n (some cs) } a (w.alloc (.cells vs e)) := by
  have hlt : ∀ m, st.ob m ≠ none → E.ρ m < w.heap.size := fun m hm => h.lt hm
  have hne : ∀ m, st.ob m ≠ none → m ≠ n := fun m hm e => hm (e ▸ hn)
  have k : Step E { E with ρ := setF E.ρ n w.heap.size } st { st with ob := setF st.ob n (some cs) } w (w.alloc (.cells vs e)) :=
    ⟨fr_alloc _ _ _, fun _ _ h => h, fun m hm => by have := hne m hm; simp [setF, this, hm], fun _ => .inl ⟨rfl, rfl⟩⟩
  refine ⟨fun i => (h.sl i).mono k, fun m ds hm => ?_, fun m j hm hk' he => ?_, fun m hm j hj => ?_, fun m hm => ?_, fun m b e' ht => ?_, h.tdis, h.frame.trans (fr_alloc E.pr _ _) h.prot, h.keep_alloc _, h.prot, h.prnew, fun b j hj => by simpa using Nat.lt_succ_of_lt (h.prlt b j hj), fun hp => by
    simp only [setF, Ne.symm hn1, if_false] at hp ⊢
    exact h.pin hp, h.defers, h.size⟩
  · simp only [setF] at hm
    by_cases hmn : m = n
    · subst hmn
      simp only [if_true, Option.some.injEq] at hm
      subst hm
      refine ⟨vs, e, ?_, hl, fun i hi => (hv i hi).mono k⟩
      simp only [setF, if_true]
      exact heap_alloc_new w _
    · simp only [hmn, if_false] at hm
      obtain ⟨us, e', hh, hl', hv'⟩ := h.ob m ds hm
      refine ⟨us, e', ?_, hl', fun i hi => (hv' i hi).mono k⟩
      simp only [setF, hmn, if_false]
      rw [Below.heap_alloc _ _ _ (hlt m (by rw [hm]; simp))]
      exact hh
  · simp only [setF] at hm hk' he
    by_cases h1 : m = n <;> by_cases h2 : j = n
    · exact h1.trans h2.symm
    · simp only [h1, h2, if_true, if_false] at he hk'
      have := hlt j hk'; omega
    · simp only [h1, h2, if_true, if_false] at he hm
      have := hlt m hm; omega
    · simp only [h1, h2, if_false] at he hm hk'
      exact h.inj m j hm hk' he
  · simp only [setF] at hm hj
    by_cases h1 : m = n
    · simp only [h1, if_true] at hj
      have := h.prlt _ _ hj; omega
    · simp only [h1, if_false] at hj hm
      exact h.obp m hm j hj
  · simp only [setF] at hm ⊢
    by_cases h1 : m = n
    · simp only [h1, if_true]; exact .inr h.frame.size
    · simp only [h1, if_false] at hm ⊢; exact h.own m hm
  · obtain ⟨t1, t1', t2, t3⟩ := h.tau m b e' ht
    refine ⟨by simpa using Nat.lt_succ_of_lt t1, t1', t2, fun j hj => ?_⟩
    simp only [setF] at hj ⊢
    by_cases h1 : j = n
    · simp only [h1, if_true]; omega
    · simp only [h1, if_false] at hj ⊢; exact t3 j hj

theorem fr_row {pr : Pr} {w : World} {b : Nat} {us vs : Array Value} {e : TypeId} (hh : w.heap[b]? = some (.cells us e (0, 0))) (hs : vs.size = us.size)
    (hv : ∀ k, pr b k → vs[k]? = us[k]?) (hw : ∃ k, ¬ pr b k) : Fr pr w (w.setRow b vs) := by
  refine ⟨rfl, rfl, rfl, by simp, fun c j x hp hc => ?_, fun c hc hall => ?_, fun c ts e' m ht => ?_⟩
  · by_cases hcb : c = b
    · subst hcb
      rw [cell_of_row w c j us e (0, 0) hh] at hc
      rw [cell_of_row _ c j vs e (0, 0) (setRow_heap w c us vs e (0, 0) hh), hv j hp]
      exact hc
    · rw [← hc]
      exact World.cell?_of_block (w := w) (a := ⟨c, j, none⟩) (setRow_other w b c vs hcb)
  · obtain ⟨k, hk⟩ := hw
    exact setRow_other w _ _ _ (fun hcb => hk (hcb ▸ hall k))
  · by_cases hcb : c = b
    · subst hcb
      rw [hh] at ht
      cases ht
      exact ⟨vs, setRow_heap w c us vs _ (0, 0) hh, hs⟩
    · exact ⟨ts, by rw [setRow_other w b c vs hcb]; exact ht, rfl⟩

/-- An object is written. -/
theorem Rel0.store (h : Rel0 B E st a w) {n : Nm} {old cs : List AV} (hn : st.ob n = some old) {vs us : Array Value} {e : TypeId} (hh : w.heap[E.ρ n]? = some (.cells us e (0, 0)))
    (hs : vs.size = us.size) (hl : cs.length ≤ vs.size) (hv : ∀ i (hi : i < cs.length), V E st w cs[i] (vs.getD i undef)) :
    Rel0 B E { st with ob := setF st.ob n (some cs) } a (w.setRow (E.ρ n) vs) := by
  have hnn : st.ob n ≠ none := by rw [hn]; simp
  have hf : Fr E.pr w (w.setRow (E.ρ n) vs) := fr_row hh hs (fun k hk => absurd hk (h.obp n hnn k)) ⟨0, h.obp n hnn 0⟩
  have hiff : ∀ m, setF st.ob n (some cs) m ≠ none ↔ st.ob m ≠ none := by
    intro m
    simp only [setF]
    by_cases hmn : m = n
    · simp [hmn, hn]
    · simp [hmn]
  have k : Step E E st { st with ob := setF st.ob n (some cs) } w (w.setRow (E.ρ n) vs) := ⟨hf, fun _ _ h => h, fun m hm => ⟨(hiff m).2 hm, rfl⟩, fun _ => .inl ⟨rfl, rfl⟩⟩
  refine ⟨fun i => (h.sl i).mono k, fun m ds hm => ?_, fun m j hm hj he => h.inj m j ((hiff m).1 hm) ((hiff j).1 hj) he, fun m hm => h.obp m ((hiff m).1 hm), fun m hm => h.own m ((hiff m).1 hm), fun m b e' ht => ?_, h.tdis, h.frame.trans hf h.prot, fun b hb => ?_, h.prot, h.prnew, fun b j hj => by simpa using h.prlt b j hj, fun hp => h.pin ((hiff _).1 hp), h.defers, h.size⟩
  · simp only [setF] at hm
    by_cases hmn : m = n
    · subst hmn
      simp only [if_true, Option.some.injEq] at hm
      subst hm
      exact ⟨vs, e, setRow_heap w _ us vs e (0, 0) hh, hl, fun i hi => (hv i hi).mono k⟩
    · simp only [hmn, if_false] at hm
      obtain ⟨us', e', hh', hl', hv'⟩ := h.ob m ds hm
      refine ⟨us', e', ?_, hl', fun i hi => (hv' i hi).mono k⟩
      rw [setRow_other w _ _ _ (fun he => hmn (h.inj m n (by rw [hm]; simp) hnn he))]
      exact hh'
  · obtain ⟨t1, t1', t2, t3⟩ := h.tau m b e' ht
    exact ⟨by simpa using t1, t1', t2, fun j hj => t3 j ((hiff j).1 hj)⟩
  · rw [setRow_other w _ _ _ (fun (he : b = E.ρ n) => hb (by rw [he]; exact h.own n hnn))]
    exact h.keep b hb

end
end Caw

namespace Caw
open Go Go.RowKit

/-! ### What asks nothing of the world, run -/
def prun (P : Program) {α : Type} : Sem α → Option α
  | .pure a => some a
  | .program k => prun P (k P)
  | _ => none

theorem prun_run {P : Program} {α : Type} : ∀ {s : Sem α} {a : α}, prun P s = some a → ∀ w, s.run P w = .ok a w
  | .pure a, b, h, w => by
    simp only [prun, Option.some.injEq] at h
    subst h; rfl
  | .program k, b, h, w => by
    simp only [prun] at h
    have := prun_run h w
    simpa [Sem.run] using this
  | .load .., b, h, w => by simp [prun] at h
  | .store .., b, h, w => by simp [prun] at h
  | .new .., b, h, w => by simp [prun] at h
  | .shape .., b, h, w => by simp [prun] at h
  | .freeze .., b, h, w => by simp [prun] at h
  | .frozen .., b, h, w => by simp [prun] at h
  | .getObj .., b, h, w => by simp [prun] at h
  | .setObj .., b, h, w => by simp [prun] at h
  | .choose .., b, h, w => by simp [prun] at h
  | .sys .., b, h, w => by simp [prun] at h
  | .mark .., b, h, w => by simp [prun] at h
  | .halt .., b, h, w => by simp [prun] at h

/-! ### Aggregates -/
def allV : List AV → Option (List Value)
  | [] => some []
  | .v x :: r => (allV r).map (x :: ·)
  | _ :: _ => none
def mkAgg (cs : List AV) : AV :=
  match allV cs with
  | some vs => .v (.agg vs.toArray)
  | none => .agg cs

section
variable {E : Env} {st : St} {w : World}
theorem V_v {x y : Value} (h : V E st w (.v x) y) : y = x := by
  cases h; rfl

theorem allV_eq : ∀ {cs : List AV} {vs ys : List Value}, allV cs = some vs → cs.length = ys.length →
    (∀ i (hi : i < cs.length), V E st w cs[i] (ys.getD i undef)) → vs = ys
  | [], vs, ys, h, hl, _ => by
    simp only [allV, Option.some.injEq] at h
    subst h
    cases ys with
    | nil => rfl
    | cons y r => simp at hl
  | c :: r, vs, ys, h, hl, hv => by
    cases ys with
    | nil => simp at hl
    | cons y q =>
      cases c <;> simp only [allV, Option.map_eq_some_iff] at h
      case v x =>
        obtain ⟨us, hu, rfl⟩ := h
        have h0 : y = x := V_v (hv 0 (Nat.zero_lt_succ _))
        subst h0
        rw [allV_eq hu (by simpa using hl) (fun i hi => hv (i + 1) (Nat.succ_lt_succ hi))]
      all_goals cases h

theorem V_mkAgg {cs : List AV} {vs : List Value} (hl : cs.length = vs.length)
    (hv : ∀ i (hi : i < cs.length), V E st w cs[i] (vs.getD i undef)) : V E st w (mkAgg cs) (.agg vs.toArray) := by
  unfold mkAgg
  cases h : allV cs with
  | none => exact .agg (by simpa using hl) (fun i hi => by simpa using hv i hi)
  | some us =>
    have := allV_eq h hl hv
    subst this
    exact .v _

theorem V_one {x : AV} {y : Value} (h : V E st w x y) (hx : flat x = [x]) (hy : y.cells = #[y]) :
    (flat x).length = y.cells.size ∧ ∀ i (hi : i < (flat x).length), V E st w (flat x)[i] (y.cells.getD i undef) := by
  rw [hy]
  refine ⟨by simp [hx], fun i hi => ?_⟩
  have hi' : i = 0 := by rw [hx] at hi; simpa using hi
  subst hi'
  have e : (flat x)[0] = x := by simp [hx]
  rw [e]
  exact h

/-- The cells of a value, by its abstract value. -/
theorem V_flat {x : AV} {y : Value} (h : V E st w x y) (hx : x ≠ .dead) :
    (flat x).length = y.cells.size ∧ ∀ i (hi : i < (flat x).length), V E st w (flat x)[i] (y.cells.getD i undef) := by
  cases h with
  | dead => exact absurd rfl hx
  | v =>
    cases y with
    | agg cs =>
      refine ⟨by simp [flat, Value.cells], fun i hi => ?_⟩
      have hi' : i < cs.size := by simpa [flat] using hi
      have e : (flat (.v (.agg cs)))[i] = .v cs[i] := by simp [flat]
      rw [e]
      have e2 : (Value.agg cs).cells.getD i undef = cs[i] := by simp [Value.cells, hi']
      rw [e2]
      exact .v _
    | _ => exact V_one (.v _) rfl rfl
  | agg hl h => exact ⟨by simpa [flat, Value.cells] using hl, h⟩
  | tup hl h => exact V_one (.tup hl h) rfl rfl
  | sl h ht =>
    refine V_one (.sl h ht) rfl ?_
    cases h <;> rfl
  | fn hl h => exact V_one (.fn hl h) rfl rfl
  | ptr h => exact V_one (.ptr h) rfl rfl
  | osl h => exact V_one (.osl h) rfl rfl
  | own h h1 h2 => exact V_one (.own h h1 h2) rfl rfl
  | rptr cells hp h hc => exact V_one (.rptr cells hp h hc) rfl rfl
end
end Caw

namespace Caw
open Go Go.RowKit

/-! ### Two lists, cell by cell -/
def All2 (R : AV → Value → Prop) (cs : List AV) (vs : List Value) : Prop := cs.length = vs.length ∧ ∀ i (hi : i < cs.length), R cs[i] (vs.getD i undef)

section
variable {R : AV → Value → Prop}
theorem All2.nil : All2 R [] [] := ⟨rfl, fun i hi => absurd hi (by simp)⟩
theorem All2.cons {c : AV} {v : Value} {cs : List AV} {vs : List Value} (h : R c v) (t : All2 R cs vs) : All2 R (c :: cs) (v :: vs) := by
  refine ⟨by simp [t.1], fun i hi => ?_⟩
  cases i with
  | zero => exact h
  | succ i => exact t.2 i (Nat.lt_of_succ_lt_succ hi)
theorem All2.head {c : AV} {v : Value} {cs : List AV} {vs : List Value} (h : All2 R (c :: cs) (v :: vs)) : R c v := h.2 0 (Nat.zero_lt_succ _)
theorem All2.tail {c : AV} {v : Value} {cs : List AV} {vs : List Value} (h : All2 R (c :: cs) (v :: vs)) : All2 R cs vs :=
  ⟨by simpa using h.1, fun i hi => h.2 (i + 1) (Nat.succ_lt_succ hi)⟩
theorem All2.append {cs ds : List AV} {vs us : List Value} (h : All2 R cs vs) (k : All2 R ds us) : All2 R (cs ++ ds) (vs ++ us) := by
  induction cs generalizing vs with
  | nil => cases vs with
    | nil => exact k
    | cons v r => exact absurd h.1 (by simp)
  | cons c r ih => cases vs with
    | nil => exact absurd h.1 (by simp)
    | cons v q => exact .cons h.head (ih h.tail)
theorem All2.take {cs : List AV} {vs : List Value} (h : All2 R cs vs) (k : Nat) : All2 R (cs.take k) (vs.take k) := by
  induction k generalizing cs vs with
  | zero => simpa using All2.nil
  | succ k ih => cases cs with
    | nil => cases vs with
      | nil => exact .nil
      | cons v r => exact absurd h.1 (by simp)
    | cons c r => cases vs with
      | nil => exact absurd h.1 (by simp)
      | cons v q => exact .cons h.head (ih h.tail)
theorem All2.drop {cs : List AV} {vs : List Value} (h : All2 R cs vs) (k : Nat) : All2 R (cs.drop k) (vs.drop k) := by
  induction k generalizing cs vs with
  | zero => simpa using h
  | succ k ih => cases cs with
    | nil => cases vs with
      | nil => exact .nil
      | cons v r => exact absurd h.1 (by simp)
    | cons c r => cases vs with
      | nil => exact absurd h.1 (by simp)
      | cons v q => exact ih h.tail
theorem All2.get {cs : List AV} {vs : List Value} (h : All2 R cs vs) {i : Nat} {c : AV} (hc : cs[i]? = some c) : ∃ v, vs[i]? = some v ∧ R c v := by
  obtain ⟨hi, rfl⟩ := List.getElem?_eq_some_iff.1 hc
  have hj : i < vs.length := h.1 ▸ hi
  refine ⟨vs[i], by simp [hj], ?_⟩
  have := h.2 i hi
  rwa [List.getD_eq_getElem?_getD, List.getElem?_eq_getElem hj, Option.getD_some] at this
theorem All2.mem {cs : List AV} {vs : List Value} (h : All2 R cs vs) {v : Value} (hv : v ∈ vs) : ∃ c, c ∈ cs ∧ R c v := by
  obtain ⟨i, hi, rfl⟩ := List.getElem_of_mem hv
  have hj : i < cs.length := h.1 ▸ hi
  refine ⟨cs[i], List.getElem_mem hj, ?_⟩
  have := h.2 i hj
  rwa [List.getD_eq_getElem?_getD, List.getElem?_eq_getElem hi, Option.getD_some] at this
end

theorem arr_getD (vs : Array Value) (i : Nat) : vs.getD i undef = vs.toList.getD i undef := by
  simp [List.getD, Array.getElem?_toList]

/-! ### The operations -/
/-- A call, as a function on abstract values: its result, and what the variables that it has pointers to hold behind it. -/
abbrev Fun := List AV → Option (AV × List (List AV))
/-- The contracts at hand. -/
abbrev Ctx := FuncId → Option Fun

def ev (st : St) : Operand → AV
  | .tmp t => st.sl t
  | .const x => .v x
  | .global g => .v (.pointer (some ⟨g, 0, none⟩))
  | .func f => .v (.func (.func f) #[] #[])

def toV : AV → Option Value
  | .v x => some x
  | _ => none
/-- A leaf that leads to nothing that may be written. -/
def leafP : AV → Bool
  | .v _ => true
  | .sl _ _ _ => true
  | _ => false
def isPure : AV → Bool
  | .agg cs => cs.all leafP
  | x => leafP x
/-- What may be handed to a function as it is. -/
def leafH : AV → Bool
  | .v _ => true
  | .sl _ _ _ => true
  | .rptr _ _ => true
  | _ => false
def isHand : AV → Bool
  | .agg cs => cs.all leafH
  | .fn _ cs => cs.all leafH
  | x => leafH x
/-- What one cell may hold. -/
def leafOk : AV → Bool
  | .v c => c.oneCell'
  | .sl _ _ _ => true
  | .ptr _ _ => true
  | .rptr _ _ => true
  | .osl _ _ _ _ => true
  | .own _ _ _ => true
  | .fn _ _ => true
  | _ => false
def live : AV → Bool
  | .dead => false
  | .ref _ => false
  | _ => true
def sizeT (P : Program) (t : TypeId) : Option Nat := (P.info? t).map (·.size)

/-- Is the type a row of cells, and of how many? -/
def rowT (P : Program) (t : TypeId) : Option (Bool × Nat) :=
  match P.underlying t, sizeT P t with
  | some d, some sz => some (d.isRow, sz)
  | _, _ => none
/-- The size of a slice's element. -/
def sliceT (P : Program) (t : TypeId) : Option Nat :=
  match P.underlying t with
  | some (.slice e) => sizeT P e
  | _ => none
/-- An array's length, and the size of its element. -/
def arrT (P : Program) (t : TypeId) : Option (Nat × Nat) :=
  match P.underlying t with
  | some (.array n e) => (sizeT P e).map (n, ·)
  | _ => none
/-- A variable's first value. -/
def zeroT (P : Program) (t : TypeId) : Option Value := (P.info? t).bind (·.zero)

/-- Cells k to k + sz; and these written anew. -/
def cut (cs : List AV) (k sz : Nat) : List AV := (cs.drop k).take sz
def splice (cs : List AV) (k : Nat) (xs : List AV) (sz : Nat) : List AV := cs.take k ++ xs ++ cs.drop (k + sz)

def ldc (P : Program) (t : TypeId) (cs : List AV) (k : Nat) : Option AV :=
  match rowT P t with
  | none => none
  | some (true, sz) => if k + sz ≤ cs.length then some (mkAgg (cut cs k sz)) else none
  | some (false, _) => cs[k]?

def fieldOff (P : Program) (s : TypeId) (f : Nat) : Option Nat :=
  match P.underlying s with
  | some (.struct fs) => match fs[f]? with
    | some fd => match sizeT P fd.type with
      | some (_ + 1) => some fd.offset
      | _ => none
    | none => none
  | _ => none

/-- Bits. -/
def bAnd (k : IntKind) (a b : Int) : Int := k.wrap (BitVec.ofInt k.bits a &&& BitVec.ofInt k.bits b).toNat
def bOr (k : IntKind) (a b : Int) : Int := k.wrap (BitVec.ofInt k.bits a ||| BitVec.ofInt k.bits b).toNat
def bXor (k : IntKind) (a b : Int) : Int := k.wrap (BitVec.ofInt k.bits a ^^^ BitVec.ofInt k.bits b).toNat
def bAndNot (k : IntKind) (a b : Int) : Int := k.wrap (BitVec.ofInt k.bits a &&& ~~~BitVec.ofInt k.bits b).toNat

/-- Two integers of one kind. -/
def ibin (op : BinOp) (k : IntKind) (a b : Int) : Option Value :=
  match op with
  | .add => some (.int k (k.wrap (a + b)))
  | .sub => some (.int k (k.wrap (a - b)))
  | .mul => some (.int k (k.wrap (a * b)))
  | .quo => if b = 0 then none else some (.int k (k.wrap (a.tdiv b)))
  | .rem => if b = 0 then none else some (.int k (a.tmod b))
  | .and => some (.int k (bAnd k a b))
  | .or => some (.int k (bOr k a b))
  | .xor => some (.int k (bXor k a b))
  | .andNot => some (.int k (bAndNot k a b))
  | .eql => some (.bool (a == b))
  | .neq => some (.bool (a != b))
  | .lss => some (.bool (decide (a < b)))
  | .leq => some (.bool (decide (a ≤ b)))
  | .gtr => some (.bool (decide (b < a)))
  | .geq => some (.bool (decide (b ≤ a)))
  | _ => none

def isShift : BinOp → Bool
  | .shl => true
  | .shr => true
  | _ => false

def ishift (op : BinOp) (k : IntKind) (x y : Int) : Option Value :=
  if y < 0 then none else
  match op with
  | .shl => some (.int k (k.wrap (x * 2 ^ (min y.toNat k.bits))))
  | .shr => some (.int k (x.fdiv (2 ^ (min y.toNat k.bits))))
  | _ => none

def isBoolT (P : Program) (t : TypeId) : Bool :=
  match P.underlying t with
  | some .bool => true
  | _ => false

def sbin (P : Program) (op : BinOp) (t : TypeId) : Value → Value → Option Value
  | .int k a, .int k' b => if isShift op then ishift op k a b else if k = k' then ibin op k a b else none
  | .bool a, .bool b => if isBoolT P t then (match op with
    | .eql => some (.bool (a == b))
    | .neq => some (.bool (!(a == b)))
    | _ => none) else none
  | .string a, .string b => match op with
    | .add => if a.size + b.size ≤ 4611686018427387904 then some (.string (a ++ b)) else none
    | .eql => some (.bool (a.toList == b.toList))
    | .neq => some (.bool (!(a.toList == b.toList)))
    | _ => none
  | _, _ => none

def sun : UnOp → Value → Option Value
  | .not, .bool b => some (.bool !b)
  | .neg, .int k n => some (.int k (k.wrap (0 - n)))
  | .xor, .int k n => some (.int k (bXor k (if k.signed then -1 else k.max) n))
  | _, _ => none

def intT (P : Program) (t : TypeId) : Option IntKind :=
  match P.underlying t with
  | some (.int k) => some k
  | _ => none

def sconv (P : Program) (s d : TypeId) : Value → Option Value
  | .int _ n => if (P.underlying s).isSome then (intT P d).map fun k => .int k (k.wrap n) else none
  | _ => none

def smin : Value → Value → Option Value
  | .int k x, .int _ y => some (.int k (if y < x then y else x))
  | _, _ => none
def smax : Value → Value → Option Value
  | .int k x, .int _ y => some (.int k (if y > x then y else x))
  | _, _ => none

/-- Everyday operations on values that share nothing. -/
def sop (P : Program) (g : Operand → Option Value) : Op → Option Value
  | .binOp b t x y _ => match g x, g y with
    | some u, some v => sbin P b t u v
    | _, _ => none
  | .unOp u _ x => match g x with
    | some v => sun u v
    | none => none
  | .convert s d x => match g x with
    | some v => sconv P s d v
    | none => none
  | .call c => match c.callee, c.args.toList with
    | .builtin .min, [x, y] => match g x, g y with
      | some u, some v => smin u v
      | _, _ => none
    | .builtin .min, [x, y, z] => (match g x, g y, g z with
      | some u, some v, some q => (smin u v).bind (smin · q)
      | _, _, _ => none)
    | .builtin .max, [x, y] => match g x, g y with
      | some u, some v => smax u v
      | _, _ => none
    | _, _ => none
  | _ => none

/-- An operation that asks nothing of the world, on values that share nothing. -/
def dflt (P : Program) (st : St) (o : Oper) : Option (AV × St) :=
  match sop P (fun x => toV (ev st x)) o.op with
  | some v => some (.v v, st)
  | none =>
    if o.op.operands.all (fun x => (toV (ev st x)).isSome) then
      (match prun P (execOp (fun x => (toV (ev st x)).getD undef) o) with
      | some (.value y) => some (.v y, st)
      | _ => none) else none

/-- The function that is called. -/
def calleeOf : AV → Option FuncId
  | .v (.func (.func g) fs cs) => if fs.isEmpty && cs.isEmpty then some g else none
  | _ => none

/-- May the slice grow in place? -/
def top (st : St) : Tg → Bool
  | some (n, g) => g == st.G n
  | none => false

/-- A cell as it is read out of memory that is not the frame's own: its tag says nothing. -/
def strip : AV → AV
  | .v x => .v x
  | .sl sz es _ => .sl sz es none
  | _ => .dead

/-- What is loaded. -/
def eload (P : Program) (st : St) (t : TypeId) : AV → Option AV
  | .ptr n k => match st.ob n with
    | some cs => ldc P t cs k
    | none => none
  | .rptr y k => ldc P t ((flat y).map strip) k
  | _ => none

/-- A field's place. -/
def efield (P : Program) (s : TypeId) (f : Nat) : AV → Option AV
  | .ptr n k => (fieldOff P s f).map fun off => .ptr n (k + off)
  | .rptr y k => (fieldOff P s f).map fun off => .rptr y (k + off)
  | _ => none

/-- An element's place. -/
def eindex (P : Program) (t : TypeId) (n : Int) : AV → Option AV
  | .sl sz es _ => if 0 ≤ n ∧ sliceT P t = some sz then (es[n.toNat]?).map fun y => .rptr y 0 else none
  | .osl m off len _ => if 0 ≤ n ∧ n < len ∧ sliceT P t = some 1 then some (.ptr m (off + n.toNat)) else none
  | .own m sz len => if 0 ≤ n ∧ n < len ∧ sliceT P t = some sz then some (.ptr m (n.toNat * sz)) else none
  | .ptr m k => match arrT P t with
    | some (len, s) => if 0 ≤ n ∧ n < len then some (.ptr m (k + n.toNat * s)) else none
    | none => none
  | .rptr y k => match arrT P t with
    | some (len, s) => if 0 ≤ n ∧ n < len then some (.rptr y (k + n.toNat * s)) else none
    | none => none
  | _ => none

def slLen (P : Program) (b : Builtin) (args : List AV) (tys : List TypeId) : Option Nat :=
  match b, args, tys with
  | .len, [.sl _ es _], [t] => (match sliceT P t with
    | some _ => some es.length
    | none => none)
  | .len, [.osl _ _ n _], [t] => (match sliceT P t with
    | some _ => some n
    | none => none)
  | .len, [.own _ _ n], [t] => (match sliceT P t with
    | some _ => some n
    | none => none)
  | .len, [.v (.string s)], [t] => (match P.underlying t with
    | some .string => some s.size
    | _ => none)
  | _, _, _ => none

/-- An element's cells and bytes, of a slice's type whose elements may be made. -/
def appI (P : Program) (t : TypeId) : Option (Nat × Nat) :=
  match P.underlying t with
  | some (.slice e) => (match P.info? e with
    | some i => (match i.zero with
      | some z => if z.cells.size = i.size ∧ 0 < i.size then some (i.size, i.bytes) else none
      | none => none)
    | none => none)
  | _ => none

/-- A slice that may grow: its elements, and its name. -/
def appT (st : St) : AV → Option (Option Nat × List AV × Option Nm)
  | .v (.slice none 0 0) => some (none, [], none)
  | .sl sz es (some (n, g)) => if g = st.G n then some (some sz, es, some n) else none
  | _ => none
/-- What is appended. -/
def srcT : AV → Option (Option Nat × List AV)
  | .v (.slice _ 0 _) => some (none, [])
  | .sl sz es _ => some (some sz, es)
  | _ => none

/-- A name's place is new. -/
def bump (st : St) (n : Nm) : St := { st with G := setF st.G n (st.G n + 1) }
def bumpO (st : St) : Option Nm → St
  | some n => bump st n
  | none => st

/-- A slice with elements more. -/
def eappend (P : Program) (st : St) (d : Nat) (t : TypeId) (s x : AV) : Option (AV × St) :=
  match appI P t, appT st s, srcT x with
  | some (sz, by_), some (a, es, n), some (b, ys) =>
    if a.all (· == sz) && b.all (· == sz) && decide ((es.length + ys.length) * (by_ + 1) ≤ 1099511627776) && ys.all (fun y => (flat y).all leafOk) then
      some (.sl sz (es ++ ys) (some (nmOf d 0, (bumpO st n).G (nmOf d 0) + 1)), bump (bumpO st n) (nmOf d 0))
    else none
  | _, _, _ => none

end Caw

namespace Caw
open Go Go.RowKit

section
variable {P : Program} (w : World)

/-- A slice grows in place. -/
theorem run_app_room (t ty e : TypeId) (i : TypeInfo) (ht : P.underlying t = some (.slice e)) (hi : P.info? e = some i)
    (g off sLen sCap : Nat) (cur : Array Value) (e' : TypeId) (hg : w.heap[g]? = some (.cells cur e' (0, 0)))
    (a : Addr) (m c : Nat) (news : List Value) (hl : news.length = m * i.size) (hnews : ∀ j u, news[j]? = some u → w.cell? (a.add j) = some u) (h1 : ∀ u ∈ news, u.oneCell' = true)
    (hroom : sLen + m ≤ sCap) (hfit : off + sLen * i.size + news.length ≤ cur.size) :
    (Builtin.append_ #[t, t] ty #[.slice (some ⟨g, off, none⟩) sLen sCap, .slice (some a) m c]).run P w =
      .ok (.slice (some ⟨g, off, none⟩) (sLen + m) sCap) (w.setRow g (cur.toList.take (off + sLen * i.size) ++ news ++ cur.toList.drop (off + sLen * i.size + news.length)).toArray) := by
  have hf := run_firstCells_some (P := P) w i.size m a m c news hl hnews
  have hst := run_storeCells_at P g (off + sLen * i.size) e' news 0 cur w hg (by simpa using hfit) h1
  simp only [Nat.add_zero] at hst
  have hadd : (⟨g, off, none⟩ : Addr).add (sLen * i.size) = ⟨g, off + sLen * i.size, none⟩ := by unfold Addr.add; split <;> simp_all
  simp [Builtin.append_, run_underlying ht, Go.sizeOf, Go.typeInfo, hi, Builtin.lenOf, hroom, hf, hadd, hst]

/-- Nothing is appended. -/
theorem run_app_zero (t ty e : TypeId) (i : TypeInfo) (ht : P.underlying t = some (.slice e)) (hi : P.info? e = some i)
    (b a : Option Addr) (n cap c : Nat) (hn : n ≤ cap) :
    (Builtin.append_ #[t, t] ty #[.slice b n cap, .slice a 0 c]).run P w = .ok (.slice b n cap) w := by
  cases b <;> cases a <;>
    simp [Builtin.append_, run_underlying ht, Go.sizeOf, Go.typeInfo, hi, Builtin.lenOf, Builtin.firstCells, hn, storeCells, loadCellsFrom, loadCells]

end

/-! ### A slice's elements as one row of cells -/
/-- The elements es lie from cell off of block b on, cell by cell 'vs'. -/
structure SlR (w : World) (pr : Pr) (sz : Nat) (es : List AV) (b off : Nat) (vs : List Value) : Prop where
  len : vs.length = es.length * sz
  fl : ∀ i (hi : i < es.length), (flat es[i]).length = sz
  prot : ∀ k, k < vs.length → pr b (off + k)
  rel : ∀ i (hi : i < es.length) j (hj : j < (flat es[i]).length), PV w pr (flat es[i])[j] (vs.getD (i * sz + j) undef)
  cell : ∀ k v, vs[k]? = some v → w.cell? ⟨b, off + k, none⟩ = some v

theorem add_none (b off k : Nat) : (⟨b, off, none⟩ : Addr).add k = ⟨b, off + k, none⟩ := by unfold Addr.add; split <;> simp_all

theorem SlR.pv {w : World} {pr : Pr} {sz : Nat} {es : List AV} {b off : Nat} {vs : List Value} (h : SlR w pr sz es b off vs) (tg : Tg) (cap : Nat) (hle : es.length ≤ cap) :
    PV w pr (.sl sz es tg) (.slice (some ⟨b, off, none⟩) es.length cap) := by
  have hlt : ∀ i, i < es.length → ∀ j, j < sz → i * sz + j < vs.length := by
    intro i hi j hj
    rw [h.len]
    have : (i + 1) * sz ≤ es.length * sz := Nat.mul_le_mul_right _ hi
    rw [Nat.add_mul] at this
    omega
  refine .sl (fun i j => vs.getD (i * sz + j) undef) hle h.fl (fun i hi j hj => h.prot _ (hlt i hi j hj)) h.rel (fun i hi j hj => h.cell _ _ ?_)
  have := hlt i hi j hj
  simp [List.getD, this]

theorem SlR.of {w : World} {pr : Pr} {sz : Nat} {es : List AV} {tg : Tg} {b off cap len : Nat} (h : PV w pr (.sl sz es tg) (.slice (some ⟨b, off, none⟩) len cap)) :
    len = es.length ∧ ∃ vs, SlR w pr sz es b off vs := by
  cases h with
  | nil => exact ⟨rfl, [], ⟨by simp, fun i hi => absurd hi (by simp), fun k hk => absurd hk (by simp), fun i hi => absurd hi (by simp), fun k v hk => by simp at hk⟩⟩
  | sl cells hle hs hp h hc =>
    refine ⟨rfl, (List.range (es.length * sz)).map (fun q => cells (q / sz) (q % sz)), by simp, hs, fun k hk => ?_, fun i hi j hj => ?_, fun k v hk => ?_⟩
    · have hk' : k < es.length * sz := by simpa using hk
      have hz : 0 < sz := by
        rcases Nat.eq_zero_or_pos sz with h0 | h0
        · rw [h0] at hk'; omega
        · exact h0
      have h1 : k / sz < es.length := (Nat.div_lt_iff_lt_mul hz).2 hk'
      have := hp (k / sz) h1 (k % sz) (Nat.mod_lt _ hz)
      rwa [Nat.mul_comm, Nat.div_add_mod] at this
    · have hj' : j < sz := by rw [← hs i hi]; exact hj
      have hlt : i * sz + j < es.length * sz := by
        have : (i + 1) * sz ≤ es.length * sz := Nat.mul_le_mul_right _ hi
        rw [Nat.add_mul] at this
        omega
      have e1 : (i * sz + j) / sz = i := by
        rw [Nat.add_comm, Nat.add_mul_div_right _ _ (by omega), Nat.div_eq_of_lt hj']; omega
      have e2 : (i * sz + j) % sz = j := by
        rw [Nat.add_comm, Nat.add_mul_mod_self_right, Nat.mod_eq_of_lt hj']
      have e3 : ((List.range (es.length * sz)).map (fun q => cells (q / sz) (q % sz))).getD (i * sz + j) undef = cells i j := by
        simp [List.getD, hlt, e1, e2]
      rw [e3]
      exact h i hi j hj
    · obtain ⟨hk1, hk2⟩ := List.getElem?_eq_some_iff.1 hk
      have hk' : k < es.length * sz := by simpa using hk1
      have hz : 0 < sz := by
        rcases Nat.eq_zero_or_pos sz with h0 | h0
        · rw [h0] at hk'; omega
        · exact h0
      have h1 : k / sz < es.length := (Nat.div_lt_iff_lt_mul hz).2 hk'
      have := hc (k / sz) h1 (k % sz) (Nat.mod_lt _ hz)
      rw [Nat.mul_comm, Nat.div_add_mod] at this
      rw [this]
      simp at hk2
      rw [hk2]

end Caw

namespace Caw
open Go Go.RowKit

section
variable {B : Base} {w : World} {E : Env} {st : St} {a : Act}

theorem cell_alloc {w : World} {vs : Array Value} {e : TypeId} {k : Nat} {v : Value} (h : vs[k]? = some v) : (w.alloc (.cells vs e)).cell? ⟨w.heap.size, k, none⟩ = some v := by
  rw [cell_of_row _ _ _ vs e (0, 0) (heap_alloc_new w _)]
  exact h

/-- A slice in a new block. -/
theorem Rel0.row_new (h : Rel0 B E st a w) {w1 : World} (hh : w1.heap = w.heap) (ho : w1.os = w.os) (ht : w1.tape = w.tape) (hu : w1.output = w.output) (nm : Nm)
    {es : List AV} {sz cap : Nat} {vs : Array Value} {e : TypeId} (hfl : ∀ i (hi : i < es.length), (flat es[i]).length = sz) (hcap : es.length ≤ cap) (hroom : cap * sz ≤ vs.size)
    (hrel : ∀ i (hi : i < es.length) j (hj : j < (flat es[i]).length), PV w E.pr (flat es[i])[j] (vs.getD (i * sz + j) undef)) :
    ∃ E', Rel0 B E' (bump st nm) a (w1.alloc (.cells vs e)) ∧ V E' (bump st nm) (w1.alloc (.cells vs e)) (.sl sz es (some (nm, st.G nm + 1))) (.slice (some ⟨w.heap.size, 0, none⟩) es.length cap) := by
  have hsz : w1.heap.size = w.heap.size := by rw [hh]
  have hf : Fr E.pr w (w1.alloc (.cells vs e)) := by
    have := fr_alloc E.pr w1 (.cells vs e)
    refine ⟨this.os.trans ho, this.tape.trans ht, this.output.trans hu, by rw [← hsz]; exact this.size, fun b k x hp hc => this.cell b k x hp ?_, fun b hb hall => ?_, fun b vs' e' m hv => this.rows b vs' e' m (by rw [hh]; exact hv)⟩
    · rw [← hc]; simp [World.cell?, hh]
    · rw [this.whole b (by rw [hsz]; exact hb) hall, hh]
  have hlen : es.length * sz ≤ vs.size := Nat.le_trans (Nat.mul_le_mul_right _ hcap) hroom
  have h1 := h.fresh (w' := w1.alloc (.cells vs e)) hf (fun b hb => by rw [Below.heap_alloc _ _ _ (by rw [hsz]; exact hb), hh])
    (pr' := fun b k => E.pr b k ∨ (b = w.heap.size ∧ k < es.length * sz)) (fun _ _ h => .inl h) (fun b k hp hq => by
      rcases hp with hp | ⟨rfl, _⟩
      · exact absurd hp hq
      · simp [hsz])
  have h2 := h1.tag nm (some (w.heap.size, es.length * sz)) (by
    rintro b e' he
    cases he
    refine ⟨by simp [hsz], .inr h.frame.size, fun k hk hp => ?_, fun m hm he => ?_, fun m e'' _ he => ?_⟩
    · rcases hp with hp | ⟨_, hp⟩
      · have := h.prlt _ _ hp; omega
      · omega
    · have := h.lt hm
      simp only at he
      omega
    · have := (h.tau m _ _ he).1; omega)
  refine ⟨_, h2, ?_⟩
  refine .sl (SlR.pv (vs := vs.toList.take (es.length * sz)) ⟨by simp; omega, hfl, fun k hk => ?_, fun i hi j hj => ?_, fun k v hk => ?_⟩ _ _ hcap) (fun n g hn => ?_)
  · have hk' : k < es.length * sz := by
      have := List.length_take_le (es.length * sz) vs.toList
      omega
    exact .inr ⟨rfl, by omega⟩
  · have hj' : j < sz := by rw [← hfl i hi]; exact hj
    have hlt : i * sz + j < es.length * sz := by
      have : (i + 1) * sz ≤ es.length * sz := Nat.mul_le_mul_right _ hi
      rw [Nat.add_mul] at this
      omega
    have e1 : (vs.toList.take (es.length * sz)).getD (i * sz + j) undef = vs.getD (i * sz + j) undef := by
      simp [List.getD, hlt, Array.getD_eq_getD_getElem?]
    rw [e1]
    exact (hrel i hi j hj).mono hf (fun _ _ h => .inl h)
  · obtain ⟨hk1, hk2⟩ := List.getElem?_eq_some_iff.1 hk
    have hv : vs[k]? = some v := by
      rw [List.getElem?_take] at hk
      split at hk
      · simpa using hk
      · cases hk
    have := cell_alloc (w := w1) (e := e) hv
    rw [hsz] at this
    simpa using this
  · simp only [Option.some.injEq, Prod.mk.injEq] at hn
    obtain ⟨rfl, rfl⟩ := hn
    refine ⟨by simp [bump, setF], fun _ => .inr ⟨w.heap.size, 0, vs, e, rfl, hcap, by simp [setF], ?_, by simpa using hroom⟩⟩
    rw [← hsz]
    exact heap_alloc_new w1 _

theorem getD_app (xs ys : List AV) (i : Nat) (hi : i < (xs ++ ys).length) : (∃ h : i < xs.length, (xs ++ ys)[i] = xs[i]) ∨ (∃ h : i - xs.length < ys.length, xs.length ≤ i ∧ (xs ++ ys)[i] = ys[i - xs.length]) := by
  by_cases h : i < xs.length
  · exact .inl ⟨h, List.getElem_append_left h⟩
  · refine .inr ⟨by simp at hi; omega, by omega, ?_⟩
    exact List.getElem_append_right (by omega)

/-- Two rows that lie behind each other. -/
theorem SlR.append {w : World} {pr : Pr} {sz : Nat} {es ys : List AV} {b off : Nat} {vs us : List Value} (h : SlR w pr sz es b off vs)
    (hfl : ∀ i (hi : i < ys.length), (flat ys[i]).length = sz) (hl : us.length = ys.length * sz) (hp : ∀ k, k < us.length → pr b (off + es.length * sz + k))
    (hrel : ∀ i (hi : i < ys.length) j (hj : j < (flat ys[i]).length), PV w pr (flat ys[i])[j] (us.getD (i * sz + j) undef))
    (hc : ∀ k v, us[k]? = some v → w.cell? ⟨b, off + es.length * sz + k, none⟩ = some v) : SlR w pr sz (es ++ ys) b off (vs ++ us) := by
  have e0 := h.len
  refine ⟨by simp [h.len, hl, Nat.add_mul], fun i hi => ?_, fun k hk => ?_, fun i hi j hj => ?_, fun k v hk => ?_⟩
  · rcases getD_app es ys i hi with ⟨h1, h2⟩ | ⟨h1, _, h2⟩
    · rw [h2]; exact h.fl i h1
    · rw [h2]; exact hfl _ h1
  · by_cases hk1 : k < vs.length
    · exact h.prot k hk1
    · have := hp (k - vs.length) (by simp at hk; omega)
      rw [show off + k = off + es.length * sz + (k - vs.length) by omega]
      exact this
  · rcases getD_app es ys i hi with ⟨h1, h2⟩ | ⟨h1, h3, h2⟩
    · have hj' : j < (flat es[i]).length := by rw [← h2]; exact hj
      have hjs : j < sz := by rw [← h.fl i h1]; exact hj'
      have hlt : i * sz + j < vs.length := by
        have : (i + 1) * sz ≤ es.length * sz := Nat.mul_le_mul_right _ h1
        rw [Nat.add_mul] at this
        omega
      have e1 : (vs ++ us).getD (i * sz + j) undef = vs.getD (i * sz + j) undef := by simp [List.getD, List.getElem?_append_left hlt]
      rw [e1]
      have := h.rel i h1 j hj'
      simpa [h2] using this
    · have hj' : j < (flat ys[i - es.length]).length := by rw [← h2]; exact hj
      have hge : vs.length ≤ i * sz + j := by
        have : es.length * sz ≤ i * sz := Nat.mul_le_mul_right _ h3
        omega
      have e1 : (vs ++ us).getD (i * sz + j) undef = us.getD ((i - es.length) * sz + j) undef := by
        have : i * sz + j - vs.length = (i - es.length) * sz + j := by
          rw [Nat.sub_mul, e0]
          have : es.length * sz ≤ i * sz := Nat.mul_le_mul_right _ h3
          omega
        simp [List.getD, List.getElem?_append_right hge, this]
      rw [e1]
      have := hrel _ h1 j hj'
      simpa [h2] using this
  · by_cases hk1 : k < vs.length
    · rw [List.getElem?_append_left hk1] at hk
      exact h.cell k v hk
    · rw [List.getElem?_append_right (by omega)] at hk
      have := hc _ _ hk
      rw [show off + k = off + es.length * sz + (k - vs.length) by omega]
      exact this

theorem SlR.turn {w w' : World} {pr pr' : Pr} {sz : Nat} {es : List AV} {b off : Nat} {vs : List Value} (h : SlR w pr sz es b off vs) (hf : Fr pr w w') (hp : ∀ b k, pr b k → pr' b k) : SlR w' pr' sz es b off vs :=
  ⟨h.len, h.fl, fun k hk => hp _ _ (h.prot k hk), fun i hi j hj => (h.rel i hi j hj).mono hf hp, fun k v hk => hf.cell _ _ _ (h.prot k (List.getElem?_eq_some_iff.1 hk).1) (h.cell k v hk)⟩

/-- A slice grows in its block. -/
theorem Rel0.row_grow (h : Rel0 B E st a w) (n nm : Nm) {es ys : List AV} {sz b off cap : Nat} {row : Array Value} {e : TypeId} {olds news : List Value}
    (hτ : E.τ n = some (b, off + es.length * sz)) (hrow : w.heap[b]? = some (.cells row e (0, 0))) (hcap : es.length + ys.length ≤ cap) (hroom : off + cap * sz ≤ row.size)
    (hold : SlR w E.pr sz es b off olds) (hfl : ∀ i (hi : i < ys.length), (flat ys[i]).length = sz) (hl : news.length = ys.length * sz)
    (hrel : ∀ i (hi : i < ys.length) j (hj : j < (flat ys[i]).length), PV w E.pr (flat ys[i])[j] (news.getD (i * sz + j) undef)) :
    ∃ E', Rel0 B E' (bump (bump st n) nm) a (w.setRow b (row.toList.take (off + es.length * sz) ++ news ++ row.toList.drop (off + es.length * sz + news.length)).toArray) ∧
      V E' (bump (bump st n) nm) (w.setRow b (row.toList.take (off + es.length * sz) ++ news ++ row.toList.drop (off + es.length * sz + news.length)).toArray)
        (.sl sz (es ++ ys) (some (nm, (bump st n).G nm + 1))) (.slice (some ⟨b, off, none⟩) (es.length + ys.length) cap) := by
  have hfit : off + es.length * sz + news.length ≤ row.size := by
    have : (es.length + ys.length) * sz ≤ cap * sz := Nat.mul_le_mul_right _ hcap
    rw [Nat.add_mul] at this
    omega
  generalize hE : off + es.length * sz = en at *
  obtain ⟨t1, t1', t2, t3⟩ := h.tau n _ _ hτ
  have hr1 : ∀ k, k < en → (row.toList.take en ++ news ++ row.toList.drop (en + news.length)).toArray[k]? = row[k]? := by
    intro k hk
    have : k < (row.toList.take en).length := by simp; omega
    rw [List.getElem?_toArray, List.append_assoc, List.getElem?_append_left this, List.getElem?_take, if_pos hk]
    simp
  have hr2 : ∀ k, k < news.length → (row.toList.take en ++ news ++ row.toList.drop (en + news.length)).toArray[en + k]? = news[k]? := by
    intro k hk
    have e1 : (row.toList.take en).length = en := by simp; omega
    rw [List.getElem?_toArray, List.append_assoc, List.getElem?_append_right (by omega), e1, Nat.add_sub_cancel_left, List.getElem?_append_left hk]
  have hrs : (row.toList.take en ++ news ++ row.toList.drop (en + news.length)).toArray.size = row.size := by simp; omega
  generalize hR : (row.toList.take en ++ news ++ row.toList.drop (en + news.length)).toArray = row' at *
  have hf : Fr E.pr w (w.setRow b row') := fr_row hrow hrs (fun k hk => hr1 k (by
    rcases Nat.lt_or_ge k en with h1 | h1
    · exact h1
    · exact absurd hk (t2 k h1))) ⟨en, t2 en (Nat.le_refl _)⟩
  have h1 := h.tag n none (fun b e he => by cases he)
  have hno : ∀ m e', setF E.τ n none m ≠ some (b, e') := by
    intro m e' hm
    simp only [setF] at hm
    split at hm
    · cases hm
    · rename_i hmn
      exact hmn (h.tdis m n b e' en hm hτ)
  have h2 := h1.turn (w' := w.setRow b row') hf (fun c hc => setRow_other w b _ row' (fun (he : c = b) => hc (by rw [he]; exact t1'))) (fun m hm => setRow_other w b _ row' (t3 m hm)) (pr' := fun c k => E.pr c k ∨ (c = b ∧ en ≤ k ∧ k < en + news.length)) (fun _ _ h => .inl h) (fun c k hp hq => by
    rcases hp with hp | ⟨rfl, h3, h4⟩
    · exact absurd hp hq
    · exact ⟨by simpa using t1, t1', t3, fun m e' hm => absurd hm (hno m e')⟩)
  have h3 := h2.tag nm (some (b, en + news.length)) (by
    rintro c e' he
    cases he
    refine ⟨by simpa using t1, t1', fun k hk hp => ?_, t3, fun m e'' _ => hno m e''⟩
    rcases hp with hp | ⟨_, _, hp⟩
    · exact t2 k (by omega) hp
    · omega)
  refine ⟨_, h3, ?_⟩
  have hn : SlR (w.setRow b row') (fun c k => E.pr c k ∨ (c = b ∧ en ≤ k ∧ k < en + news.length)) sz (es ++ ys) b off (olds ++ news) := by
    refine (hold.turn hf (fun _ _ h => .inl h)).append hfl hl (fun k hk => .inr ⟨rfl, by omega, by omega⟩) (fun i hi j hj => (hrel i hi j hj).mono hf (fun _ _ h => .inl h)) (fun k v hk => ?_)
    rw [hE, cell_of_row _ _ _ row' e (0, 0) (setRow_heap w b row row' e (0, 0) hrow)]
    rw [hr2 k (List.getElem?_eq_some_iff.1 hk).1]
    exact hk
  have hlen : es.length + ys.length = (es ++ ys).length := by simp
  rw [hlen]
  refine .sl (hn.pv _ _ (by simpa using hcap)) (fun m g hm => ?_)
  simp only [Option.some.injEq, Prod.mk.injEq] at hm
  obtain ⟨rfl, rfl⟩ := hm
  refine ⟨by simp [bump, setF], fun _ => .inr ⟨b, off, row', e, rfl, by rw [← hlen]; exact hcap, ?_, setRow_heap w b row row' e (0, 0) hrow, by omega⟩⟩
  have : en + news.length = off + (es ++ ys).length * sz := by simp [hl, Nat.add_mul]; omega
  simp [setF, this]
end
end Caw

namespace Caw
open Go Go.RowKit

section
variable {P : Program} {B : Base} {w : World} {E : Env} {st : St} {a : Act}

theorem appI_of {t : TypeId} {sz by_ : Nat} (h : appI P t = some (sz, by_)) : ∃ e i z, P.underlying t = some (.slice e) ∧ P.info? e = some i ∧ i.zero = some z ∧ z.cells.size = sz ∧ 0 < sz ∧ i.size = sz ∧ i.bytes = by_ := by
  unfold appI at h
  split at h
  case h_2 => cases h
  rename_i e he
  split at h
  case h_2 => cases h
  rename_i i hi
  split at h
  case h_2 => cases h
  rename_i z hz
  split at h
  case isFalse => cases h
  rename_i hc
  simp only [Option.some.injEq, Prod.mk.injEq] at h
  obtain ⟨rfl, rfl⟩ := h
  exact ⟨e, i, z, he, hi, hz, hc.1, hc.2, rfl, rfl⟩

/-- What is appended lies in a row of cells. -/
theorem src_of {x : AV} {vx : Value} {b : Option Nat} {ys : List AV} {sz : Nat} (hx : V E st w x vx) (he : srcT x = some (b, ys)) (hb : b.all (· == sz) = true) :
    (ys = [] ∧ ∃ ao c, vx = .slice ao 0 c) ∨ ∃ bl off c us, vx = .slice (some ⟨bl, off, none⟩) ys.length c ∧ SlR w E.pr sz ys bl off us := by
  unfold srcT at he
  split at he
  · simp only [Option.some.injEq, Prod.mk.injEq] at he
    obtain ⟨rfl, rfl⟩ := he
    rw [V_v hx]
    exact .inl ⟨rfl, _, _, rfl⟩
  · rename_i s2 es2 tg
    simp only [Option.some.injEq, Prod.mk.injEq] at he
    obtain ⟨rfl, rfl⟩ := he
    have e1 : s2 = sz := by simpa using hb
    subst e1
    cases hx with
    | sl h ht =>
      cases hh : h with
      | nil a cap => exact .inl ⟨rfl, _, _, rfl⟩
      | sl cells hle hs hp h2 hc =>
        obtain ⟨_, us, hu⟩ := SlR.of h
        exact .inr ⟨_, _, _, us, rfl, hu⟩
  · cases he

theorem flat_rel {w : World} {pr : Pr} {sz : Nat} {es : List AV} {b off : Nat} {vs : List Value} (h : SlR w pr sz es b off vs) (i : Nat) (hi : i < es.length) (j : Nat) (hj : j < (flat es[i]).length) : i * sz + j < vs.length := by
  have hjs : j < sz := by rw [← h.fl i hi]; exact hj
  have : (i + 1) * sz ≤ es.length * sz := Nat.mul_le_mul_right _ hi
  rw [Nat.add_mul] at this
  have := h.len
  omega

theorem Rel0.bumpO (h : Rel0 B E st a w) (n : Option Nm) : ∃ E1, Rel0 B E1 (bumpO st n) a w ∧ E1.pr = E.pr ∧ E1.ρ = E.ρ := by
  cases n with
  | none => exact ⟨E, h, rfl, rfl⟩
  | some m => exact ⟨_, h.tag m none (fun b e he => by cases he), rfl, rfl⟩

/-- A slice that is full is named anew. -/
theorem Rel0.full (h : Rel0 B E st a w) (nm : Nm) {sz len : Nat} {es : List AV} {tg : Tg} {bo : Option Addr} (hp : PV w E.pr (.sl sz es tg) (.slice bo len len)) :
    ∃ E', Rel0 B E' (bump st nm) a w ∧ V E' (bump st nm) w (.sl sz es (some (nm, st.G nm + 1))) (.slice bo len len) := by
  refine ⟨_, h.tag nm none (fun b e he => by cases he), .sl ?_ (fun n g hn => ?_)⟩
  · cases hp with
    | nil a cap => exact .nil _ _
    | sl cells hle hs hpr h2 hc => exact .sl cells hle hs hpr h2 hc
  · simp only [Option.some.injEq, Prod.mk.injEq] at hn
    obtain ⟨rfl, rfl⟩ := hn
    exact ⟨by simp [bump, setF], fun _ => .inl rfl⟩

theorem leaf_one {w : World} {pr : Pr} {c : AV} {u : Value} (h : PV w pr c u) (hc : leafOk c = true) : u.oneCell' = true := by
  cases h with
  | v x => exact hc
  | agg => cases hc
  | tup => cases hc
  | nil => rfl
  | sl => rfl

theorem SlR.one {w : World} {pr : Pr} {sz : Nat} {es : List AV} {b off : Nat} {vs : List Value} (h : SlR w pr sz es b off vs) (hl : (es.all fun y => (flat y).all leafOk) = true) : ∀ u ∈ vs, u.oneCell' = true := by
  intro u hu
  obtain ⟨k, hk, rfl⟩ := List.getElem_of_mem hu
  have hk' : k < es.length * sz := by rw [← h.len]; exact hk
  have hz : 0 < sz := by
    rcases Nat.eq_zero_or_pos sz with h0 | h0
    · rw [h0] at hk'; omega
    · exact h0
  have h1 : k / sz < es.length := (Nat.div_lt_iff_lt_mul hz).2 hk'
  have h2 : k % sz < (flat es[k / sz]).length := by rw [h.fl _ h1]; exact Nat.mod_lt _ hz
  have h3 := h.rel _ h1 _ h2
  have e : k / sz * sz + k % sz = k := by rw [Nat.mul_comm]; exact Nat.div_add_mod k sz
  rw [e] at h3
  have e2 : vs.getD k undef = vs[k] := by simp [List.getD, hk]
  rw [e2] at h3
  refine leaf_one h3 ?_
  have h4 := List.all_eq_true.1 hl _ (List.getElem_mem h1)
  exact List.all_eq_true.1 h4 _ (List.getElem_mem h2)

/-- 'append'. -/
theorem append_sound (h : Rel0 B E st a w) {d : Nat} {t ty : TypeId} {s x r : AV} {vs vx : Value} {st' : St} (hs : V E st w s vs) (hx : V E st w x vx)
    (he : eappend P st d t s x = some (r, st')) :
    ∃ v' w' E', (Builtin.append_ #[t, t] ty #[vs, vx]).run P w = .ok v' w' ∧ Rel0 B E' st' a w' ∧ V E' st' w' r v' := by
  unfold eappend at he
  split at he
  case h_2 => cases he
  rename_i sz by_ ao es n b ys hI hS hX
  split at he
  case isFalse => cases he
  rename_i hc
  simp only [Option.some.injEq, Prod.mk.injEq] at he
  obtain ⟨rfl, rfl⟩ := he
  simp only [Bool.and_eq_true, decide_eq_true_eq] at hc
  obtain ⟨⟨⟨ha, hb⟩, hbig⟩, hleaf⟩ := hc
  obtain ⟨e, i, z, hu, hi, hz, hzs, hsz, hisz, hiby⟩ := appI_of hI
  subst hisz hiby
  have hbig2 : (es.length + ys.length) * i.bytes ≤ 140737488355328 := by
    have : (es.length + ys.length) * i.bytes ≤ (es.length + ys.length) * (i.bytes + 1) := Nat.mul_le_mul_left _ (by omega)
    omega
  have hsmall : es.length + ys.length ≤ 1099511627776 := by
    have : (es.length + ys.length) * 1 ≤ (es.length + ys.length) * (i.bytes + 1) := Nat.mul_le_mul_left _ (by omega)
    omega
  -- the slice: its base, its elements
  have base : (vs = .slice none 0 0 ∧ es = [] ∧ n = none) ∨ ∃ (m : Nm) (bo : Option Addr) (cap : Nat), n = some m ∧ vs = .slice bo es.length cap ∧ es.length ≤ cap ∧
      ((es = [] ∧ cap = 0) ∨ ∃ bl off olds, bo = some ⟨bl, off, none⟩ ∧ SlR w E.pr i.size es bl off olds ∧ (es.length = cap ∨ ∃ row e', E.τ m = some (bl, off + es.length * i.size) ∧ w.heap[bl]? = some (.cells row e' (0, 0)) ∧ off + cap * i.size ≤ row.size)) := by
    unfold appT at hS
    split at hS
    · simp only [Option.some.injEq, Prod.mk.injEq] at hS
      obtain ⟨rfl, rfl, rfl⟩ := hS
      exact .inl ⟨V_v hs, rfl, rfl⟩
    · rename_i s2 es2 m g
      split at hS
      case isFalse => cases hS
      rename_i hg
      simp only [Option.some.injEq, Prod.mk.injEq] at hS
      obtain ⟨rfl, rfl, rfl⟩ := hS
      have e1 : s2 = i.size := by simpa using ha
      subst e1
      cases hs with
      | sl hpv ht =>
        have htag := (ht m g rfl).2 hg
        right
        cases hh : hpv with
        | nil bo cap =>
          rcases htag with h1 | ⟨bl, off, row, e', h1, h2, h3, h4, h5⟩
          · exact ⟨m, bo, cap, rfl, rfl, Nat.zero_le _, .inl ⟨rfl, h1.symm⟩⟩
          · subst h1
            obtain ⟨_, olds, ho⟩ := SlR.of hpv
            exact ⟨m, _, cap, rfl, rfl, Nat.zero_le _, .inr ⟨bl, off, olds, rfl, ho, .inr ⟨row, e', h3, h4, h5⟩⟩⟩
        | sl cells hle hsf hp h2 hcl =>
          obtain ⟨_, olds, ho⟩ := SlR.of hpv
          rcases htag with h1 | ⟨bl, off, row, e', h1, h2, h3, h4, h5⟩
          · exact ⟨m, _, _, rfl, rfl, by omega, .inr ⟨_, _, olds, rfl, ho, .inl h1⟩⟩
          · cases h1
            exact ⟨m, _, _, rfl, rfl, h2, .inr ⟨_, _, olds, rfl, ho, .inr ⟨row, e', h3, h4, h5⟩⟩⟩
    · cases hS
  obtain ⟨E1, h1, hpr1, -⟩ := h.bumpO n
  -- nothing is appended
  have zero : ys = [] → (∃ ao c, vx = .slice ao 0 c) → ∃ v' w' E', (Builtin.append_ #[t, t] ty #[vs, vx]).run P w = .ok v' w' ∧ Rel0 B E' (bump (Caw.bumpO st n) (nmOf d 0)) a w' ∧
      V E' (bump (Caw.bumpO st n) (nmOf d 0)) w' (.sl i.size (es ++ ys) (some (nmOf d 0, (Caw.bumpO st n).G (nmOf d 0) + 1))) v' := by
    rintro rfl ⟨ao, c, rfl⟩
    rw [List.append_nil]
    rcases base with ⟨rfl, rfl, rfl⟩ | ⟨m, bo, cap, rfl, rfl, hle, hb⟩
    · obtain ⟨E', h2, hv⟩ := h1.full (nmOf d 0) (sz := i.size) (es := []) (tg := none) (bo := none) (len := 0) (.nil none 0)
      exact ⟨_, _, E', run_app_zero w t ty e i hu hi none ao 0 0 c (Nat.le_refl _), h2, hv⟩
    · have hrun := run_app_zero (P := P) w t ty e i hu hi bo ao es.length cap c hle
      rcases hb with ⟨rfl, rfl⟩ | ⟨bl, off, olds, rfl, ho, hful | ⟨row, e', h3, h4, h5⟩⟩
      · obtain ⟨E', h2, hv⟩ := h1.full (nmOf d 0) (sz := i.size) (es := []) (tg := none) (bo := bo) (len := 0) (.nil bo 0)
        exact ⟨_, _, E', hrun, h2, hv⟩
      · subst hful
        obtain ⟨E', h2, hv⟩ := h1.full (nmOf d 0) (sz := i.size) (es := es) (tg := none) (bo := some ⟨bl, off, none⟩) (len := es.length) (by rw [hpr1]; exact ho.pv none es.length (Nat.le_refl _))
        exact ⟨_, _, E', hrun, h2, hv⟩
      · obtain ⟨E', h2, hv⟩ := h.row_grow m (nmOf d 0) (ys := []) (news := []) h3 h4 (by simpa using hle) h5 ho (fun i hi => absurd hi (by simp)) (by simp) (fun i hi => absurd hi (by simp))
        have hself : w.setRow bl (row.toList.take (off + es.length * i.size) ++ [] ++ row.toList.drop (off + es.length * i.size + ([] : List Value).length)).toArray = w := by
          simp only [List.append_nil, List.length_nil, Nat.add_zero, List.take_append_drop, Array.toArray_toList]
          exact setRow_self w bl row e' (0, 0) h4
        rw [hself] at h2 hv
        rw [List.append_nil] at hv
        exact ⟨_, _, E', hrun, h2, hv⟩
  rcases src_of hx hX hb with ⟨h2, h3⟩ | ⟨xb, xoff, xc, us, rfl, hus⟩
  · exact zero h2 h3
  rcases Nat.eq_zero_or_pos ys.length with h0 | hpos
  · have h0' : ys = [] := List.eq_nil_of_length_eq_zero h0
    exact zero h0' ⟨_, _, by rw [h0]⟩
  have hnews : ∀ j u, us[j]? = some u → w.cell? ((⟨xb, xoff, none⟩ : Addr).add j) = some u := fun j u hj => by rw [add_none]; exact hus.cell j u hj
  have hrelN : ∀ i' (hi' : i' < ys.length) j (hj : j < (flat ys[i']).length), PV w E.pr (flat ys[i'])[j] (us.getD (i' * i.size + j) undef) := hus.rel
  -- a new block
  have grow : ∀ (olds : List Value) (old : Nat), olds.length = es.length * i.size → (∀ k (hk : k < es.length), (flat es[k]).length = i.size) →
      (∀ k (hk : k < es.length) j (hj : j < (flat es[k]).length), PV w E.pr (flat es[k])[j] (olds.getD (k * i.size + j) undef)) →
      ∃ E', Rel0 B E' (bump (Caw.bumpO st n) (nmOf d 0)) a (w.drew.alloc (.cells (olds.toArray ++ us.toArray ++ Builtin.zeroCells z.cells (grownCap w (es.length + ys.length) old e - (es.length + ys.length))) e)) ∧
        V E' (bump (Caw.bumpO st n) (nmOf d 0)) (w.drew.alloc (.cells (olds.toArray ++ us.toArray ++ Builtin.zeroCells z.cells (grownCap w (es.length + ys.length) old e - (es.length + ys.length))) e))
          (.sl i.size (es ++ ys) (some (nmOf d 0, (Caw.bumpO st n).G (nmOf d 0) + 1))) (.slice (some ⟨w.heap.size, 0, none⟩) (es.length + ys.length) (grownCap w (es.length + ys.length) old e)) := by
    intro olds old hol hofl horel
    have hge := grownCap_ge w (es.length + ys.length) old e
    have hlen : es.length + ys.length = (es ++ ys).length := by simp
    rw [hlen] at hge ⊢
    refine h1.row_new (w1 := w.drew) rfl rfl rfl rfl (nmOf d 0) (es := es ++ ys) (fun k hk => ?_) hge ?_ (fun k hk j hj => ?_)
    · rcases getD_app es ys k hk with ⟨q1, q2⟩ | ⟨q1, _, q2⟩
      · rw [q2]; exact hofl k q1
      · rw [q2]; exact hus.fl _ q1
    · simp only [Array.size_append, List.size_toArray, hol, hus.len, size_zeroCells, hzs]
      rw [← Nat.add_mul, ← Nat.add_mul, hlen]
      exact Nat.mul_le_mul_right _ (by omega)
    · rw [hpr1]
      rcases getD_app es ys k hk with ⟨q1, q2⟩ | ⟨q1, q3, q2⟩
      · have hj' : j < (flat es[k]).length := by rw [← q2]; exact hj
        have hjs : j < i.size := by rw [← hofl k q1]; exact hj'
        have hlt : k * i.size + j < olds.length := by
          have : (k + 1) * i.size ≤ es.length * i.size := Nat.mul_le_mul_right _ q1
          rw [Nat.add_mul] at this
          omega
        have e1 : (olds.toArray ++ us.toArray ++ Builtin.zeroCells z.cells (grownCap w (es ++ ys).length old e - (es ++ ys).length)).getD (k * i.size + j) undef = olds.getD (k * i.size + j) undef := by
          simp only [Array.getD_eq_getD_getElem?]
          rw [Array.getElem?_append_left (by simp; omega), Array.getElem?_append_left (by simpa using hlt)]
          simp [List.getD]
        rw [e1]
        have := horel k q1 j hj'
        simpa [q2] using this
      · have hj' : j < (flat ys[k - es.length]).length := by rw [← q2]; exact hj
        have hlt := flat_rel hus _ q1 j hj'
        have hsub : k * i.size + j - olds.length = (k - es.length) * i.size + j := by
          rw [Nat.sub_mul, hol]
          have : es.length * i.size ≤ k * i.size := Nat.mul_le_mul_right _ q3
          omega
        have hge2 : olds.length ≤ k * i.size + j := by
          have : es.length * i.size ≤ k * i.size := Nat.mul_le_mul_right _ q3
          omega
        have e1 : (olds.toArray ++ us.toArray ++ Builtin.zeroCells z.cells (grownCap w (es ++ ys).length old e - (es ++ ys).length)).getD (k * i.size + j) undef = us.getD ((k - es.length) * i.size + j) undef := by
          simp only [Array.getD_eq_getD_getElem?]
          rw [Array.getElem?_append_left (by simp; omega), Array.getElem?_append_right (by simpa using hge2)]
          simp [List.getD, hsub]
        rw [e1]
        have := hrelN _ q1 j hj'
        simpa [q2] using this
  rcases base with ⟨rfl, rfl, rfl⟩ | ⟨m, bo, cap, rfl, rfl, hle, hb⟩
  · obtain ⟨E', h2, hv⟩ := grow [] 0 (by simp) (fun k hk => absurd hk (by simp)) (fun k hk => absurd hk (by simp))
    have hrun := run_append_nil (P := P) w t ty e i z hu hi hz ⟨xb, xoff, none⟩ ys.length xc us hus.len hnews hpos (by simp at hsmall; omega) (by simp at hbig2; omega)
    refine ⟨_, _, E', hrun, ?_, ?_⟩
    · simpa using h2
    · simpa using hv
  · have h63 : ((es.length + ys.length : Nat) : Int) ≤ 9223372036854775807 := by omega
    rcases hb with ⟨rfl, rfl⟩ | ⟨bl, off, olds, rfl, ho, hroom⟩
    · obtain ⟨E', h2, hv⟩ := grow [] 0 (by simp) (fun k hk => absurd hk (by simp)) (fun k hk => absurd hk (by simp))
      cases bo with
      | none =>
        have hrun := run_append_nil (P := P) w t ty e i z hu hi hz ⟨xb, xoff, none⟩ ys.length xc us hus.len hnews hpos (by simp at hsmall; omega) (by simp at hbig2; omega)
        refine ⟨_, _, E', hrun, ?_, ?_⟩
        · simpa using h2
        · simpa using hv
      | some ba =>
        have hrun := run_append_grow (P := P) w t ty e i z hu hi hz ba 0 0 [] (by simp) (fun j v hj => by simp at hj) ⟨xb, xoff, none⟩ ys.length xc us hus.len hnews (by omega) (by simpa using h63) (growslice_fits (by omega) (by simpa using hbig2))
        refine ⟨_, _, E', hrun, ?_, ?_⟩
        · simpa using h2
        · simpa using hv
    · by_cases hfit : es.length + ys.length ≤ cap
      · rcases hroom with hful | ⟨row, e', h3, h4, h5⟩
        · omega
        have hone := hus.one hleaf
        have hrun := run_app_room (P := P) w t ty e i hu hi bl off es.length cap row e' h4 ⟨xb, xoff, none⟩ ys.length xc us hus.len hnews hone hfit (by
          have : (es.length + ys.length) * i.size ≤ cap * i.size := Nat.mul_le_mul_right _ hfit
          rw [Nat.add_mul] at this
          have := hus.len
          omega)
        obtain ⟨E', h2, hv⟩ := h.row_grow m (nmOf d 0) h3 h4 hfit h5 ho hus.fl hus.len hrelN
        exact ⟨_, _, E', hrun, h2, hv⟩
      · have hrun := run_append_grow (P := P) w t ty e i z hu hi hz ⟨bl, off, none⟩ es.length cap olds ho.len (fun j v hj => by rw [add_none]; exact ho.cell j v hj) ⟨xb, xoff, none⟩ ys.length xc us hus.len hnews (by omega) h63 (growslice_fits (by omega) hbig2)
        obtain ⟨E', h2, hv⟩ := grow olds cap ho.len ho.fl ho.rel
        exact ⟨_, _, E', hrun, h2, hv⟩
end
end Caw

