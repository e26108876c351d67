import Derived.WalkKit
namespace Cav
open Go Go.RowKit

/-! A computation that yields one value in every world, and leaves each. -/
open Classical in
noncomputable def pev (P : Program) {α : Type} (s : Sem α) : Option α := if h : ∃ v, ∀ w, s.run P w = .ok v w then some h.choose else none

theorem pev_run {P : Program} {α : Type} {s : Sem α} {a : α} (h : pev P s = some a) (w : World) : s.run P w = .ok a w := by
  unfold pev at h
  split at h
  · rename_i hh
    simp only [Option.some.injEq] at h
    rw [← h]
    exact hh.choose_spec w
  · cases h

theorem pev_eq {P : Program} {α : Type} {s : Sem α} {a : α} (h : ∀ w, s.run P w = .ok a w) : pev P s = some a := by
  have hh : ∃ v, ∀ w, s.run P w = .ok v w := ⟨a, h⟩
  unfold pev
  rw [dif_pos hh]
  have := hh.choose_spec default
  rw [h default] at this
  injection this with e _
  rw [← e]

/-- Abstract values: what a slot holds, without addresses. -/
inductive AV where
  | dead
  | v (x : Value)
  | agg (cs : List AV)
  | tup (xs : List AV)
  | sl (sz : Nat) (es : List AV)
  | ptr (n k : Nat)
  | rptr (x : AV) (k : Nat)

def flat : AV → List AV
  | .agg cs => cs
  | .v (.agg cs) => cs.toList.map .v
  | x => [x]

/-- A value that shares nothing with what is written, read in the world: 'ok' are the blocks that it may lead to. -/
inductive PV (w : World) (ok : Nat → Prop) : AV → Value → Prop where
  | v (x : Value) : PV w ok (.v x) x
  | agg {cs : List AV} {vs : Array Value} (hl : cs.length = vs.size) (h : ∀ i (hi : i < cs.length), PV w ok cs[i] (vs.getD i undef)) : PV w ok (.agg cs) (.agg vs)
  | tup {cs : List AV} {vs : Array Value} (hl : cs.length = vs.size) (h : ∀ i (hi : i < cs.length), PV w ok cs[i] (vs.getD i undef)) : PV w ok (.tup cs) (.tuple vs)
  | nil {sz : Nat} (a : Option Addr) (cap : Nat) : PV w ok (.sl sz []) (.slice a 0 cap)
  | sl {sz : Nat} {es : List AV} {b off cap : Nat} (cells : Nat → Nat → Value) (hb : ok b) (hlt : b < w.heap.size)
      (hs : ∀ i (hi : i < es.length), (flat es[i]).length = sz)
      (h : ∀ i (hi : i < es.length) j (hj : j < (flat es[i]).length), PV w ok (flat es[i])[j] (cells i j))
      (hc : ∀ i, i < es.length → ∀ j, j < sz → w.cell? ⟨b, off + (i * sz + j), none⟩ = some (cells i j)) :
      PV w ok (.sl sz es) (.slice (some ⟨b, off, none⟩) es.length cap)

/-- What a world keeps of the blocks that 'ok' names. -/
def Keeps (ok : Nat → Prop) (w w' : World) : Prop := w.heap.size ≤ w'.heap.size ∧ ∀ b, ok b → b < w.heap.size → w'.heap[b]? = w.heap[b]?

theorem Keeps.cell {ok : Nat → Prop} {w w' : World} (h : Keeps ok w w') {b o : Nat} {x : Value} (hb : ok b) (hc : w.cell? ⟨b, o, none⟩ = some x) : w'.cell? ⟨b, o, none⟩ = some x := by
  have hlt : b < w.heap.size := World.block_lt_of_cell? _ _ hc
  rw [← hc]
  exact World.cell?_of_block (w := w) (a := ⟨b, o, none⟩) (h.2 b hb hlt)

theorem PV.mono {w w' : World} {ok ok' : Nat → Prop} (hk : Keeps ok w w') (ho : ∀ b, ok b → b < w.heap.size → ok' b) {x : AV} {y : Value} (h : PV w ok x y) : PV w' ok' x y := by
  induction h with
  | v x => exact .v x
  | agg hl _ ih => exact .agg hl ih
  | tup hl _ ih => exact .tup hl ih
  | nil a cap => exact .nil a cap
  | sl cells hb hlt hs _ hc ih => exact .sl cells (ho _ hb hlt) (Nat.lt_of_lt_of_le hlt hk.1) hs ih (fun i hi j hj => hk.cell hb (hc i hi j hj))

/-- Local objects: the row of cells of a variable that lies in memory. -/
abbrev Obs := Nat → Option (List AV)

/-- Values with the local objects: 'ρ n' is the block of object n. -/
inductive V (ob : Obs) (ρ : Nat → Nat) (w : World) (ok : Nat → Prop) : AV → Value → Prop where
  | dead (y : Value) : V ob ρ w ok .dead y
  | pure {x : AV} {y : Value} (h : PV w ok x y) : V ob ρ w ok x y
  | agg {cs : List AV} {vs : Array Value} (hl : cs.length = vs.size) (h : ∀ i (hi : i < cs.length), V ob ρ w ok cs[i] (vs.getD i undef)) : V ob ρ w ok (.agg cs) (.agg vs)
  | tup {cs : List AV} {vs : Array Value} (hl : cs.length = vs.size) (h : ∀ i (hi : i < cs.length), V ob ρ w ok cs[i] (vs.getD i undef)) : V ob ρ w ok (.tup cs) (.tuple vs)
  | ptr {n k : Nat} (h : ob n ≠ none) : V ob ρ w ok (.ptr n k) (.pointer (some ⟨ρ n, k, none⟩))
  | rptr {x : AV} {k b off : Nat} (cells : Nat → Value) (hb : ok b) (hlt : b < w.heap.size)
      (h : ∀ j (hj : j < (flat x).length), PV w ok (flat x)[j] (cells j))
      (hc : ∀ j, j < (flat x).length → w.cell? ⟨b, off + j, none⟩ = some (cells j)) : V ob ρ w ok (.rptr x k) (.pointer (some ⟨b, off + k, none⟩))

theorem V.mono {ob ob' : Obs} {ρ ρ' : Nat → Nat} {w w' : World} {ok ok' : Nat → Prop} (hk : Keeps ok w w') (ho : ∀ b, ok b → b < w.heap.size → ok' b)
    (hob : ∀ n, ob n ≠ none → ob' n ≠ none ∧ ρ' n = ρ n) {x : AV} {y : Value} (h : V ob ρ w ok x y) : V ob' ρ' w' ok' x y := by
  induction h with
  | dead y => exact .dead y
  | pure h => exact .pure (h.mono hk ho)
  | agg hl _ ih => exact .agg hl ih
  | tup hl _ ih => exact .tup hl ih
  | ptr h => rw [← (hob _ h).2]; exact .ptr (hob _ h).1
  | rptr cells hb hlt h hc => exact .rptr cells (ho _ hb hlt) (Nat.lt_of_lt_of_le hlt hk.1) (fun j hj => (h j hj).mono hk ho) (fun j hj => hk.cell hb (hc j hj))

/-- The abstract state of a frame. -/
structure St where
  sl : Nat → AV
  ob : Obs

/-- Blocks that may be read, and that no local object has. -/
def okB (fo : Nat → Prop) (ob : Obs) (ρ : Nat → Nat) (b : Nat) : Prop := fo b ∧ ∀ n, ob n ≠ none → ρ n ≠ b

/-- A local object's row. -/
def Row (fo : Nat → Prop) (ob : Obs) (ρ : Nat → Nat) (w : World) (n : Nat) (cs : List AV) : Prop :=
  ∃ vs : Array Value, ∃ e : TypeId, w.heap[ρ n]? = some (.cells vs e (0, 0)) ∧ cs.length = vs.size ∧ ∀ i (hi : i < cs.length), V ob ρ w (okB fo ob ρ) cs[i] (vs.getD i undef)

/-- The frame a and the world w are as the abstract state says; the world has grown from w0 on by blocks alone. -/
structure Rel0 (fo : Nat → Prop) (w0 : World) (N : Nat) (ρ : Nat → Nat) (st : St) (a : Act) (w : World) : Prop where
  sl : ∀ i, V st.ob ρ w (okB fo st.ob ρ) (st.sl i) (a.tmps.getD i undef)
  ob : ∀ n cs, st.ob n = some cs → Row fo st.ob ρ w n cs
  inj : ∀ n m, st.ob n ≠ none → st.ob m ≠ none → ρ n = ρ m → n = m
  base : ∀ n, st.ob n ≠ none → w0.heap.size ≤ ρ n
  below : Below w0.heap.size w0 w
  defers : a.defers = []
  size : a.tmps.size = N
  fo : ∀ b, w0.heap.size ≤ b → fo b

def Rel (fo : Nat → Prop) (w0 : World) (N : Nat) (st : St) (a : Act) (w : World) : Prop := ∃ ρ, Rel0 fo w0 N ρ st a w

end Cav
