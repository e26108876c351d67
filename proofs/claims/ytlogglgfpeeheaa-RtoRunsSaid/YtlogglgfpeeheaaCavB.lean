import Derived.Test.YtlogglgfpeeheaaCavA
import Derived.Deep.MidRow
namespace Cav
open Go Go.RowKit

/-! ### What becomes of the relation -/
def setF {α : Type} (f : Nat → α) (d : Nat) (x : α) : Nat → α := fun i => if i = d then x else f i

theorem getD_set (xs : Array Value) (d i : Nat) (y : Value) (hd : d < xs.size) : (xs.setIfInBounds d y).getD i undef = if i = d then y else xs.getD i undef := by
  by_cases h : i = d
  · subst h; simp [Array.getD, hd]
  · simp only [h, if_false, Array.getD_eq_getD_getElem?]
    rw [Array.getElem?_setIfInBounds_ne (Ne.symm h)]

section
variable {fo : Nat → Prop} {w0 w w' : World} {N : Nat} {ρ : Nat → Nat} {st : St} {a : Act}

theorem Rel0.lt (h : Rel0 fo w0 N ρ st a w) {n : Nat} (hn : st.ob n ≠ none) : ρ n < w.heap.size := by
  cases hc : st.ob n with
  | none => exact absurd hc hn
  | some cs =>
    obtain ⟨vs, e, hh, _⟩ := h.ob n cs hc
    exact (Array.getElem?_eq_some_iff.1 hh).1

/-- The world grows; all that was there stays. -/
theorem Rel0.grow (h : Rel0 fo w0 N ρ st a w) (hb : Below w.heap.size w w') : Rel0 fo w0 N ρ st a w' := by
  have hk : Keeps (okB fo st.ob ρ) w w' := ⟨hb.size, fun b _ hlt => hb.block b hlt⟩
  refine ⟨fun i => (h.sl i).mono hk (fun _ x _ => x) (fun n hn => ⟨hn, rfl⟩), fun n cs hc => ?_, h.inj, h.base, ?_, h.defers, h.size, h.fo⟩
  · obtain ⟨vs, e, hh, hl, hv⟩ := h.ob n cs hc
    exact ⟨vs, e, by rw [hb.block _ (h.lt (by rw [hc]; simp))]; exact hh, hl, fun i hi => (hv i hi).mono hk (fun _ x _ => x) (fun n hn => ⟨hn, rfl⟩)⟩
  · exact h.below.trans (hb.mono h.below.size)

theorem below_drew' (w : World) : Below w.heap.size w { w with drawn := w.drawn + 1 } := ⟨rfl, rfl, rfl, Nat.le_refl _, fun _ _ => rfl⟩

/-- A slot is written. -/
theorem Rel0.put (h : Rel0 fo w0 N ρ st a w) {d : Nat} (hd : d < N) {x : AV} {y : Value} (hx : V st.ob ρ w (okB fo st.ob ρ) x y) :
    Rel0 fo w0 N ρ { st with sl := setF st.sl d x } (a.put (some d) y) w := by
  refine ⟨fun i => ?_, h.ob, h.inj, h.base, h.below, h.defers, by simp [Act.put, h.size], h.fo⟩
  simp only [Act.put, setF]
  rw [getD_set _ _ _ _ (by rw [h.size]; exact hd)]
  split
  · exact hx
  · exact h.sl i

/-- A new object. -/
theorem Rel0.alloc (h : Rel0 fo w0 N ρ st a w) {n : Nat} (hn : st.ob n = none) {cs : List AV} {vs : Array Value} (e : TypeId) (hl : cs.length = vs.size)
    (hv : ∀ i (hi : i < cs.length), V st.ob ρ w (okB fo st.ob ρ) cs[i] (vs.getD i undef)) :
    Rel0 fo w0 N (setF ρ n w.heap.size) { st with ob := setF st.ob n (some cs) } a (w.alloc (.cells vs e)) := by
  have hlt : ∀ m, st.ob m ≠ none → ρ m < w.heap.size := fun m hm => h.lt hm
  have hne : ∀ m, st.ob m ≠ none → m ≠ n := fun m hm e => hm (e ▸ hn)
  have hk : Keeps (okB fo st.ob ρ) w (w.alloc (.cells vs e)) := ⟨by simp, fun b _ hb => Below.heap_alloc _ _ _ hb⟩
  have ho : ∀ b, okB fo st.ob ρ b → b < w.heap.size → okB fo (setF st.ob n (some cs)) (setF ρ n w.heap.size) b := by
    intro b hb hb2
    refine ⟨hb.1, fun m hm => ?_⟩
    simp only [setF] at hm ⊢
    split
    · omega
    · rename_i hmn; simp only [hmn, if_false] at hm; exact hb.2 m hm
  have hr : ∀ m, st.ob m ≠ none → setF st.ob n (some cs) m ≠ none ∧ setF ρ n w.heap.size m = ρ m := by
    intro m hm
    have := hne m hm
    simp [setF, this, hm]
  refine ⟨fun i => (h.sl i).mono hk ho hr, fun m ds hm => ?_, fun m k hm hk' he => ?_, fun m hm => ?_, h.below.alloc h.below.size _, h.defers, h.size, h.fo⟩
  · simp only [setF] at hm
    by_cases hmn : m = n
    · subst hmn
      simp only [if_true, Option.some.injEq] at hm
      subst hm
      refine ⟨vs, e, ?_, hl, fun i hi => (hv i hi).mono hk ho hr⟩
      simp only [setF, if_true]
      exact heap_alloc_new w _
    · simp only [hmn, if_false] at hm
      obtain ⟨us, e', hh, hl', hv'⟩ := h.ob m ds hm
      refine ⟨us, e', ?_, hl', fun i hi => (hv' i hi).mono hk ho hr⟩
      simp only [setF, hmn, if_false]
      rw [Below.heap_alloc _ _ _ (hlt m (by rw [hm]; simp))]
      exact hh
  · simp only [setF] at hm hk' he
    by_cases h1 : m = n <;> by_cases h2 : k = n
    · omega
    · simp only [h1, h2, if_true, if_false] at he hk'
      have := hlt k hk'; omega
    · simp only [h1, h2, if_true, if_false] at he hm
      have := hlt m hm; omega
    · simp only [h1, h2, if_false] at he hm hk'
      exact h.inj m k hm hk' he
  · simp only [setF] at hm ⊢
    by_cases h1 : m = n
    · simp only [h1, if_true]; exact h.below.size
    · simp only [h1, if_false] at hm ⊢; exact h.base m hm

/-- An object is written. -/
theorem Rel0.store (h : Rel0 fo w0 N ρ st a w) {n : Nat} {old cs : List AV} (hn : st.ob n = some old) {vs us : Array Value} {e : TypeId} (hh : w.heap[ρ n]? = some (.cells us e (0, 0)))
    (hl : cs.length = vs.size) (hv : ∀ i (hi : i < cs.length), V st.ob ρ w (okB fo st.ob ρ) cs[i] (vs.getD i undef)) :
    Rel0 fo w0 N ρ { st with ob := setF st.ob n (some cs) } a (w.setRow (ρ n) vs) := by
  have hnn : st.ob n ≠ none := by rw [hn]; simp
  have hiff : ∀ m, setF st.ob n (some cs) m ≠ none ↔ st.ob m ≠ none := by
    intro m
    simp only [setF]
    by_cases hmn : m = n
    · simp [hmn, hn]
    · simp [hmn]
  have hk : Keeps (okB fo st.ob ρ) w (w.setRow (ρ n) vs) := ⟨by simp, fun b hb _ => setRow_other w _ _ _ (fun e => hb.2 n hnn e.symm)⟩
  have ho : ∀ b, okB fo st.ob ρ b → b < w.heap.size → okB fo (setF st.ob n (some cs)) ρ b := fun b hb _ => ⟨hb.1, fun m hm => hb.2 m ((hiff m).1 hm)⟩
  have hr : ∀ m, st.ob m ≠ none → setF st.ob n (some cs) m ≠ none ∧ ρ m = ρ m := fun m hm => ⟨(hiff m).2 hm, rfl⟩
  refine ⟨fun i => (h.sl i).mono hk ho hr, fun m ds hm => ?_, fun m k hm hk' he => h.inj m k ((hiff m).1 hm) ((hiff k).1 hk') he, fun m hm => h.base m ((hiff m).1 hm), ?_, h.defers, h.size, h.fo⟩
  · simp only [setF] at hm
    by_cases hmn : m = n
    · subst hmn
      simp only [if_true, Option.some.injEq] at hm
      subst hm
      exact ⟨vs, e, setRow_heap w _ us vs e (0, 0) hh, hl, fun i hi => (hv i hi).mono hk ho hr⟩
    · simp only [hmn, if_false] at hm
      obtain ⟨us', e', hh', hl', hv'⟩ := h.ob m ds hm
      refine ⟨us', e', ?_, hl', fun i hi => (hv' i hi).mono hk ho hr⟩
      rw [setRow_other w _ _ _ (fun he => hmn (h.inj m n (by rw [hm]; simp) hnn he))]
      exact hh'
  · exact h.below.trans ⟨rfl, rfl, rfl, by simp, fun k hk2 => setRow_other w _ _ _ (fun he => by have := h.base n hnn; omega)⟩

end

/-! ### Aggregates -/
def allV : List AV → Option (List Value)
  | [] => some []
  | .v x :: r => (allV r).map (x :: ·)
  | _ :: _ => none
def mkAgg (cs : List AV) : AV :=
  match allV cs with
  | some vs => .v (.agg vs.toArray)
  | none => .agg cs

theorem V_v {ob : Obs} {ρ : Nat → Nat} {w : World} {ok : Nat → Prop} {x y : Value} (h : V ob ρ w ok (.v x) y) : y = x := by
  cases h with
  | pure h => cases h; rfl

theorem allV_eq {ob : Obs} {ρ : Nat → Nat} {w : World} {ok : Nat → Prop} : ∀ {cs : List AV} {vs ys : List Value}, allV cs = some vs → cs.length = ys.length →
    (∀ i (hi : i < cs.length), V ob ρ w ok cs[i] (ys.getD i undef)) → vs = ys
  | [], vs, ys, h, hl, _ => by
    simp only [allV, Option.some.injEq] at h
    subst h
    cases ys with
    | nil => rfl
    | cons y r => simp at hl
  | c :: r, vs, ys, h, hl, hv => by
    cases ys with
    | nil => simp at hl
    | cons y q =>
      cases c <;> simp only [allV, Option.map_eq_some_iff] at h
      case v x =>
        obtain ⟨us, hu, rfl⟩ := h
        have h0 : y = x := V_v (hv 0 (Nat.zero_lt_succ _))
        subst h0
        rw [allV_eq hu (by simpa using hl) (fun i hi => hv (i + 1) (Nat.succ_lt_succ hi))]
      all_goals cases h

theorem V_mkAgg {ob : Obs} {ρ : Nat → Nat} {w : World} {ok : Nat → Prop} {cs : List AV} {vs : List Value} (hl : cs.length = vs.length)
    (hv : ∀ i (hi : i < cs.length), V ob ρ w ok cs[i] (vs.getD i undef)) : V ob ρ w ok (mkAgg cs) (.agg vs.toArray) := by
  unfold mkAgg
  cases h : allV cs with
  | none => exact .agg (by simpa using hl) (fun i hi => by simpa using hv i hi)
  | some us =>
    have := allV_eq h hl hv
    subst this
    exact .pure (.v _)

theorem V_one {ob : Obs} {ρ : Nat → Nat} {w : World} {ok : Nat → Prop} {x : AV} {y : Value} (h : V ob ρ w ok x y) (hx : flat x = [x]) (hy : y.cells = #[y]) :
    (flat x).length = y.cells.size ∧ ∀ i (hi : i < (flat x).length), V ob ρ w ok (flat x)[i] (y.cells.getD i undef) := by
  rw [hy]
  refine ⟨by simp [hx], fun i hi => ?_⟩
  have hi' : i = 0 := by rw [hx] at hi; simpa using hi
  subst hi'
  have e : (flat x)[0] = x := by simp [hx]
  rw [e]
  exact h

/-- The cells of a value, by its abstract value. -/
theorem V_flat {ob : Obs} {ρ : Nat → Nat} {w : World} {ok : Nat → Prop} {x : AV} {y : Value} (h : V ob ρ w ok x y) (hx : x ≠ .dead) :
    (flat x).length = y.cells.size ∧ ∀ i (hi : i < (flat x).length), V ob ρ w ok (flat x)[i] (y.cells.getD i undef) := by
  cases h with
  | dead => exact absurd rfl hx
  | pure h =>
    cases h with
    | v =>
      cases y with
      | agg cs =>
        refine ⟨by simp [flat, Value.cells], fun i hi => ?_⟩
        have hi' : i < cs.size := by simpa [flat] using hi
        have e : (flat (.v (.agg cs)))[i] = .v cs[i] := by simp [flat]
        rw [e]
        have e2 : (Value.agg cs).cells.getD i undef = cs[i] := by simp [Value.cells, hi']
        rw [e2]
        exact .pure (.v _)
      | _ => exact V_one (.pure (.v _)) rfl rfl
    | agg hl h => exact ⟨by simpa [flat, Value.cells] using hl, fun i hi => .pure (h i hi)⟩
    | tup hl h => exact V_one (.pure (.tup hl h)) rfl rfl
    | nil b cap => exact V_one (.pure (.nil b cap)) rfl rfl
    | sl cells hb hlt hs h hc => exact V_one (.pure (.sl cells hb hlt hs h hc)) rfl rfl
  | agg hl h => exact ⟨by simpa [flat, Value.cells] using hl, h⟩
  | tup hl h => exact V_one (.tup hl h) rfl rfl
  | ptr h => exact V_one (.ptr h) rfl rfl
  | rptr cells hb hlt h hc => exact V_one (.rptr cells hb hlt h hc) rfl rfl

end Cav
