import Derived.Test.YtkjodjaamjnejaaK10
import Derived.Test.YtkjodjaamjnejaaK11
set_option linter.all false
/-! What comes in, as its reading tells it: two numbers within their sizes. -/
set_option linter.unusedVariables false
namespace Caw
open Go Go.RowKit
def TwoOk (x : Two) : Prop := U32 x.a ∧ U32 x.b
section
variable {H : Type} {enc : TypeId × Value → H} {P : Program} {W : World} {base : Nat} {spare : Nat → Bool} {held : Bool}
theorem rd_twoR {t e : TypeId} (ht : P.underlying t = some (.array 2 e)) (he : P.underlying e = some (.int .u32)) (hce : P.cellsOf e = 1) (hct : P.cellsOf t = 2) {n : Nat} {cs : Array Value} {y : DataW H × List MemPlace}
    (h : DataW.trod enc P W base spare held n t cs.toList = some y) : ∃ x : Two, TwoOk x ∧ PV W (pr0 W) (.agg (twoCells x)) (.agg cs) := by
  obtain ⟨xs, m, _, _, hl, hxs, hf⟩ := DataW.trod_array ht h
  rw [hct] at hl
  obtain ⟨l⟩ := cs
  match l, hl with
  | [c0, c1], _ =>
    have g0 := hf 0 (by omega)
    have g1 := hf 1 (by omega)
    simp only [hce, Nat.zero_mul, Nat.one_mul, List.drop, List.take] at g0 g1
    match xs, hxs with
    | [y0, y1], _ =>
      obtain ⟨z0, hz0, _, b0⟩ := DataW.trod_int he (by simpa using g0)
      obtain ⟨z1, hz1, _, b1⟩ := DataW.trod_int he (by simpa using g1)
      simp only [List.cons.injEq, and_true] at hz0 hz1
      subst hz0 hz1
      refine ⟨⟨z0, z1⟩, ⟨?_, ?_⟩, .agg rfl fun i hi => ?_⟩
      · have := bounds_u32 b0; simp only [U32]; omega
      · have := bounds_u32 b1; simp only [U32]; omega
      have hi2 : i < 2 := hi
      match i, hi2 with
      | 0, _ => exact .v _
      | 1, _ => exact .v _
end
end Caw

