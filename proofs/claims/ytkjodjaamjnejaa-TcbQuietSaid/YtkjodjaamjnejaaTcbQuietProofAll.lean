import Derived.Test.YtkjodjaamjnejaaP18
import Derived.Test.YtkjodjaamjnejaaK15
import Derived.Test.YtkjodjaamjnejaaK10
import Derived.Test.YtkjodjaamjnejaaK14
import Derived.Test.YtkjodjaamjnejaaRows
import Derived.WalkKit
import Derived.ProofKit
import Derived.OpenShut
import Derived.ShutString
import Derived.ChangeOld
import Derived.Below
set_option linter.all false
/-
  Proved: the Go law TcbQuiet returns true for every input, and leaves its arguments as they were. Conditions: none beyond the row's own form.
  The frame of this text follows the kit's proof-skeleton.mjs.
-/
namespace Go.Proofs.Ytkjodjaamjnejaa.tcbQuiet
open Go.ChangeShapes Go.WideShapes Go.ChangeAt Go.RowKit
set_option linter.unusedVariables false

theorem own : ownKnob Try.prog.godebug = none := by kernel_rfl
theorem laidOut : laidOutB Try.prog = true := by kernel_rfl

theorem walk (x0 : Caw.Two) (x1 : Caw.TwoB) (W : World) (v0 v1 : Value) (hR0 : Caw.TwoOk x0)
    (h0 : Caw.PV W (Caw.pr0 W) (.agg (Caw.twoCells x0)) v0) (h1 : Caw.PV W (Caw.pr0 W) (.agg (Caw.twoBCells x1)) v1) : Calls Try.prog 3 #[v0, v1] W fun e W2 => e = .returned (.bool true) ∧ Below W.heap.size W W2 := by
  refine Caw.calls_of W (at3 x0 x1 hR0) rfl rfl (fun i hi st => ?_)
  have hi2 : i < 2 := hi
  match i, hi2 with
  | 0, _ => exact Caw.V_agg0 h0 (fun x hx => .inl (by simp only [Caw.twoCells, List.mem_cons, List.not_mem_nil, or_false] at hx; rcases hx with rfl | rfl <;> exact ⟨_, rfl⟩))
  | 1, _ => exact Caw.V_agg0 h1 (fun x hx => by simp only [Caw.twoBCells, List.mem_cons, List.not_mem_nil, or_false] at hx; rcases hx with rfl | rfl <;> exact .inr ⟨_, _, rfl⟩)

set_option maxRecDepth 100000 in
theorem lifted (os : Os) (started : os.Started) (H : Type) (enc : TypeId × Value → H) :
    ReturnsInHanded {} Try.checked os 3 .any (Rows.tcbQuietSpec.pre6 enc Try.prog Try.f3 Rows.tcbQuietRow.domain false) (Rows.tcbQuietSpec.post enc Try.prog Try.f3 false true false false) := by
  refine returnsInHanded_of_change (C := Try.checked) own started (by kernel_rfl) Try.func3
    (ChangeSpec.witness6 (enc := enc) (C := Try.checked) false ⟨#[], #[.agg #[.int .u32 0, .int .u32 0], .agg #[.slice none 0 0, .slice none 0 0]], []⟩ 8 (by kernel_rfl) (by kernel_rfl) (by kernel_rfl) (by kernel_rfl)) ?_
  intro W base args ds gs before hval0 hW hcnd _
  have hval : ∀ (j : Nat) t v, Try.f3.params[j]? = some t → args[j]? = some v → Value.okWide Try.prog W .any base t v := hval0
  have hW2 := hW
  obtain ⟨p, q, hA0, hV, rfl, hfz, hnd⟩ := hW
  have hA : DataW.TrodAll enc Try.prog W 0 (fun _ => true) true Try.f3.params.toList args.toList ds p := hA0
  rw [Try.params3] at hA hval
  obtain ⟨v0, vs0, d0, ds0, p0, q0, hargs, rfl, rfl, h0, r0⟩ := trodAll_cons hA
  obtain ⟨v1, vs1, d1, ds1, p1, q1, rfl, rfl, rfl, h1, r1⟩ := trodAll_cons r0
  obtain ⟨rfl, rfl, rfl⟩ := trodAll_nil r1
  obtain rfl : args = #[v0, v1] := by cases args; simp_all
  obtain ⟨rfl, rfl⟩ := trodVars_none hV
  obtain ⟨cs0, rfl, hsz0⟩ := Caw.okWide_arr Try.underlying23 (hval 0 23 v0 rfl rfl)
  obtain ⟨cs1, rfl, hsz1⟩ := Caw.okWide_arr Try.underlying25 (hval 1 25 v1 rfl rfl)
  have k0 := h0
  have k1 := h1
  have lt0 : ∀ x ∈ p0, x.block < W.heap.size := by obtain ⟨m, hm⟩ := k0; exact DataW.trod_lt m _ _ _ hm
  have lt1 : ∀ x ∈ p1, x.block < W.heap.size := by obtain ⟨m, hm⟩ := k1; exact DataW.trod_lt m _ _ _ hm
  obtain ⟨fuel0, g0⟩ := h0
  obtain ⟨x0, hR0, hx0⟩ := Caw.rd_twoR Try.underlying23 Try.underlying22 (by kernel_rfl) (by kernel_rfl) g0
  obtain ⟨fuel1, g1⟩ := h1
  obtain ⟨x1, hx1⟩ := Caw.rd_twoB Try.underlying25 Try.underlying24 Try.underlying5 (by kernel_rfl) (by kernel_rfl) (by kernel_rfl) g1
  clear hA0 hval0
  refine (walk x0 x1 W _ _ hR0 hx0 hx1).mono fun e W3 ⟨he, bel⟩ => ?_
  subst he
  exact ⟨_, rfl, _, _, _, [], _, [], hW2, trodAll_mk1 (shut_bool Try.underlying4 _), (trodAll_cons_mk (Below.trod laidOut (by kernel_rfl) (of_decide_eq_true (by kernel_rfl)) k0 bel lt0) (trodAll_cons_mk (Below.trod laidOut (by kernel_rfl) (of_decide_eq_true (by kernel_rfl)) k1 bel lt1) trodAll_mk0)), rfl, bel.frame _, fun h => by cases h⟩

theorem over : Rows.tcbQuietRow.holds Try.pinned (OpenSpec.ofChange Rows.tcbQuietSpec) :=
  OpenClaim.holds_of_wide 3 Try.f3 rfl rfl rfl rfl rfl rfl rfl ⟨rfl, rfl, rfl, rfl, rfl⟩ rfl rfl rfl rfl rfl (by kernel_rfl) Try.func3 (by kernel_rfl)
    (of_decide_eq_true (by kernel_rfl)) (by unfold Func.isWrapper; first | (rw [if_pos (by decide +kernel)]; kernel_rfl) | (rw [if_neg (by decide +kernel)]; exact ⟨rfl, rfl⟩))
    (fun os started H enc _ => lifted os started H enc)

theorem proved : Rows.TcbQuietSaid := over
#print axioms proved
end Go.Proofs.Ytkjodjaamjnejaa.tcbQuiet

