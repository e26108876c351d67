/-
  Proved: the Go law SchedRight returns true for every input, and leaves its arguments as they were; the tables that its row lists are tied to the program's text (the given tie). Conditions: none beyond the row's own form.
  The frame of this text follows the kit's proof-skeleton.mjs.
-/
import Derived.Test.YtbhjimflcfnpaaaGreatDoorK13
import Derived.Test.YtbhjimflcfnpaaaGreatDoorK14
import Derived.Test.YtbhjimflcfnpaaaGreatDoorTie
import Derived.Test.YtbhjimflcfnpaaaGreatDoorCards
import Derived.WalkKit
import Derived.ProofKit
import Derived.OpenShut
import Derived.ShutString
import Derived.ChangeOld
import Derived.Below
import Derived.LaidMore
import Derived.Lay
import Derived.SevenTiedAt
import Derived.Stop.Joined
set_option linter.all false

namespace Go.Proofs.YtbhjimflcfnpaaaGreatDoor.schedRight
open Go.ChangeShapes Go.WideShapes Go.ChangeAt Go.RowKit Mo Sd
set_option linter.unusedVariables false

theorem own : ownKnob Tryz.prog.godebug = none := by kernel_rfl
theorem laidOut : laidOutB Tryz.prog = true := by kernel_rfl

set_option maxRecDepth 100000 in
theorem lifted (os : Os) (started : os.Started) (H : Type) (enc : TypeId × Value → H) :
    ReturnsInHanded {} Tryz.checked os 5 .any (fun w args => (Rows.schedRightSpec.pre enc Tryz.prog Tryz.f5 Rows.schedRightRow.domain false w args ∧ laidMetH Tryz.prog Rows.schedRightRow.laid w) ∧ sizedMet enc Tryz.prog Tryz.f5 (OpenSpec.ofChange Rows.schedRightSpec) false w args)
      (Rows.schedRightSpec.post enc Tryz.prog Tryz.f5 false true false false) := by
  refine returnsInHanded_of_change_and (C := Tryz.checked) (X := fun w _ => laidMetH Tryz.prog Rows.schedRightRow.laid w) (fun _ _ _ hh h => h.of_heap hh) own started (by kernel_rfl) Tryz.func5
    (ChangeSpec.witness_shaped (enc := enc) (C := Tryz.checked) (os := os) (X := fun w _ => laidMetH Tryz.prog Rows.schedRightRow.laid w) false (World.laidAll Tryz.prog os Rows.schedRightRow.laid) #[.agg #[.string ⟨#[]⟩, .int .i64 0, .int .i64 0, .int .i64 0, .slice none 0 0, .int .i64 0, .int .i64 0, .bool false, .slice none 0 0]] 8 (World.laidAll_os _ _ _)
      (World.shaped_of_ZipB (by kernel_rfl) (by kernel_rfl)) (by kernel_rfl) (by kernel_rfl) (by kernel_rfl)
      (by rw [MakeChecks.laidMetH_plain _ _ _ (by kernel_rfl)]; exact laidMet_laidAll _ (by kernel_rfl) (by kernel_rfl))) ?_
  intro W base args ds gs before hval0 hW hcnd _ hL _
  have hval : ∀ (j : Nat) t v, Tryz.f5.params[j]? = some t → args[j]? = some v → Value.okWide Tryz.prog W .any base t v := hval0
  have hW2 := hW
  obtain ⟨p, q, hA0, hV, rfl, hfz, hnd⟩ := hW
  have hA : DataW.TrodAll enc Tryz.prog W 0 (fun _ => true) true Tryz.f5.params.toList args.toList ds p := hA0
  rw [Tryz.params5] at hA hval
  obtain ⟨v0, vs0, d0, ds0, p0, q0, hargs, rfl, rfl, h0, r0⟩ := trodAll_cons hA
  obtain ⟨rfl, rfl, rfl⟩ := trodAll_nil r0
  obtain rfl : args = #[v0] := by cases args; simp_all
  obtain ⟨rfl, rfl⟩ := trodVars_none hV
  have ok0 := hval 0 35 v0 rfl rfl
  obtain ⟨cs0, rfl, hsz0⟩ := okWide_struct Tryz.underlying35 ok0
  have k0 := h0
  have lt0 : ∀ x ∈ p0, x.block < W.heap.size := by obtain ⟨m, hm⟩ := k0; exact DataW.trod_lt m _ _ _ hm
  obtain ⟨fuel0, g0⟩ := h0
  obtain ⟨x0, hx0⟩ := rd_th rfl ok0 g0
  clear hA0 hval0
  have hLd : laidMet Tryz.prog Rows.schedRightRow.laid W := by rw [← MakeChecks.laidMetH_plain _ _ _ (by kernel_rfl)]; exact hL
  refine (law5 hLd hx0).mono fun e W3 ⟨he, bel⟩ => ?_
  subst he
  exact ⟨_, rfl, _, _, _, [], _, [], hW2, trodAll_mk1 (shut_bool Tryz.underlying4 _), (trodAll_cons_mk (Below.trod laidOut (by kernel_rfl) (of_decide_eq_true (by kernel_rfl)) k0 bel lt0) trodAll_mk0), rfl, bel.frame _, fun h => by cases h⟩

theorem named : Tryz.pinned.checked.prog.funcNamed Rows.schedRightRow.func = some 5 := by kernel_rfl
theorem inst : (Tryz.f5).isInstance Tryz.prog Rows.schedRightRow.origin Rows.schedRightRow.targs := (of_decide_eq_true (by kernel_rfl))
theorem wrap : (Tryz.f5).isWrapper Tryz.prog Rows.schedRightRow.wrapper Rows.schedRightRow.mainSum := (by unfold Func.isWrapper; first | (rw [if_pos (by decide +kernel)]; kernel_rfl) | (rw [if_neg (by decide +kernel)]; exact ⟨rfl, rfl⟩))
theorem over : Rows.SchedRightSaid :=
  OpenClaim.holds_of_wide 5 Tryz.f5 rfl rfl rfl rfl rfl rfl rfl ⟨rfl, rfl, rfl, rfl, rfl⟩ rfl rfl rfl rfl rfl named Tryz.func5 jf5
    inst wrap
    (fun os started H enc _ => lifted os started H enc)
theorem still : (Tryz.pinned.checked.prog.funcs.any Func.goes) = false := by kernel_rfl
theorem goesBy_still {P : Program} {c : OpenClaim} (hs : c.start = .entering) (h : P.funcs.any Func.goes = false) : false = c.goesBy P := by
  have h0 : ∀ g, P.goes g = false := by
    intro g
    unfold Program.goes
    rw [h, Bool.and_false, Bool.or_false, List.any_eq_false]
    intro k _
    cases hk : P.funcs[k]? with
    | none => simp
    | some fn =>
      rw [Array.any_eq_false'] at h
      simpa using h fn (Array.mem_of_getElem? hk)
  unfold OpenClaim.goesBy Program.goesAt Program.goesFrom
  rw [hs]
  cases P.funcNamed c.func with
  | none => rfl
  | some g => simp [h0]
theorem goes : false = Rows.schedRightRow.goesBy Tryz.pinned.checked.prog := goesBy_still rfl still
theorem proved : Rows.SchedRightCardSaid :=
  Claim7.holds_tied_plain_at .later [] [.data, .data, .data, .data, .sentinel, .sentinel, .pinned, .pinned, .pinned, .pinned, .pinned, .pinned] true (true, "dda34d79712180ea3bc48905345507ad1562513cd6fd9382ec74165ffa23b5cf") true
    over (fun _ h => by cases h) (by as_aux_lemma => kernel_rfl) (fun _ h => by cases h) schedRight_row_tie rfl ⟨rfl, rfl⟩ (by as_aux_lemma => kernel_rfl) rfl
    (fun f fn hf hfn => by
      obtain rfl : f = 5 := Option.some.inj ((show Tryz.prog.funcNamed "caravel/caravellaw21.SchedRight" = some 5 by kernel_rfl).symm.trans hf) |>.symm
      obtain rfl : fn = Tryz.f5 := (Option.some.inj (Tryz.func5.symm.trans hfn)).symm
      exact ⟨(by as_aux_lemma => kernel_rfl), fun j t ht => by
        rw [Tryz.params5] at ht
        have hm : t ∈ [35] := by simpa using Array.mem_of_getElem? ht
        have hall : ([35].all fun u => !Tryz.prog.wantsStandIn u) = true := by kernel_rfl
        exact (show Tryz.prog.wantsStandIn t = false by simpa using List.all_eq_true.1 hall t hm)⟩)
    goes
#print axioms proved
end Go.Proofs.YtbhjimflcfnpaaaGreatDoor.schedRight

