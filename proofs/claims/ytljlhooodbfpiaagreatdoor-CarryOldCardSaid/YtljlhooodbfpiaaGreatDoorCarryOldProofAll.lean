/-
  Proved: the Go law CarryOld returns true for every input, and leaves its arguments as they were; the tables that its row lists are tied to the program's text (the given tie). Conditions: none beyond the row's own form.
  The frame of this text follows the kit's proof-skeleton.mjs.
-/
import Derived.Test.YtljlhooodbfpiaaGreatDoorK13
import Derived.Test.YtljlhooodbfpiaaGreatDoorK9
import Derived.Test.YtljlhooodbfpiaaGreatDoorK15
import Derived.Test.YtljlhooodbfpiaaGreatDoorTie
import Derived.Test.YtljlhooodbfpiaaGreatDoorCards
import Derived.WalkKit
import Derived.ProofKit
import Derived.OpenShut
import Derived.ShutString
import Derived.ChangeOld
import Derived.Below
import Derived.LaidMore
import Derived.Lay
import Derived.SevenTiedAt
import Derived.Stop.Joined
set_option linter.all false

namespace Go.Proofs.YtljlhooodbfpiaaGreatDoor.carryOld
open Go.ChangeShapes Go.WideShapes Go.ChangeAt Go.RowKit
set_option linter.unusedVariables false

theorem own : ownKnob Tryz.prog.godebug = none := by kernel_rfl
theorem laidOut : laidOutB Tryz.prog = true := by kernel_rfl

theorem walk (x0 : ByteArray) (x1 : Int) (x2 : Int) (W : World) (hTb : Caw.TabB Tryz.prog (Caw.base0 W 3)) (v0 v1 v2 : Value) (hQ : 0 ≤ x1 ∧ x1 < 4294967296 ∧ 0 ≤ x2 ∧ x2 < 4294967296)
    (h0 : Caw.PV W (Caw.pr0 W) (.v (.string x0)) v0) (h1 : Caw.PV W (Caw.pr0 W) (.v (.int .u32 x1)) v1) (h2 : Caw.PV W (Caw.pr0 W) (.v (.int .u32 x2)) v2) : Calls Tryz.prog 3 #[v0, v1, v2] W fun e W2 => e = .returned (.bool true) ∧ Below W.heap.size W W2 := by
  refine Caw.calls_of W hTb (at3 x0 x1 x2 hQ) rfl rfl (fun i hi st => ?_)
  have hi2 : i < 3 := hi
  match i, hi2 with
  | 0, _ => exact Caw.V_leaf h0 (.inl ⟨_, rfl⟩)
  | 1, _ => exact Caw.V_leaf h1 (.inl ⟨_, rfl⟩)
  | 2, _ => exact Caw.V_leaf h2 (.inl ⟨_, rfl⟩)

set_option maxRecDepth 100000 in
theorem lifted (os : Os) (started : os.Started) (H : Type) (enc : TypeId × Value → H) :
    ReturnsInHanded {} Tryz.checked os 3 .any (fun w args => (Rows.carryOldSpec.pre enc Tryz.prog Tryz.f3 Rows.carryOldRow.domain false w args ∧ laidMetH Tryz.prog Rows.carryOldRow.laid w) ∧ sizedMet enc Tryz.prog Tryz.f3 (OpenSpec.ofChange Rows.carryOldSpec) false w args)
      (Rows.carryOldSpec.post enc Tryz.prog Tryz.f3 false true false false) := by
  refine returnsInHanded_of_change_and (C := Tryz.checked) (X := fun w _ => laidMetH Tryz.prog Rows.carryOldRow.laid w) (fun _ _ _ hh h => h.of_heap hh) own started (by kernel_rfl) Tryz.func3
    (ChangeSpec.witness_shaped (enc := enc) (C := Tryz.checked) (os := os) (X := fun w _ => laidMetH Tryz.prog Rows.carryOldRow.laid w) false (World.laidAll Tryz.prog os Rows.carryOldRow.laid) #[.string ⟨#[]⟩, .int .u32 0, .int .u32 0] 8 (World.laidAll_os _ _ _)
      (World.shaped_of_ZipB (by kernel_rfl) (by kernel_rfl)) (by kernel_rfl) (by kernel_rfl) (by kernel_rfl)
      (by rw [MakeChecks.laidMetH_plain _ _ _ (by kernel_rfl)]; exact laidMet_laidAll _ (by kernel_rfl) (by kernel_rfl))) ?_
  intro W base args ds gs before hval0 hW hcnd _ hL _
  have hval : ∀ (j : Nat) t v, Tryz.f3.params[j]? = some t → args[j]? = some v → Value.okWide Tryz.prog W .any base t v := hval0
  have hW2 := hW
  obtain ⟨p, q, hA0, hV, rfl, hfz, hnd⟩ := hW
  have hA : DataW.TrodAll enc Tryz.prog W 0 (fun _ => true) true Tryz.f3.params.toList args.toList ds p := hA0
  rw [Tryz.params3] at hA hval
  obtain ⟨v0, vs0, d0, ds0, p0, q0, hargs, rfl, rfl, h0, r0⟩ := trodAll_cons hA
  obtain ⟨v1, vs1, d1, ds1, p1, q1, rfl, rfl, rfl, h1, r1⟩ := trodAll_cons r0
  obtain ⟨v2, vs2, d2, ds2, p2, q2, rfl, rfl, rfl, h2, r2⟩ := trodAll_cons r1
  obtain ⟨rfl, rfl, rfl⟩ := trodAll_nil r2
  obtain rfl : args = #[v0, v1, v2] := by cases args; simp_all
  obtain ⟨rfl, rfl⟩ := trodVars_none hV
  obtain ⟨z0, rfl⟩ := okWide_string Tryz.underlying9 (hval 0 9 v0 rfl rfl)
  obtain ⟨z1, rfl⟩ := okWide_int Tryz.underlying22 (hval 1 22 v1 rfl rfl)
  obtain ⟨z2, rfl⟩ := okWide_int Tryz.underlying22 (hval 2 22 v2 rfl rfl)
  have k0 := h0
  have k1 := h1
  have k2 := h2
  have lt0 : ∀ x ∈ p0, x.block < W.heap.size := by obtain ⟨m, hm⟩ := k0; exact DataW.trod_lt m _ _ _ hm
  have lt1 : ∀ x ∈ p1, x.block < W.heap.size := by obtain ⟨m, hm⟩ := k1; exact DataW.trod_lt m _ _ _ hm
  have lt2 : ∀ x ∈ p2, x.block < W.heap.size := by obtain ⟨m, hm⟩ := k2; exact DataW.trod_lt m _ _ _ hm
  obtain ⟨fuel0, g0⟩ := h0
  have hx0 : Caw.PV W (Caw.pr0 W) (.v (.string z0)) (.string z0) := .v _
  obtain ⟨fuel1, g1⟩ := h1
  have hb1 : 0 ≤ z1 ∧ z1 < 4294967296 := by
    obtain ⟨zz, hz, -, hb⟩ := DataW.trod_int (k := .u32) Tryz.underlying22 g1
    have hz2 : [Value.int .u32 z1] = [.int .u32 zz] := hz
    cases hz2
    exact Caw.bounds_u32 hb
  have hx1 : Caw.PV W (Caw.pr0 W) (.v (.int .u32 z1)) (.int .u32 z1) := .v _
  obtain ⟨fuel2, g2⟩ := h2
  have hb2 : 0 ≤ z2 ∧ z2 < 4294967296 := by
    obtain ⟨zz, hz, -, hb⟩ := DataW.trod_int (k := .u32) Tryz.underlying22 g2
    have hz2 : [Value.int .u32 z2] = [.int .u32 zz] := hz
    cases hz2
    exact Caw.bounds_u32 hb
  have hx2 : Caw.PV W (Caw.pr0 W) (.v (.int .u32 z2)) (.int .u32 z2) := .v _
  clear hA0 hval0
  have hLd : laidMet Tryz.prog Rows.carryOldRow.laid W := by rw [← MakeChecks.laidMetH_plain _ _ _ (by kernel_rfl)]; exact hL
  have hTb : Caw.TabB Tryz.prog (Caw.base0 W 3) := Caw.tabT_laid (g := 5) (t := 486) (e := 49) (by kernel_rfl) (by kernel_rfl) (by kernel_rfl) (by kernel_rfl) (by kernel_rfl) (by kernel_rfl) hLd
  refine (walk z0 z1 z2 W hTb _ _ _ ⟨hb1.1, hb1.2, hb2.1, hb2.2⟩ hx0 hx1 hx2).mono fun e W3 ⟨he, bel⟩ => ?_
  subst he
  exact ⟨_, rfl, _, _, _, [], _, [], hW2, trodAll_mk1 (shut_bool Tryz.underlying4 _), (trodAll_cons_mk (Below.trod laidOut (by kernel_rfl) (of_decide_eq_true (by kernel_rfl)) k0 bel lt0) (trodAll_cons_mk (Below.trod laidOut (by kernel_rfl) (of_decide_eq_true (by kernel_rfl)) k1 bel lt1) (trodAll_cons_mk (Below.trod laidOut (by kernel_rfl) (of_decide_eq_true (by kernel_rfl)) k2 bel lt2) trodAll_mk0))), rfl, bel.frame _, fun h => by cases h⟩

theorem over : Rows.CarryOldSaid :=
  OpenClaim.holds_of_wide 3 Tryz.f3 rfl rfl rfl rfl rfl rfl rfl ⟨rfl, rfl, rfl, rfl, rfl⟩ rfl rfl rfl rfl rfl (by kernel_rfl) Tryz.func3 jf3
    (of_decide_eq_true (by kernel_rfl)) (by unfold Func.isWrapper; first | (rw [if_pos (by decide +kernel)]; kernel_rfl) | (rw [if_neg (by decide +kernel)]; exact ⟨rfl, rfl⟩))
    (fun os started H enc _ => lifted os started H enc)

theorem proved : Rows.CarryOldCardSaid :=
  Claim7.holds_tied_plain_at .later [] [.data, .data, .data, .data, .sentinel, .sentinel, .pinned] true (true, "0484fab217d015d5ecc03058435042edd8628f8f26fba2f255341a2e9a22bba2") true
    over (fun _ h => by cases h) (by as_aux_lemma => kernel_rfl) (fun _ h => by cases h) carryOld_row_tie rfl ⟨rfl, rfl⟩ (by as_aux_lemma => kernel_rfl) rfl
    (fun f fn hf hfn => by
      obtain rfl : f = 3 := Option.some.inj ((show Tryz.prog.funcNamed "caravel/caravellaw24.CarryOld" = some 3 by kernel_rfl).symm.trans hf) |>.symm
      obtain rfl : fn = Tryz.f3 := (Option.some.inj (Tryz.func3.symm.trans hfn)).symm
      exact ⟨(by as_aux_lemma => kernel_rfl), fun j t ht => by
        rw [Tryz.params3] at ht
        have hm : t ∈ [9, 22, 22] := by simpa using Array.mem_of_getElem? ht
        have hall : ([9, 22, 22].all fun u => !Tryz.prog.wantsStandIn u) = true := by kernel_rfl
        exact (show Tryz.prog.wantsStandIn t = false by simpa using List.all_eq_true.1 hall t hm)⟩)
    (by as_aux_lemma => kernel_rfl)
#print axioms proved
end Go.Proofs.YtljlhooodbfpiaaGreatDoor.carryOld

