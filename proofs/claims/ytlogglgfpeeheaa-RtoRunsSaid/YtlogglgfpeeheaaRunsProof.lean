/-
  Proved: the Go law RtoRuns of package caravellaw15 returns true for every input, and leaves its arguments as they were. Conditions: none beyond the row's own form.
  The frame of this text was written by the kit's proof-skeleton.mjs; the walk is in the texts W1 to W6 and A0 to A3.
-/
import Derived.Test.YtlogglgfpeeheaaA3
import Derived.WalkKit
import Derived.ProofKit
import Derived.OpenShut
import Derived.ShutString
import Derived.ChangeOld
import Derived.Below
namespace Go.Proofs.Ytlogglgfpeeheaa.rtoRuns
open Go.ChangeShapes Go.WideShapes Go.ChangeAt Go.RowKit
open Go.ChangeMaps (open_string shut_string)
set_option linter.unusedVariables false

theorem own : ownKnob Try.prog.godebug = none := by kernel_rfl
theorem laidOut : laidOutB Try.prog = true := by kernel_rfl


section
variable {H : Type} {enc : TypeId × Value → H} {P : Program} {w : World} {base : Nat} {spare : Nat → Bool} {held : Bool}
def boolOf (y : DataW H × List MemPlace) : Bool := match y.1 with
  | .lit (.bool b) => b
  | _ => false

/-- A slice of bools that came in, as its reading tells it. -/
theorem open_bools {t e : TypeId} {fuel : Nat} {cs : List Value} {x : DataW H × List MemPlace} (ht : P.underlying t = some (.slice e)) (he : P.underlying e = some .bool) (hc : P.cellsOf e = 1)
    (h : DataW.trod enc P w base spare held fuel t cs = some x) :
    (cs = [.slice none 0 0]) ∨ ∃ (a : Addr) (len cap : Nat) (bs : List Bool), cs = [.slice (some a) len cap] ∧ bs.length = len ∧ ∀ i, i < bs.length → w.cell? (a.add i) = some (.bool (bs.getD i false)) := by
  rcases DataW.trod_slice ht h with ⟨h0, _⟩ | ⟨a, len, cap, elems, rest, n, _, rfl, rfl, hb, hl, hm, hlen, hel, hsp, hns⟩
  · exact .inl h0
  refine .inr ⟨a, len, cap, elems.map boolOf, rfl, by simpa using hlen, fun i hi => ?_⟩
  simp only [List.length_map] at hi
  have hb' := hel i (by omega)
  rw [hc, Nat.mul_one, List.getElem?_eq_getElem hi, Option.bind_eq_some_iff] at hb'
  obtain ⟨cs', hcs, hy'⟩ := hb'
  obtain ⟨b, rfl, hx⟩ := DataW.trod_bool he hy'
  have e1 : (elems.map boolOf).getD i false = b := by simp [List.getD, hi, hx, boolOf]
  rw [e1]
  exact cell_of_cells?_one hcs

theorem first_of {l : List Cav.AV} {c : Cav.AV} (h : l = [c]) (hj : 0 < l.length) : l[0] = c := by
  subst h; rfl

theorem pv_row (w : World) (vs : List Value) (a : Addr) (cap : Nat) (h1 : ∀ v ∈ vs, Cav.flat (.v v) = [.v v]) (h : ∀ i (hi : i < vs.length), w.cell? (a.add i) = some vs[i]) :
    Cav.PV w (fun _ => True) (.sl 1 (vs.map .v)) (.slice (some a) vs.length cap) := by
  by_cases h0 : vs = []
  · subst h0; exact .nil _ _
  · have hp : 0 < vs.length := List.length_pos_iff.2 h0
    obtain ⟨b, off, spot⟩ := a
    have hspot : spot = none := by simpa [Addr.add] using World.cell?_spot (h 0 hp)
    subst hspot
    have e : (Cav.AV.sl 1 (vs.map .v)) = .sl 1 (vs.map .v) := rfl
    have hlen : vs.length = (vs.map Cav.AV.v).length := by simp
    rw [hlen]
    have hfl : ∀ i (hi : i < (vs.map Cav.AV.v).length), Cav.flat ((vs.map Cav.AV.v)[i]) = [.v (vs[i]'(by simpa using hi))] := by
      intro i hi
      rw [List.getElem_map]
      exact h1 _ (List.getElem_mem _)
    have hlt : b < w.heap.size := by
      have := h 0 hp
      unfold World.cell? at this
      by_cases hh : b < w.heap.size
      · exact hh
      · simp [Addr.add, hh] at this
    refine Cav.PV.sl (fun i _ => vs.getD i undef) trivial hlt (fun i hi => by rw [hfl i hi]; rfl) (fun i hi j hj => ?_) (fun i hi j hj => ?_)
    · have hi' : i < vs.length := by simpa using hi
      have hj' : j = 0 := by rw [hfl i hi] at hj; simpa using hj
      subst hj'
      have e2 : (Cav.flat ((vs.map Cav.AV.v)[i]))[0] = .v (vs[i]'hi') := first_of (hfl i hi) hj
      rw [e2]
      have e3 : vs.getD i undef = vs[i] := by simp [List.getD, hi']
      rw [e3]
      exact .v _
    · have hi' : i < vs.length := by simpa using hi
      have hj' : j = 0 := by omega
      subst hj'
      have e3 : vs.getD i undef = vs[i] := by simp [List.getD, hi']
      rw [e3, Nat.mul_one, Nat.add_zero, ← Go.WideShapes.add_plain]
      exact h i hi'
end

theorem walk (zs : List Int) (bs : List Bool) (w : World) (v0 v1 : Value) (hz : ∀ z ∈ zs, 0 ≤ z) (h0 : Cav.PV w (fun _ => True) (.sl 1 ((zs.map (Value.int .u64)).map .v)) v0)
    (h1 : Cav.PV w (fun _ => True) (.sl 1 ((bs.map Value.bool).map .v)) v1) :
    Calls Try.prog 5 #[v0, v1] w fun e w' => e = .returned (.bool true) ∧ Below w.heap.size w w' := by
  have h := spec5 (fun _ => True) w _ #[v0, v1] (.v (.bool true)) (by
    unfold f5
    rw [if_pos]
    exact ⟨zs, bs, by rw [List.map_map, List.map_map]; rfl, hz⟩) (.cons h0 (.cons h1 .nil))
  refine h.mono fun e w' ⟨y, he, hb, hy⟩ => ⟨?_, hb⟩
  rw [he, Cav.PV_v hy]

/-! ### THE ROW's STEP: WRITTEN OUT: LEAVE IT -/
set_option maxRecDepth 100000 in
theorem lifted (os : Os) (started : os.Started) (H : Type) (enc : TypeId × Value → H) :
    ReturnsInHanded {} Try.checked os 5 .any (Rows.rtoRunsSpec.pre6 enc Try.prog Try.f5 Rows.rtoRunsRow.domain false) (Rows.rtoRunsSpec.post enc Try.prog Try.f5 false true false false) := by
  refine returnsInHanded_of_change (C := Try.checked) own started (by kernel_rfl) Try.func5
    (ChangeSpec.witness6 (enc := enc) (C := Try.checked) false ⟨#[], #[.slice none 0 0, .slice none 0 0], []⟩ 8 (by kernel_rfl) (by kernel_rfl) (by kernel_rfl) (by kernel_rfl)) ?_
  intro W base args ds gs before hval0 hW hcnd _
  have hval : ∀ (j : Nat) t v, Try.f5.params[j]? = some t → args[j]? = some v → Value.okWide Try.prog W .any base t v := hval0
  have hW' := hW
  obtain ⟨p, q, hA0, hV, rfl, hfz, hnd⟩ := hW
  have hA : DataW.TrodAll enc Try.prog W 0 (fun _ => true) true Try.f5.params.toList args.toList ds p := hA0
  rw [Try.params5] at hA hval
  obtain ⟨v0, vs0, d0, ds0, p0, q0, hargs, rfl, rfl, h0, r0⟩ := trodAll_cons hA
  obtain ⟨v1, vs1, d1, ds1, p1, q1, rfl, rfl, rfl, h1, r1⟩ := trodAll_cons r0
  obtain ⟨rfl, rfl, rfl⟩ := trodAll_nil r1
  obtain rfl : args = #[v0, v1] := by cases args; simp_all
  obtain ⟨rfl, rfl⟩ := trodVars_none hV
  obtain ⟨a0, len0, cap0, rfl⟩ := okWide_slice Try.underlying22 (hval 0 22 v0 rfl rfl)
  obtain ⟨a1, len1, cap1, rfl⟩ := okWide_slice Try.underlying33 (hval 1 33 v1 rfl rfl)
  have k0 := h0
  have k1 := h1
  have lt0 : ∀ x ∈ p0, x.block < W.heap.size := by obtain ⟨m, hm⟩ := k0; exact DataW.trod_lt m _ _ _ hm
  have lt1 : ∀ x ∈ p1, x.block < W.heap.size := by obtain ⟨m, hm⟩ := k1; exact DataW.trod_lt m _ _ _ hm
  obtain ⟨zs, hz, hp0⟩ : ∃ zs : List Int, (∀ z ∈ zs, 0 ≤ z) ∧ Cav.PV W (fun _ => True) (.sl 1 ((zs.map (Value.int .u64)).map .v)) (.slice a0 len0 cap0) := by
    obtain ⟨fuel, hf⟩ := h0
    rcases open_ints Try.underlying22 Try.underlying27 (by kernel_rfl) hf with ⟨hcs, _⟩ | ⟨x, l, c, zs, hcs, _, hl, hm, hz, _, hcell, hwz⟩
    · simp [Value.cells] at hcs
      obtain ⟨rfl, rfl, rfl⟩ := hcs
      exact ⟨[], fun z h => (List.not_mem_nil h).elim, .nil _ _⟩
    · simp [Value.cells] at hcs
      obtain ⟨rfl, rfl, rfl⟩ := hcs
      have hz' : zs.length = cap0 := by simpa using hz
      refine ⟨zs.take len0, fun z hz => (bounds_u64 (hwz z (List.mem_of_mem_take hz))).1, ?_⟩
      have hlen : ((zs.take len0).map (Value.int .u64)).length = len0 := by simp; omega
      have := pv_row W ((zs.take len0).map (Value.int .u64)) x cap0 (fun v hv => by
        obtain ⟨z, _, rfl⟩ := List.mem_map.1 hv
        rfl) (fun i hi => by
        have hi' : i < len0 := by omega
        rw [hcell i (by omega)]
        have hzi : i < zs.length := by omega
        simp [hzi])
      rwa [hlen] at this
  obtain ⟨bs, hp1⟩ : ∃ bs : List Bool, Cav.PV W (fun _ => True) (.sl 1 ((bs.map Value.bool).map .v)) (.slice a1 len1 cap1) := by
    obtain ⟨fuel, hf⟩ := h1
    rcases open_bools Try.underlying33 Try.underlying4 (by kernel_rfl) hf with hcs | ⟨x, l, c, bs, hcs, hl, hcell⟩
    · simp [Value.cells] at hcs
      obtain ⟨rfl, rfl, rfl⟩ := hcs
      exact ⟨[], .nil _ _⟩
    · simp [Value.cells] at hcs
      obtain ⟨rfl, rfl, rfl⟩ := hcs
      subst hl
      have := pv_row W (bs.map Value.bool) x cap1 (fun v hv => by
        obtain ⟨z, _, rfl⟩ := List.mem_map.1 hv
        rfl) (fun i hi => by
        have hi' : i < bs.length := by simpa using hi
        rw [hcell i hi']
        simp [hi'])
      refine ⟨bs, ?_⟩
      rwa [List.length_map] at this
  clear hA0 hval0
  refine (walk zs bs W _ _ hz hp0 hp1).mono fun e W' ⟨he, bel⟩ => ?_
  subst he
  exact ⟨_, rfl, _, _, _, [], _, [], hW', trodAll_mk1 (shut_bool Try.underlying4 _), (trodAll_cons_mk (Below.trod laidOut (by kernel_rfl) (of_decide_eq_true (by kernel_rfl)) k0 bel lt0) (trodAll_cons_mk (Below.trod laidOut (by kernel_rfl) (of_decide_eq_true (by kernel_rfl)) k1 bel lt1) trodAll_mk0)), rfl, bel.frame _, fun h => by cases h⟩

theorem over : Rows.rtoRunsRow.holds Try.pinned (OpenSpec.ofChange Rows.rtoRunsSpec) :=
  OpenClaim.holds_of_wide 5 Try.f5 rfl rfl rfl rfl rfl rfl rfl ⟨rfl, rfl, rfl, rfl, rfl⟩ rfl rfl rfl rfl rfl (by kernel_rfl) Try.func5 (by kernel_rfl)
    (of_decide_eq_true (by kernel_rfl)) (by unfold Func.isWrapper; first | (rw [if_pos (by decide +kernel)]; kernel_rfl) | (rw [if_neg (by decide +kernel)]; exact ⟨rfl, rfl⟩))
    (fun os started H enc _ => lifted os started H enc)

/-- ████ THE STATEMENT ████ -/
theorem proved : Rows.RtoRunsSaid := over
#print axioms proved
end Go.Proofs.Ytlogglgfpeeheaa.rtoRuns
