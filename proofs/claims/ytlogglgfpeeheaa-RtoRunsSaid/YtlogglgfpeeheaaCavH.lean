import Derived.Test.YtlogglgfpeeheaaCavG
namespace Cav
open Go Go.RowKit

/-! ### A step with its guard -/
/-- Is the operation wanted? -/
def gd (ops : Array Oper) (sl : Nat → AV) (o : Oper) : Option Bool :=
  match o.guard with
  | none => some true
  | some (j, want) => match (ops[j]?).bind (·.dst) with
    | none => some false
    | some d => match sl d with
      | .v (.bool t) => some (t == want)
      | .v (.tuple _) => some false
      | _ => none

def dstOk (N : Nat) (o : Oper) : Bool :=
  match o.dst with
  | some d => decide (d < N)
  | none => true

noncomputable def eff (P : Program) (Γ : Ctx) (ops : Array Oper) (st : St) (o : Oper) : Option (AV × Obs) :=
  match gd ops st.sl o with
  | some true => eop P Γ st o
  | some false => some (.v undef, st.ob)
  | none => none

noncomputable def estep (P : Program) (Γ : Ctx) (N : Nat) (ops : Array Oper) (st : St) (o : Oper) : Option St :=
  if dstOk N o then (match eff P Γ ops st o with
    | some r => some (putSt st o.dst r.1 r.2)
    | none => none) else none

noncomputable def erun (P : Program) (Γ : Ctx) (N : Nat) (ops : Array Oper) : List Nat → St → Option St
  | [], st => some st
  | i :: r, st => match ops[i]? with
    | some o => match estep P Γ N ops st o with
      | some st' => erun P Γ N ops r st'
      | none => none
    | none => erun P Γ N ops r st

section
variable {P : Program} {Γ : Ctx} {fo : Nat → Prop} {w0 w w' : World} {N : Nat} {ρ : Nat → Nat} {st : St} {a : Act} {ops : Array Oper}

theorem gd_wanted (h : Rel0 fo w0 N ρ st a w) {o : Oper} {b : Bool} (hg : gd ops st.sl o = some b) : Region.wanted o (yielded ops a.tmps) = b := by
  unfold gd at hg
  unfold Region.wanted
  cases hgd : o.guard with
  | none => rw [hgd] at hg; cases hg; rfl
  | some jw =>
    obtain ⟨j, want⟩ := jw
    rw [hgd] at hg
    simp only at hg ⊢
    unfold yielded
    cases hd : (ops[j]?).bind (·.dst) with
    | none => rw [hd] at hg; cases hg; rfl
    | some d =>
      rw [hd] at hg
      simp only at hg
      have hs := h.sl d
      simp only [Option.bind_some]
      split at hg
      · rename_i t hv
        rw [hv] at hs
        have e := V_v hs
        cases hg
        by_cases hlt : d < a.tmps.size
        · rw [Array.getD_eq_getD_getElem?, Array.getElem?_eq_getElem hlt] at e
          simp only [Option.getD_some] at e
          rw [Array.getElem?_eq_getElem hlt, e]
          cases t <;> cases want <;> rfl
        · rw [Array.getD_eq_getD_getElem?, Array.getElem?_eq_none (Nat.le_of_not_lt hlt)] at e
          cases e
      · rename_i xs hv
        rw [hv] at hs
        have e := V_v hs
        cases hg
        by_cases hlt : d < a.tmps.size
        · rw [Array.getD_eq_getD_getElem?, Array.getElem?_eq_getElem hlt] at e
          simp only [Option.getD_some] at e
          rw [Array.getElem?_eq_getElem hlt, e]
          rfl
        · rw [Array.getElem?_eq_none (Nat.le_of_not_lt hlt)]
          rfl
      · cases hg

/-- What the model does at the operation, guard and all. -/
def wpStep (P : Program) (ops : Array Oper) (o : Oper) (K : Act → World → Prop) (Q : Exit → Act → World → Prop) (a : Act) (w : World) : Prop :=
  if Region.wanted o (yielded ops a.tmps) then o.wp P a w K Q else K (a.put o.dst undef) w

theorem estep_sound (hΓ : GOk P Γ) (h : Rel fo w0 N st a w) {o : Oper} {st' : St} (he : estep P Γ N ops st o = some st') (Q : Exit → Act → World → Prop) :
    wpStep P ops o (fun a' w' => Rel fo w0 N st' a' w') Q a w := by
  obtain ⟨ρ, h⟩ := h
  unfold estep at he
  split at he
  case isFalse => cases he
  rename_i hok
  have hd : ∀ d, o.dst = some d → d < N := by
    intro d e
    unfold dstOk at hok
    rw [e] at hok
    simpa using hok
  split at he
  case h_2 => cases he
  rename_i r hx
  obtain ⟨x, ob'⟩ := r
  cases he
  unfold eff at hx
  unfold wpStep
  split at hx
  · rename_i hg
    rw [if_pos (gd_wanted h hg)]
    exact eop_sound hΓ h hx hd Q
  · rename_i hg
    rw [if_neg (by rw [gd_wanted h hg]; simp)]
    cases hx
    exact ⟨ρ, h.putSt hd (.pure (.v _))⟩
  · cases hx

/-- An abstract state that some frame and world meet. -/
def Good (N : Nat) (st : St) : Prop := ∃ fo w0 a w, Rel fo w0 N st a w

theorem wp_exists {o : Oper} {K : Act → World → Prop} (h : o.wp P a w K (fun _ _ _ => False)) : ∃ a' w', K a' w' := by
  unfold Oper.wp at h
  generalize (execOp a.eval o).run P w = r at h
  cases r with
  | ok n w' =>
    cases n <;> simp only [Oper.upon] at h
    case value v => exact ⟨_, _, h⟩
    case skip => exact ⟨_, _, h⟩
    case defer d => exact ⟨_, _, h⟩
    case enter f args =>
      obtain ⟨e, w2, fr, hR, _⟩ := h []
      cases e with
      | returned v => exact ⟨_, _, hR⟩
      | panicked c => exact hR.elim
      | outgrown => obtain ⟨_, _, hh⟩ := hR; exact hh.elim
    case row row args =>
      obtain ⟨v, w2, hR, _⟩ := h default []
      exact ⟨_, _, hR⟩
  | halt x w' => cases x <;> simp only [Oper.upon] at h

theorem Good.step (hΓ : GOk P Γ) (h : Good N st) {o : Oper} {st' : St} (he : estep P Γ N ops st o = some st') : Good N st' := by
  obtain ⟨fo, w0, a, w, hr⟩ := h
  have := estep_sound hΓ hr he (fun _ _ _ => False)
  unfold wpStep at this
  split at this
  · obtain ⟨a', w', hk⟩ := wp_exists this
    exact ⟨fo, w0, a', w', hk⟩
  · exact ⟨fo, w0, _, _, this⟩

theorem Good.ptr (h : Good N st) {t m k : Nat} (e : st.sl t = .ptr m k) : st.ob m ≠ none := by
  obtain ⟨fo, w0, a, w, ρ, hr⟩ := h
  have := hr.sl t
  rw [e] at this
  exact (V_ptr this).2

/-! ### Two operations that do not meddle -/
def memOk (x y : Op) : Bool := (cls x != 3 && cls y != 3) || cls x == 0 || cls y == 0
def indep (ops : Array Oper) (x y : Oper) : Bool := x.apart ops y && memOk x.op y.op

theorem eff_congr {st st' : St} {o : Oper} (h : ∀ t ∈ o.looksAt ops, st.sl t = st'.sl t) (hob : st.ob = st'.ob) : eff P Γ ops st o = eff P Γ ops st' o := by
  have hg : gd ops st.sl o = gd ops st'.sl o := by
    unfold gd
    cases hgd : o.guard with
    | none => rfl
    | some jw =>
      obtain ⟨j, want⟩ := jw
      simp only
      cases hd : (ops[j]?).bind (·.dst) with
      | none => rfl
      | some d =>
        simp only
        rw [h d (List.mem_append_right _ (by simp [hgd, hd]))]
  have ho : eop P Γ st o = eop P Γ st' o := eop_congr (fun x hx => by
    cases x with
    | tmp t => exact h t (List.mem_append_left _ (List.mem_filterMap.2 ⟨.tmp t, by simpa using hx, rfl⟩))
    | _ => rfl) hob
  unfold eff
  rw [hg, ho, hob]

theorem sl_put {dst : Option Nat} {x : AV} {ob : Obs} {t : Nat} (h : ∀ d, dst = some d → d ≠ t) : (putSt st dst x ob).sl t = st.sl t := by
  cases dst with
  | none => rfl
  | some d => simp [putSt, setF, Ne.symm (h d rfl)]

theorem putSt_comm {d e : Option Nat} (h : ∀ t, d = some t → e ≠ some t) (x y : AV) (ob1 ob2 ob3 : Obs) : putSt (putSt st d x ob1) e y ob2 = putSt (putSt st e y ob3) d x ob2 := by
  cases d with
  | none => cases e <;> rfl
  | some d => cases e with
    | none => rfl
    | some e =>
      have hne : e ≠ d := fun hh => h d rfl (by rw [hh])
      simp only [putSt, St.mk.injEq, and_true]
      funext i
      simp only [setF]
      by_cases h1 : i = d
      · have h2 : ¬ i = e := by omega
        rw [if_neg h2, if_pos h1, if_pos h1]
      · rw [if_neg h1, if_neg h1]

theorem setF_comm {ob : Obs} {d e : Nat} (h : d ≠ e) (x y : Option (List AV)) : setF (setF ob d x) e y = setF (setF ob e y) d x := by
  funext i
  simp only [setF]
  by_cases h1 : i = d
  · have h2 : ¬ i = e := by omega
    rw [if_neg h2, if_pos h1, if_pos h1]
  · rw [if_neg h1, if_neg h1]

/-- The effect's own class: what is not wanted touches no object. -/
theorem eff_cases {o : Oper} {x : AV} {ob1 : Obs} (h : eff P Γ ops st o = some (x, ob1)) :
    (gd ops st.sl o = some true ∧ eop P Γ st o = some (x, ob1)) ∨ (gd ops st.sl o = some false ∧ x = .v undef ∧ ob1 = st.ob) := by
  unfold eff at h
  split at h
  · exact .inl ⟨by assumption, h⟩
  · cases h; exact .inr ⟨by assumption, rfl, rfl⟩
  · cases h

theorem eff_of_true {o : Oper} (hg : gd ops st.sl o = some true) {r : AV × Obs} (h : eop P Γ st o = some r) : eff P Γ ops st o = some r := by
  unfold eff; rw [hg]; exact h
theorem eff_of_false {o : Oper} (hg : gd ops st.sl o = some false) : eff P Γ ops st o = some (.v undef, st.ob) := by
  unfold eff; rw [hg]

/-- An effect that leaves the objects, and does not hang on them. -/
theorem calm_of {sl : Nat → AV} {ob ob1 : Obs} {o : Oper} {x : AV} (h : eff P Γ ops ⟨sl, ob⟩ o = some (x, ob1)) (hc : cls o.op = 0 ∨ gd ops sl o = some false) : ob1 = ob ∧ ∀ ob', eff P Γ ops ⟨sl, ob'⟩ o = some (x, ob') := by
  rcases eff_cases h with ⟨hg, he⟩ | ⟨hg, rfl, rfl⟩
  · have hc0 : cls o.op = 0 := by
      rcases hc with hc | hc
      · exact hc
      · simp only at hg; rw [hc] at hg; cases hg
    obtain ⟨rfl, _⟩ := eop_zero (ob' := ob) hc0 he
    exact ⟨rfl, fun ob' => eff_of_true (st := ⟨sl, ob'⟩) hg (eop_zero (ob' := ob') hc0 he).2⟩
  · exact ⟨rfl, fun ob' => eff_of_false (st := ⟨sl, ob'⟩) hg⟩

end
end Cav
