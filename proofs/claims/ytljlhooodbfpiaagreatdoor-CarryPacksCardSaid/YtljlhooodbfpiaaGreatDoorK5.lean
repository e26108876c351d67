import Derived.Test.YtljlhooodbfpiaaGreatDoorK4
import Derived.Deep.LoopGhost
set_option linter.all false
namespace Caw
open Go Go.RowKit

/-! ### The same operation over other slots -/
section
variable {P : Program} {Γ : Ctx1} {C : Cfg} {sl sl' : Nat → AV} {ob : Obs} {G : Nm → Nat}

theorem map_re {f : Option AV} : f.map (·, (⟨sl', ob, G⟩ : St)) = (f.map (·, (⟨sl, ob, G⟩ : St))).map (reSl sl') := by
  cases f <;> rfl
theorem ebuildS_re {d t len xs} : ebuildS P ⟨sl', ob, G⟩ d t len xs = (ebuildS P ⟨sl, ob, G⟩ d t len xs).map (reSl sl') := by
  unfold ebuildS; (repeat' split) <;> rfl
theorem emakeR_re {d t n} : emakeR P ⟨sl', ob, G⟩ d t n = (emakeR P ⟨sl, ob, G⟩ d t n).map (reSl sl') := by
  unfold emakeR; simp only; (repeat' split) <;> rfl
theorem emake_re {d t n} : emake P ⟨sl', ob, G⟩ d t n = (emake P ⟨sl, ob, G⟩ d t n).map (reSl sl') := by
  unfold emake; simp only; (repeat' split) <;> rfl
theorem eslice_re {d t l hh m y} : eslice P ⟨sl', ob, G⟩ d t l hh m y = (eslice P ⟨sl, ob, G⟩ d t l hh m y).map (reSl sl') := by
  unfold eslice; (repeat' split) <;> rfl
theorem bumpO_re (n : Option Nm) : bumpO ⟨sl', ob, G⟩ n = ⟨sl', (bumpO ⟨sl, ob, G⟩ n).ob, (bumpO ⟨sl, ob, G⟩ n).G⟩ := by cases n <;> rfl
theorem eappend_re {d t s y} : eappend P ⟨sl', ob, G⟩ d t s y = (eappend P ⟨sl, ob, G⟩ d t s y).map (reSl sl') := by
  have e : appT ⟨sl', ob, G⟩ s = appT ⟨sl, ob, G⟩ s := by unfold appT; rfl
  unfold eappend
  rw [e]
  split
  · rename_i n _ _ _ _ _ _
    split
    · simp only [Option.map_some, reSl, Option.some.injEq, Prod.mk.injEq]
      rw [bumpO_re (sl := sl)]
      exact ⟨rfl, rfl⟩
    · rfl
  · rfl
theorem ecopy_re {t s y} : ecopy P ⟨sl', ob, G⟩ t s y = (ecopy P ⟨sl, ob, G⟩ t s y).map (reSl sl') := by
  unfold ecopy; simp only; (repeat' split) <;> rfl
theorem flagL_re (c : AV) : flagL ⟨sl', ob, G⟩ c = flagL ⟨sl, ob, G⟩ c := by
  unfold flagL; rfl
theorem tagsOf_re (cs : List AV) : tagsOf ⟨sl', ob, G⟩ cs = tagsOf ⟨sl, ob, G⟩ cs := by
  induction cs with
  | nil => rfl
  | cons c r ih => rw [tagsOf_cons, tagsOf_cons, ih]; rfl
theorem eargs_re (xs : List AV) : eargs ⟨sl', ob, G⟩ xs = eargs ⟨sl, ob, G⟩ xs := by
  have e : (flagL ⟨sl', ob, G⟩) = flagL ⟨sl, ob, G⟩ := funext flagL_re
  unfold eargs
  split
  · rename_i n k r
    simp only
    cases ob n with
    | none => rfl
    | some cs => simp only [tagsOf_re (sl := sl) (sl' := sl'), e]
  · rfl
theorem ecall_re {hv d f xs} : ecall Γ hv ⟨sl', ob, G⟩ d f xs = (ecall Γ hv ⟨sl, ob, G⟩ d f xs).map (reSl sl') := by
  have hb : ∀ n0 names r o, backSt ⟨sl', ob, G⟩ d n0 names r o = ⟨sl', (backSt ⟨sl, ob, G⟩ d n0 names r o).ob, (backSt ⟨sl, ob, G⟩ d n0 names r o).G⟩ := fun _ _ _ _ => rfl
  have ha : ∀ names r, backAV ⟨sl', ob, G⟩ d names r = backAV ⟨sl, ob, G⟩ d names r := fun _ _ => rfl
  unfold ecall
  rw [eargs_re (sl := sl)]
  split
  · split
    · split
      · simp only [Option.map_some, reSl, Option.some.injEq, Prod.mk.injEq]
        exact ⟨ha _ _, hb _ _ _ _⟩
      · rfl
    · rfl
  · rfl
theorem dflt_re {o : Oper} (hs : ∀ cs b, o.op ≠ .select cs b) (h : ∀ x ∈ o.op.operands, ev ⟨sl', ob, G⟩ x = ev ⟨sl, ob, G⟩ x) : dflt P ⟨sl', ob, G⟩ o = (dflt P ⟨sl, ob, G⟩ o).map (reSl sl') := by
  obtain ⟨h1, h2⟩ := dflt_congr (P := P) (sl := sl') (sl' := sl) (ob := ob) (ob' := ob) (G := G) (G' := G) hs h
  cases hd : dflt P ⟨sl, ob, G⟩ o with
  | none =>
    rw [hd] at h1
    cases hd' : dflt P ⟨sl', ob, G⟩ o with
    | none => rfl
    | some y => rw [hd'] at h1; cases h1
  | some y =>
    rw [hd] at h1
    cases hd' : dflt P ⟨sl', ob, G⟩ o with
    | none => rw [hd'] at h1; cases h1
    | some z =>
      rw [hd'] at h1
      obtain ⟨y1, y2⟩ := y
      obtain ⟨z1, z2⟩ := z
      simp only [Option.map_some, Option.some.injEq] at h1
      have e1 := dflt_sl hd
      have e2 := dflt_sl hd'
      subst e1 e2 h1
      rfl
theorem optI_re (x : Option Operand) (h : ∀ y, x = some y → ev ⟨sl', ob, G⟩ y = ev ⟨sl, ob, G⟩ y) : optI ⟨sl', ob, G⟩ x = optI ⟨sl, ob, G⟩ x := by
  cases x with
  | none => rfl
  | some y => simp only [optI]; rw [h y rfl]

/-- What an operation yields hangs on its operands, on the objects and the names. -/
theorem eop_re {o : Oper} (h : ∀ x ∈ o.op.operands, ev ⟨sl', ob, G⟩ x = ev ⟨sl, ob, G⟩ x) : eop P Γ C ⟨sl', ob, G⟩ o = (eop P Γ C ⟨sl, ob, G⟩ o).map (reSl sl') := by
  obtain ⟨dst, op, type, pos, after, guard⟩ := o
  simp only at h
  cases op
  case select cs b => simp only [eop]; rfl
  case move x => simp only [eop]; rw [h x (by simp [Op.operands])]; rfl
  case assign x => simp only [eop]; rw [h x (by simp [Op.operands])]; rfl
  case pick c x y =>
    simp only [eop]
    rw [h c (by simp [Op.operands]), h x (by simp [Op.operands]), h y (by simp [Op.operands])]
    split <;> rfl
  case alloc t => simp only [eop]; (repeat' split) <;> rfl
  case box t x =>
    simp only [eop]
    rw [h x (by simp [Op.operands])]
    (repeat' split) <;> rfl
  case build t ps =>
    simp only [eop]
    have e : (ps.toList.map fun p => (p.1, ev ⟨sl', ob, G⟩ p.2)) = (ps.toList.map fun p => (p.1, ev ⟨sl, ob, G⟩ p.2)) :=
      List.map_congr_left fun p hp => by rw [h p.2 (by simp only [Op.operands, List.mem_toArray, List.mem_map]; exact ⟨p, hp, rfl⟩)]
    rw [e]
    exact map_re
  case buildSlice t len ps =>
    simp only [eop]
    have e : (ps.toList.map fun p => (p.1, ev ⟨sl', ob, G⟩ p.2)) = (ps.toList.map fun p => (p.1, ev ⟨sl, ob, G⟩ p.2)) :=
      List.map_congr_left fun p hp => by rw [h p.2 (by simp only [Op.operands, List.mem_toArray, List.mem_map]; exact ⟨p, hp, rfl⟩)]
    rw [e]
    split
    · exact ebuildS_re
    · rfl
  case load t x =>
    simp only [eop]
    rw [h x (by simp [Op.operands])]
    have e : eload P ⟨sl', ob, G⟩ t (ev ⟨sl, ob, G⟩ x) = eload P ⟨sl, ob, G⟩ t (ev ⟨sl, ob, G⟩ x) := by
      generalize ev ⟨sl, ob, G⟩ x = y
      cases y <;> rfl
    have er : rootOk C ⟨sl', ob, G⟩ x = rootOk C ⟨sl, ob, G⟩ x := by unfold rootOk; rw [h x (by simp [Op.operands])]
    rw [e, er]
    split
    · exact map_re
    · rfl
  case store t x y =>
    have er : rootOk C ⟨sl', ob, G⟩ x = rootOk C ⟨sl, ob, G⟩ x := by unfold rootOk; rw [h x (by simp [Op.operands])]
    simp only [eop]
    rw [h x (by simp [Op.operands]), h y (by simp [Op.operands]), er]
    split
    · (repeat' split) <;> rfl
    · rfl
  case nilCheck x => simp only [eop]; rw [h x (by simp [Op.operands])]; exact map_re
  case makeSlice t x y =>
    simp only [eop]
    rw [h x (by simp [Op.operands]), h y (by simp [Op.operands])]
    split
    · split
      · exact emake_re
      · split
        · exact emakeR_re
        · rfl
    · rfl
  case slice t x lo hi mx =>
    simp only [eop]
    rw [h x (by simp [Op.operands]), optI_re (sl := sl) lo (fun y hy => h y (by simp [Op.operands, hy])), optI_re (sl := sl) hi (fun y hy => h y (by simp [Op.operands, hy])), optI_re (sl := sl) mx (fun y hy => h y (by simp [Op.operands, hy]))]
    split
    · exact eslice_re
    · rfl
  case fieldAddr s x f => simp only [eop]; rw [h x (by simp [Op.operands])]; exact map_re
  case extract x i => simp only [eop]; rw [h x (by simp [Op.operands])]; exact map_re
  case indexAddr t x i =>
    simp only [eop]
    rw [h x (by simp [Op.operands]), h i (by simp [Op.operands])]
    split
    · exact map_re
    · rfl
  case makeFunc fn first cs =>
    simp only [eop]
    have e : cs.toList.map (ev ⟨sl', ob, G⟩) = cs.toList.map (ev ⟨sl, ob, G⟩) := List.map_congr_left fun x hx => h x (by simp only [Op.operands]; exact Array.mem_append_right _ (by simpa using hx))
    rw [e]
    (repeat' split) <;> rfl
  case convert s d x =>
    simp only [eop]
    rw [h x (by simp [Op.operands])]
    split
    · rfl
    · exact dflt_re (by simp) h
  case binOp b t x y z =>
    simp only [eop]
    rw [h x (by simp [Op.operands]), h y (by simp [Op.operands])]
    split
    · rfl
    · exact dflt_re (by simp) h
  case call c =>
    obtain ⟨callee, args, argTypes⟩ := c
    have hargs : args.toList.map (ev ⟨sl', ob, G⟩) = args.toList.map (ev ⟨sl, ob, G⟩) := List.map_congr_left (fun x hx => h x (by simp only [Op.operands, Call.operands]; exact Array.mem_append_right _ (by simpa using hx)))
    cases callee with
    | value f =>
      simp only [eop]
      rw [h f (by simp [Op.operands, Call.operands]), hargs]
      split
      · exact ecall_re
      · rfl
    | builtin b =>
      simp only [eop]
      split
      · rename_i x y t t' hal htl
        have hx : ev ⟨sl', ob, G⟩ x = ev ⟨sl, ob, G⟩ x := h x (by simp only [Op.operands, Call.operands]; exact Array.mem_append_right _ (by rw [← Array.mem_toList_iff, hal]; simp))
        have hy : ev ⟨sl', ob, G⟩ y = ev ⟨sl, ob, G⟩ y := h y (by simp only [Op.operands, Call.operands]; exact Array.mem_append_right _ (by rw [← Array.mem_toList_iff, hal]; simp))
        rw [hx, hy]
        split
        · split
          · exact eappend_re
          · rfl
        · rfl
      · rename_i x y t t' hal htl
        have hx : ev ⟨sl', ob, G⟩ x = ev ⟨sl, ob, G⟩ x := h x (by simp only [Op.operands, Call.operands]; exact Array.mem_append_right _ (by rw [← Array.mem_toList_iff, hal]; simp))
        have hy : ev ⟨sl', ob, G⟩ y = ev ⟨sl, ob, G⟩ y := h y (by simp only [Op.operands, Call.operands]; exact Array.mem_append_right _ (by rw [← Array.mem_toList_iff, hal]; simp))
        rw [hx, hy]
        exact ecopy_re
      · rw [hargs]
        split
        · rfl
        · exact dflt_re (by simp) h
    | invoke r m => simp only [eop]; rfl
  all_goals
    simp only [eop]
    exact dflt_re (by simp) h
end

/-! ### A step with its guard -/
/-- Is the operation wanted? -/
def gd (ops : Array Oper) (sl : Nat → AV) (o : Oper) : Option Bool :=
  match o.guard with
  | none => some true
  | some (j, want) => match (ops[j]?).bind (·.dst) with
    | none => some false
    | some d => match sl d with
      | .v (.bool t) => some (t == want)
      | .v (.tuple _) => some false
      | _ => none

def dstOk (N : Nat) (o : Oper) : Bool :=
  match o.dst with
  | some d => decide (d < N)
  | none => true

noncomputable def eff (P : Program) (Γ : Ctx1) (C : Cfg) (ops : Array Oper) (st : St) (o : Oper) : Option (AV × St) :=
  match gd ops st.sl o with
  | some true => eop P Γ C st o
  | some false => some (.v undef, st)
  | none => none

noncomputable def estep (P : Program) (Γ : Ctx1) (C : Cfg) (N : Nat) (ops : Array Oper) (st : St) (o : Oper) : Option St :=
  if dstOk N o then (match eff P Γ C ops st o with
    | some r => some (putSt r.2 o.dst r.1)
    | none => none) else none

noncomputable def erun (P : Program) (Γ : Ctx1) (C : Cfg) (N : Nat) (ops : Array Oper) : List Nat → St → Option St
  | [], st => some st
  | i :: r, st => match ops[i]? with
    | some o => match estep P Γ C N ops st o with
      | some st' => erun P Γ C N ops r st'
      | none => none
    | none => erun P Γ C N ops r st

section
variable {P : Program} {Γ : Ctx1} {C : Cfg} {B : Base} {w w' : World} {E : Env} {st : St} {a : Act} {ops : Array Oper}

theorem gd_wanted (h : Rel0 B E st a w) {o : Oper} {b : Bool} (hg : gd ops st.sl o = some b) : Region.wanted o (yielded ops a.tmps) = b := by
  unfold gd at hg
  unfold Region.wanted
  cases hgd : o.guard with
  | none => rw [hgd] at hg; cases hg; rfl
  | some jw =>
    obtain ⟨j, want⟩ := jw
    rw [hgd] at hg
    simp only at hg ⊢
    unfold yielded
    cases hd : (ops[j]?).bind (·.dst) with
    | none => rw [hd] at hg; cases hg; rfl
    | some d =>
      rw [hd] at hg
      simp only at hg
      have hs := h.sl d
      simp only [Option.bind_some]
      split at hg
      · rename_i t hv
        rw [hv] at hs
        have e := V_v hs
        cases hg
        by_cases hlt : d < a.tmps.size
        · rw [Array.getD_eq_getD_getElem?, Array.getElem?_eq_getElem hlt] at e
          simp only [Option.getD_some] at e
          rw [Array.getElem?_eq_getElem hlt, e]
          cases t <;> cases want <;> rfl
        · rw [Array.getD_eq_getD_getElem?, Array.getElem?_eq_none (Nat.le_of_not_lt hlt)] at e
          cases e
      · rename_i xs hv
        rw [hv] at hs
        have e := V_v hs
        cases hg
        by_cases hlt : d < a.tmps.size
        · rw [Array.getD_eq_getD_getElem?, Array.getElem?_eq_getElem hlt] at e
          simp only [Option.getD_some] at e
          rw [Array.getElem?_eq_getElem hlt, e]
          rfl
        · rw [Array.getElem?_eq_none (Nat.le_of_not_lt hlt)]
          rfl
      · cases hg

/-- What the model does at the operation, guard and all. -/
def wpStep (P : Program) (ops : Array Oper) (o : Oper) (K : Act → World → Prop) (Q : Exit → Act → World → Prop) (a : Act) (w : World) : Prop :=
  if Region.wanted o (yielded ops a.tmps) then o.wp P a w K Q else K (a.put o.dst undef) w

theorem estep_sound (hΓ : GB P Γ B) (h : Rel B st a w) {o : Oper} {st' : St} (he : estep P Γ C B.N ops st o = some st') (Q : Exit → Act → World → Prop) :
    wpStep P ops o (fun a' w' => Rel B st' a' w') Q a w := by
  obtain ⟨E, h⟩ := h
  unfold estep at he
  split at he
  case isFalse => cases he
  rename_i hok
  have hd : ∀ d, o.dst = some d → d < B.N := by
    intro d e
    unfold dstOk at hok
    rw [e] at hok
    simpa using hok
  split at he
  case h_2 => cases he
  rename_i r hx
  obtain ⟨x, st1⟩ := r
  cases he
  unfold eff at hx
  unfold wpStep
  split at hx
  · rename_i hg
    rw [if_pos (gd_wanted h hg)]
    exact eop_sound hΓ h hx hd Q
  · rename_i hg
    rw [if_neg (by rw [gd_wanted h hg]; simp)]
    cases hx
    exact ⟨E, h.putSt hd (.v _)⟩
  · cases hx

/-- An abstract state that some frame and world meet. -/
def Good (P : Program) (N : Nat) (st : St) : Prop := ∃ B a w, B.N = N ∧ TabB P B ∧ Rel B st a w

theorem wp_exists {o : Oper} {K : Act → World → Prop} (h : o.wp P a w K (fun _ _ _ => False)) : ∃ a' w', K a' w' := by
  unfold Oper.wp at h
  generalize (execOp a.eval o).run P w = r at h
  cases r with
  | ok n w' =>
    cases n <;> simp only [Oper.upon] at h
    case value v => exact ⟨_, _, h⟩
    case skip => exact ⟨_, _, h⟩
    case defer d => exact ⟨_, _, h⟩
    case enter f args =>
      obtain ⟨e, w2, fr, hR, _⟩ := h []
      cases e with
      | returned v => exact ⟨_, _, hR⟩
      | panicked c => exact hR.elim
      | outgrown => obtain ⟨_, _, hh⟩ := hR; exact hh.elim
    case row row args =>
      obtain ⟨v, w2, hR, _⟩ := h default []
      exact ⟨_, _, hR⟩
  | halt x w' => cases x <;> simp only [Oper.upon] at h

theorem Good.step {N : Nat} (hΓ : GOk1 P Γ) (h : Good P N st) {o : Oper} {st' : St} (he : estep P Γ C N ops st o = some st') : Good P N st' := by
  obtain ⟨B, a, w, rfl, hT, hr⟩ := h
  have := estep_sound ⟨hΓ, hT⟩ hr he (fun _ _ _ => False)
  unfold wpStep at this
  split at this
  · obtain ⟨a', w', hk⟩ := wp_exists this
    exact ⟨B, a', w', rfl, hT, hk⟩
  · exact ⟨B, _, _, rfl, hT, this⟩

theorem Good.ptr {N : Nat} (h : Good P N st) {t : Nat} {m : Nm} {k : Nat} (e : st.sl t = .ptr m k) : st.ob m ≠ none := by
  obtain ⟨B, a, w, -, -, E, hr⟩ := h
  have := hr.sl t
  rw [e] at this
  exact (V_ptr this).2

/-! ### Two operations that do not meddle -/
/-- Loads and stores of objects that are told apart. -/
def apartN (C : Cfg) (x y : Operand) : Bool :=
  match rootOf C x, rootOf C y with
  | some n, some m => decide (n ≠ m)
  | _, _ => false
def apartOp (C : Cfg) : Op → Op → Bool
  | .store _ x _, .store _ y _ => apartN C x y
  | .store _ x _, .load _ y => apartN C x y
  | .load _ x, .store _ y _ => apartN C x y
  | _, _ => false
def memOk (C : Cfg) (x y : Op) : Bool := (cls C x != 3 && cls C y != 3) || cls C x == 0 || cls C y == 0 || apartOp C x y
def indep (C : Cfg) (ops : Array Oper) (x y : Oper) : Bool := x.apart ops y && memOk C x.op y.op

theorem eff_re {sl sl' : Nat → AV} {ob : Obs} {G : Nm → Nat} {o : Oper} (h : ∀ t ∈ o.looksAt ops, sl' t = sl t) : eff P Γ C ops ⟨sl', ob, G⟩ o = (eff P Γ C ops ⟨sl, ob, G⟩ o).map (reSl sl') := by
  have hg : gd ops sl' o = gd ops sl o := by
    unfold gd
    cases hgd : o.guard with
    | none => rfl
    | some jw =>
      obtain ⟨j, want⟩ := jw
      simp only
      cases hd : (ops[j]?).bind (·.dst) with
      | none => rfl
      | some d =>
        simp only
        rw [h d (List.mem_append_right _ (by simp [hgd, hd]))]
  have ho : eop P Γ C ⟨sl', ob, G⟩ o = (eop P Γ C ⟨sl, ob, G⟩ o).map (reSl sl') := eop_re (fun x hx => by
    cases x with
    | tmp t => exact h t (List.mem_append_left _ (List.mem_filterMap.2 ⟨.tmp t, by simpa using hx, rfl⟩))
    | _ => rfl)
  unfold eff
  simp only [hg, ho]
  split <;> rfl

theorem sl_put {s : St} {dst : Option Nat} {x : AV} {t : Nat} (h : ∀ d, dst = some d → d ≠ t) : (putSt s dst x).sl t = s.sl t := by
  cases dst with
  | none => rfl
  | some d => simp [putSt, setF, Ne.symm (h d rfl)]

theorem eff_sl {o : Oper} {x : AV} {r : St} (h : eff P Γ C ops st o = some (x, r)) : r.sl = st.sl := by
  unfold eff at h
  split at h
  · exact eop_sl h
  · cases h; rfl
  · cases h

/-- The effect's own class: what is not wanted touches nothing. -/
theorem eff_cases {o : Oper} {x : AV} {r : St} (h : eff P Γ C ops st o = some (x, r)) :
    (gd ops st.sl o = some true ∧ eop P Γ C st o = some (x, r)) ∨ (gd ops st.sl o = some false ∧ x = .v undef ∧ r = st) := by
  unfold eff at h
  split at h
  · exact .inl ⟨by assumption, h⟩
  · cases h; exact .inr ⟨by assumption, rfl, rfl⟩
  · cases h

theorem eff_of_true {o : Oper} (hg : gd ops st.sl o = some true) {r : AV × St} (h : eop P Γ C st o = some r) : eff P Γ C ops st o = some r := by
  unfold eff; rw [hg]; exact h
theorem eff_of_false {o : Oper} (hg : gd ops st.sl o = some false) : eff P Γ C ops st o = some (.v undef, st) := by
  unfold eff; rw [hg]

/-- An effect that leaves objects and names, and does not hang on them. -/
theorem calm_of {sl : Nat → AV} {ob : Obs} {G : Nm → Nat} {r : St} {o : Oper} {x : AV} (h : eff P Γ C ops ⟨sl, ob, G⟩ o = some (x, r)) (hc : cls C o.op = 0 ∨ gd ops sl o = some false) : r = ⟨sl, ob, G⟩ ∧ ∀ ob' G', eff P Γ C ops ⟨sl, ob', G'⟩ o = some (x, ⟨sl, ob', G'⟩) := by
  rcases eff_cases h with ⟨hg, he⟩ | ⟨hg, rfl, rfl⟩
  · have hc0 : cls C o.op = 0 := by
      rcases hc with hc | hc
      · exact hc
      · simp only at hg; rw [hc] at hg; cases hg
    obtain ⟨rfl, _⟩ := eop_zero (ob' := ob) (G' := G) hc0 he
    exact ⟨rfl, fun ob' G' => eff_of_true (st := ⟨sl, ob', G'⟩) hg (eop_zero (ob' := ob') (G' := G') hc0 he).2⟩
  · exact ⟨rfl, fun ob' G' => eff_of_false (st := ⟨sl, ob', G'⟩) hg⟩

theorem cls_le (o : Op) : cls C o = 0 ∨ cls C o = 1 ∨ cls C o = 2 ∨ cls C o = 3 := by
  cases o
  case call c =>
    simp only [cls]
    cases c.callee with
    | value f => simp only; split <;> omega
    | invoke => simp
    | builtin b => cases b <;> simp
  case slice => simp only [cls]; split <;> omega
  all_goals simp [cls]
theorem cls_load {o : Op} (h : cls C o = 1) : ∃ t y, o = .load t y := by
  cases o
  case call c =>
    simp only [cls] at h
    cases hc : c.callee with
    | value f => rw [hc] at h; simp only at h; split at h <;> cases h
    | invoke => rw [hc] at h; cases h
    | builtin b => rw [hc] at h; cases b <;> cases h
  case slice => simp only [cls] at h; split at h <;> cases h
  case load t y => exact ⟨t, y, rfl⟩
  all_goals cases h

/-- The two effects, one behind the other, in the other order. -/
theorem swap_core {sl : Nat → AV} {ob : Obs} {G : Nm → Nat} {rj ri : St} {oj oi : Oper} {xj xi : AV} (hgood : ∀ (t : Nat) (m : Nm) (k : Nat), sl t = .ptr m k → ob m ≠ none) (hd : ∀ t, oj.dst = some t → oi.dst ≠ some t) (hm : memOk C oj.op oi.op = true)
    (h1 : eff P Γ C ops ⟨sl, ob, G⟩ oj = some (xj, rj)) (h2 : eff P Γ C ops ⟨sl, rj.ob, rj.G⟩ oi = some (xi, ri)) :
    ∃ ri', eff P Γ C ops ⟨sl, ob, G⟩ oi = some (xi, ri') ∧ eff P Γ C ops ⟨sl, ri'.ob, ri'.G⟩ oj = some (xj, ri) := by
  have hptr : ∀ (y : Operand) (m : Nm) (k : Nat), ev ⟨sl, ob, G⟩ y = .ptr m k → ob m ≠ none := by
    intro y m k e
    cases y with
    | tmp t => exact hgood t m k e
    | const v => cases e
    | global g => cases e
    | func f => cases e
  by_cases ci : cls C oi.op = 0 ∨ gd ops sl oi = some false
  · obtain ⟨rfl, hall⟩ := calm_of h2 ci
    refine ⟨⟨sl, ob, G⟩, hall ob G, ?_⟩
    have : rj = ⟨sl, rj.ob, rj.G⟩ := by have := eff_sl h1; cases rj; simp only at this; rw [this]
    rw [h1, this]
  by_cases cj : cls C oj.op = 0 ∨ gd ops sl oj = some false
  · obtain ⟨rfl, hall⟩ := calm_of h1 cj
    refine ⟨ri, h2, ?_⟩
    have : ri = ⟨sl, ri.ob, ri.G⟩ := by have := eff_sl h2; cases ri; simp only at this; rw [this]
    rw [hall ri.ob ri.G, ← this]
  obtain ⟨ci0, ci1⟩ := not_or.1 ci
  obtain ⟨cj0, cj1⟩ := not_or.1 cj
  rcases eff_cases h1 with ⟨gj, ej⟩ | ⟨gj, _, _⟩
  case inr => exact absurd gj cj1
  rcases eff_cases h2 with ⟨gi, ei⟩ | ⟨gi, _, _⟩
  case inr => exact absurd gi ci1
  simp only at gj gi
  by_cases hap : apartOp C oj.op oi.op = true
  · have apN : ∀ {x y : Operand}, apartN C x y = true → ∃ n m, rootOf C x = some n ∧ rootOf C y = some m ∧ n ≠ m := by
      intro x y h
      unfold apartN at h
      split at h
      · rename_i n m h1 h2; exact ⟨n, m, h1, h2, by simpa using h⟩
      · cases h
    have done : ∀ {r : St}, r.sl = sl → r = ⟨sl, r.ob, r.G⟩ := fun {r} h => by cases r; simp only at h; rw [h]
    unfold apartOp at hap
    split at hap
    · rename_i _ x _ _ y _ hoj hoi
      obtain ⟨n, m, hn, hm', hne⟩ := apN hap
      obtain ⟨n1, k1, c1, p1, rfl, q1, a1⟩ := eop_store hoj ej
      obtain ⟨m1, k2, c2, p2, rfl, q2, a2⟩ := eop_store hoi ei
      have e1 := q1 n hn
      have e2 := q2 m hm'
      subst e1 e2
      refine ⟨_, eff_of_true (st := ⟨sl, ob, G⟩) gi (a2 ob G (by simp [setF, Ne.symm hne])), eff_of_true (st := ⟨sl, _, _⟩) gj ?_⟩
      have h5 := a1 (setF ob m1 (some c2)) G (by simp [setF, hne])
      simp only at h5 ⊢
      rw [h5]
      have : setF (setF ob m1 (some c2)) n1 (some c1) = setF (setF ob n1 (some c1)) m1 (some c2) := by
        funext z
        simp only [setF]
        by_cases z1 : z = n1
        · have z2 : z ≠ m1 := fun e => hne (z1.symm.trans e)
          simp [z1, hne]
        · simp [z1]
      rw [this]
    · rename_i _ x _ _ y hoj hoi
      obtain ⟨n, m, hn, hm', hne⟩ := apN hap
      obtain ⟨n1, k1, c1, p1, rfl, q1, a1⟩ := eop_store hoj ej
      have e1 := q1 n hn
      subst e1
      have p2 := eop_load_root hoi ei hm'
      obtain ⟨rfl, h5⟩ := eop_load (ob' := ob) (G' := G) hoi ei (fun m' k' e => by
        have e1 := p2 m' k' e
        subst e1
        simp [setF, Ne.symm hne])
      exact ⟨⟨sl, ob, G⟩, eff_of_true (st := ⟨sl, ob, G⟩) gi h5, eff_of_true (st := ⟨sl, ob, G⟩) gj ej⟩
    · rename_i _ x _ y _ hoj hoi
      obtain ⟨n, m, hn, hm', hne⟩ := apN hap
      obtain ⟨rfl, -⟩ := eop_load (ob' := ob) (G' := G) hoj ej (fun _ _ _ => rfl)
      obtain ⟨m1, k2, c2, p2, rfl, q2, a2⟩ := eop_store hoi ei
      have e2 := q2 m hm'
      subst e2
      have p1 := eop_load_root hoj ej hn
      refine ⟨_, eff_of_true (st := ⟨sl, ob, G⟩) gi ei, eff_of_true (st := ⟨sl, _, _⟩) gj ?_⟩
      exact (eop_load (ob' := setF ob m1 (some c2)) (G' := G) hoj ej (fun m' k' e => by
        have e1 := p1 m' k' e
        subst e1
        simp [setF, hne])).2
    · cases hap
  have c3 : cls C oj.op ≠ 3 ∧ cls C oi.op ≠ 3 := by
    simp only [memOk, Bool.or_eq_true, Bool.and_eq_true, bne_iff_ne, beq_iff_eq] at hm
    rcases hm with ((h | h) | h) | h
    · exact h
    · exact absurd (.inl h) cj
    · exact absurd (.inl h) ci
    · exact absurd h hap
  rcases cls_le (C := C) oj.op with h | hj | hj | h
  · exact absurd h cj0
  · obtain ⟨tj, yj, hoj⟩ := cls_load hj
    obtain ⟨rfl, -⟩ := eop_load (ob' := ob) (G' := G) hoj ej (fun _ _ _ => rfl)
    rcases cls_le (C := C) oi.op with h | hi | hi | h
    · exact absurd h ci0
    · obtain ⟨ti, yi, hoi⟩ := cls_load hi
      obtain ⟨rfl, -⟩ := eop_load (ob' := ob) (G' := G) hoi ei (fun _ _ _ => rfl)
      exact ⟨_, h2, h1⟩
    · obtain ⟨d, hdst, hloc, hall⟩ := eop_new hi ei
      have hsl := eop_sl ei
      refine ⟨ri, h2, eff_of_true (st := ⟨sl, _, _⟩) gj ?_⟩
      have := (eop_load (ob' := ri.ob) (G' := ri.G) hoj ej (fun m k e => hloc.lold m (hptr yj m k e))).2
      rw [this]
      have e2 : ri = ⟨sl, ri.ob, ri.G⟩ := by cases ri; simp only at hsl; rw [hsl]
      rw [← e2]
    · exact absurd h c3.2
  · obtain ⟨d, hdst, hloc, hall⟩ := eop_new hj ej
    have hslj := eop_sl ej
    rcases cls_le (C := C) oi.op with h | hi | hi | h
    · exact absurd h ci0
    · obtain ⟨ti, yi, hoi⟩ := cls_load hi
      have key := eop_load (ob' := ob) (G' := G) hoi ei (fun m k e => by
        have hp : ob m ≠ none := hptr yi m k (by rw [← e]; exact evs yi)
        exact (hloc.lold m hp).symm)
      obtain ⟨rfl, e2⟩ := key
      refine ⟨⟨sl, ob, G⟩, eff_of_true (st := ⟨sl, ob, G⟩) gi e2, ?_⟩
      have e3 : rj = ⟨sl, rj.ob, rj.G⟩ := by cases rj; simp only at hslj; rw [hslj]
      rw [← e3]
      exact h1
    · obtain ⟨d2, hdst2, hloc2, hall2⟩ := eop_new hi ei
      have hsli := eop_sl ei
      have hne : ¬ ((d2 : Nat) = (d : Nat)) := fun e => hd d hdst (by rw [hdst2]; exact congrArg some e)
      have agree : ∀ n : Nm, n.1 = d2 + 1 → ob n = rj.ob n ∧ G n = rj.G n := fun n hn => ⟨(hloc.lob n (by omega)).symm, (hloc.lG n (by omega)).symm⟩
      have e1 := hall2 ob G agree
      refine ⟨_, eff_of_true (st := ⟨sl, ob, G⟩) gi e1, eff_of_true (st := ⟨sl, _, _⟩) gj ?_⟩
      have e2 := hall (mix d2 ri.ob ob) (mix d2 ri.G G) (fun n hn => ⟨by simp only [mix]; rw [if_neg (by omega)], by simp only [mix]; rw [if_neg (by omega)]⟩)
      simp only at e2 ⊢
      rw [e2]
      have e3 : mix d rj.ob (mix d2 ri.ob ob) = ri.ob := by
        funext n
        simp only [mix]
        by_cases h1 : n.1 = d + 1
        · rw [if_pos h1]; exact (hloc2.lob n (by omega)).symm
        · rw [if_neg h1]
          by_cases h2 : n.1 = d2 + 1
          · rw [if_pos h2]
          · rw [if_neg h2, ← hloc.lob n h1]; exact (hloc2.lob n h2).symm
      have e4 : mix d rj.G (mix d2 ri.G G) = ri.G := by
        funext n
        simp only [mix]
        by_cases h1 : n.1 = d + 1
        · rw [if_pos h1]; exact (hloc2.lG n (by omega)).symm
        · rw [if_neg h1]
          by_cases h2 : n.1 = d2 + 1
          · rw [if_pos h2]
          · rw [if_neg h2, ← hloc.lG n h1]; exact (hloc2.lG n h2).symm
      have e5 : ri = ⟨sl, ri.ob, ri.G⟩ := by cases ri; simp only at hsli; rw [hsli]
      rw [e3, e4, ← e5]
    · exact absurd h c3.2
  · exact absurd h c3.1

theorem swap {N : Nat} {oj oi : Oper} {s1 s2 : St} (hgood : Good P N st) (hind : indep C ops oj oi = true) (h1 : estep P Γ C N ops st oj = some s1) (h2 : estep P Γ C N ops s1 oi = some s2) :
    ∃ s1', estep P Γ C N ops st oi = some s1' ∧ estep P Γ C N ops s1' oj = some s2 := by
  simp only [indep, Bool.and_eq_true] at hind
  obtain ⟨hap, hm⟩ := hind
  obtain ⟨a1, a2, a3⟩ := Oper.apart_spec hap
  unfold estep at h1 h2
  split at h1
  case isFalse => cases h1
  rename_i dj
  split at h2
  case isFalse => cases h2
  rename_i di
  split at h1
  case h_2 => cases h1
  rename_i rj ej
  obtain ⟨xj, rj⟩ := rj
  cases h1
  split at h2
  case h_2 => cases h2
  rename_i ri ei
  obtain ⟨xi, ri⟩ := ri
  cases h2
  simp only at ej ei ⊢
  obtain ⟨sl, ob, G⟩ := st
  have slj := eff_sl ej
  simp only at slj
  -- the second effect, over the first slots
  have ei' : ∃ ri1, eff P Γ C ops ⟨sl, rj.ob, rj.G⟩ oi = some (xi, ri1) ∧ ri1.ob = ri.ob ∧ ri1.G = ri.G := by
    have h3 := eff_re (P := P) (Γ := Γ) (C := C) (ops := ops) (ob := rj.ob) (G := rj.G) (sl := (putSt rj oj.dst xj).sl) (sl' := sl) (o := oi) (fun t ht => by
      rw [sl_put (fun d hd e => a1 d hd (e ▸ ht)), slj])
    have h4 : eff P Γ C ops ⟨(putSt rj oj.dst xj).sl, rj.ob, rj.G⟩ oi = some (xi, ri) := ei
    rw [h4] at h3
    exact ⟨_, h3, rfl, rfl⟩
  obtain ⟨ri1, ei1, eo, eG⟩ := ei'
  obtain ⟨ri', f1, f2⟩ := swap_core (sl := sl) (ob := ob) (G := G) (fun t m k e => hgood.ptr e) a2 hm ej ei1
  refine ⟨putSt ri' oi.dst xi, by unfold estep; rw [if_pos di, f1], ?_⟩
  have sli := eff_sl f1
  simp only at sli
  have f3 : eff P Γ C ops (putSt ri' oi.dst xi) oj = some (xj, ⟨(putSt ri' oi.dst xi).sl, ri.ob, ri.G⟩) := by
    have h3 := eff_re (P := P) (Γ := Γ) (C := C) (ops := ops) (ob := ri'.ob) (G := ri'.G) (sl := sl) (sl' := (putSt ri' oi.dst xi).sl) (o := oj) (fun t ht => by
      rw [sl_put (fun d hd e => a3 d hd (e ▸ ht)), sli])
    rw [f2] at h3
    have h5 : (⟨(putSt ri' oi.dst xi).sl, ri'.ob, ri'.G⟩ : St) = putSt ri' oi.dst xi := rfl
    rw [h5] at h3
    rw [h3]
    simp only [Option.map_some, reSl, eo, eG]
  unfold estep
  rw [if_pos dj, f3]
  simp only [Option.some.injEq]
  have sl2 : ri.sl = (putSt rj oj.dst xj).sl := eff_sl ei
  -- the same slots
  have e6 : (putSt ⟨(putSt ri' oi.dst xi).sl, ri.ob, ri.G⟩ oj.dst xj) = putSt ri oi.dst xi := by
    have e7 : ri = ⟨(putSt rj oj.dst xj).sl, ri.ob, ri.G⟩ := by cases ri; simp only at sl2; rw [sl2]
    rw [e7]
    cases hj : oj.dst with
    | none => cases hi : oi.dst <;> simp [putSt, slj, sli]
    | some d => cases hi : oi.dst with
      | none => simp [putSt, slj, sli]
      | some e =>
        have hne : e ≠ d := fun hh => a2 d hj (by rw [hi, hh])
        simp only [putSt, slj, sli, St.mk.injEq, and_true]
        funext i
        simp only [setF]
        by_cases h1 : i = d
        · have h2 : ¬ i = e := fun h2 => hne (h2.symm.trans h1)
          rw [if_pos h1, if_neg h2, if_pos h1]
        · rw [if_neg h1]
          by_cases h2 : i = e
          · rw [if_pos h2, if_pos h2]
          · rw [if_neg h2, if_neg h2, if_neg h1]
  exact e6

/-- An operation that waits for none of those ahead of it may be taken first. -/
theorem pull {N : Nat} (hΓ : GOk1 P Γ) {i : Nat} {oi : Oper} (hi : ops[i]? = some oi) {post : List Nat} {sf : St} : ∀ (pre : List Nat) (st : St), Good P N st →
    (∀ j ∈ pre, ∀ oj, ops[j]? = some oj → indep C ops oj oi = true) → erun P Γ C N ops (pre ++ i :: post) st = some sf →
    ∃ s1, estep P Γ C N ops st oi = some s1 ∧ erun P Γ C N ops (pre ++ post) s1 = some sf
  | [], st, _, _, h => by
    simp only [List.nil_append, erun, hi] at h
    cases he : estep P Γ C N ops st oi with
    | none => rw [he] at h; cases h
    | some s1 => rw [he] at h; exact ⟨s1, rfl, h⟩
  | j :: pre, st, hg, hind, h => by
    simp only [List.cons_append, erun] at h ⊢
    cases hj : ops[j]? with
    | none =>
      rw [hj] at h
      exact pull hΓ hi pre st hg (fun k hk => hind k (List.mem_cons_of_mem _ hk)) h
    | some oj =>
      rw [hj] at h
      simp only at h ⊢
      cases he : estep P Γ C N ops st oj with
      | none => rw [he] at h; cases h
      | some sj =>
        rw [he] at h
        obtain ⟨s1, h1, h2⟩ := pull hΓ hi pre sj (hg.step hΓ he) (fun k hk => hind k (List.mem_cons_of_mem _ hk)) h
        obtain ⟨s1', h3, h4⟩ := swap hg (hind j (List.mem_cons_self ..) oj hj) he h1
        exact ⟨s1', h3, by rw [h4]; exact h2⟩

/-- Which operations one waits for, at last: a bit each. -/
def waitF (acc : List Nat) (s : Nat) (e : Edge) : Nat := if Region.binds .any e then (s ||| 2 ^ e.on) ||| acc.getD e.on 0 else s
def waitOf (ops : Array Oper) (acc : List Nat) (i : Nat) : Nat :=
  match ops[i]? with
  | some o => o.after.toList.foldl (waitF acc) 0
  | none => 0
def masks (ops : Array Oper) : Nat → List Nat
  | 0 => []
  | n + 1 => masks ops n ++ [waitOf ops (masks ops n) n]

theorem masks_length : ∀ n, (masks ops n).length = n
  | 0 => rfl
  | n + 1 => by simp [masks, masks_length n]
theorem masks_get : ∀ (n k : Nat), k < n → (masks ops n).getD k 0 = waitOf ops (masks ops k) k
  | n + 1, k, h => by
    simp only [masks, List.getD_eq_getElem?_getD]
    by_cases hk : k < n
    · rw [List.getElem?_append_left (by rw [masks_length]; exact hk), ← List.getD_eq_getElem?_getD, masks_get n k hk]
    · obtain rfl : k = n := by omega
      rw [List.getElem?_append_right (by rw [masks_length]; exact Nat.le_refl _), masks_length]
      simp

theorem foldl_wait (acc : List Nat) (j : Nat) : ∀ (l : List Edge) (s : Nat), (l.foldl (waitF acc) s).testBit j = true →
    s.testBit j = true ∨ ∃ e ∈ l, Region.binds .any e = true ∧ (e.on = j ∨ (acc.getD e.on 0).testBit j = true)
  | [], s, h => .inl h
  | e :: l, s, h => by
    rcases foldl_wait acc j l _ h with h1 | ⟨e', he, hb, hh⟩
    · unfold waitF at h1
      split at h1
      · rename_i hb
        rw [Nat.testBit_or, Nat.testBit_or, Bool.or_eq_true, Bool.or_eq_true] at h1
        rcases h1 with (h1 | h1) | h1
        · exact .inl h1
        · refine .inr ⟨e, List.mem_cons_self .., hb, .inl ?_⟩
          rw [Nat.testBit_two_pow] at h1
          simpa using h1
        · exact .inr ⟨e, List.mem_cons_self .., hb, .inr h1⟩
      · exact .inl h1
    · exact .inr ⟨e', List.mem_cons_of_mem _ he, hb, hh⟩

/-- What has come up has all come up that it waits for. -/
def Down (ops : Array Oper) (listed : Array Bool) : Prop := ∀ k o, ops[k]? = some o → listed.getD k false = true → ∀ e ∈ o.after, Region.binds .any e = true → listed.getD e.on false = true

theorem wait_listed {listed : Array Bool} (hdown : Down ops listed) (hback : ∀ i o, ops[i]? = some o → ∀ e ∈ o.after, Region.binds .any e = true → e.on < i) {j : Nat} :
    ∀ (i : Nat) (o : Oper), ops[i]? = some o → (∀ e ∈ o.after, Region.binds .any e = true → listed.getD e.on false = true) → (waitOf ops (masks ops i) i).testBit j = true → listed.getD j false = true := by
  intro i
  induction i using Nat.strongRecOn with
  | _ i ih =>
    intro o ho hd hbit
    unfold waitOf at hbit
    rw [ho] at hbit
    rcases foldl_wait _ j _ _ hbit with h | ⟨e, he, hb, h⟩
    · simp at h
    · have hem : e ∈ o.after := by simpa using he
      have hlt := hback i o ho e hem hb
      have hl := hd e hem hb
      rcases h with rfl | h
      · exact hl
      · rw [masks_get i e.on hlt] at h
        cases hoe : ops[e.on]? with
        | none => unfold waitOf at h; rw [hoe] at h; simp at h
        | some oe => exact ih e.on hlt oe hoe (hdown e.on oe hoe hl) h

/-- The region's own order is none that matters. -/
def regOk (C : Cfg) (ops : Array Oper) : Bool :=
  let ms := masks ops ops.size
  (List.range ops.size).all fun i => match ops[i]? with
    | some o => o.after.toList.all (fun e => !Region.binds .any e || decide (e.on < i)) &&
        (List.range i).all (fun j => match ops[j]? with
          | some oj => (ms.getD i 0).testBit j || indep C ops oj o
          | none => true)
    | none => true

theorem range_split {n i : Nat} (h : i < n) : List.range n = List.range i ++ i :: (List.range n).drop (i + 1) := by
  have h1 : (List.range n).take i = List.range i := by rw [List.take_range]; congr 1; omega
  have h2 : (List.range n).drop i = i :: (List.range n).drop (i + 1) := by
    rw [List.drop_eq_getElem_cons (by simpa using h)]
    simp
  conv => lhs; rw [← List.take_append_drop i (List.range n), h1, h2]

theorem mem_drop_range {n i j : Nat} (h : j ∈ (List.range n).drop i) : i ≤ j := by
  obtain ⟨k, hk, rfl⟩ := List.getElem_of_mem h
  simp only [List.getElem_drop, List.getElem_range]
  omega

theorem filter_set {n i : Nat} (h : i < n) {listed : Array Bool} (hs : listed.size = n) (hu : listed.getD i true = false) :
    (List.range n).filter (fun j => !listed.getD j true) = (List.range i).filter (fun j => !listed.getD j true) ++ i :: ((List.range n).drop (i + 1)).filter (fun j => !listed.getD j true) ∧
    (List.range n).filter (fun j => !(listed.setIfInBounds i true).getD j true) = (List.range i).filter (fun j => !listed.getD j true) ++ ((List.range n).drop (i + 1)).filter (fun j => !listed.getD j true) := by
  have hget : ∀ j, j ≠ i → (listed.setIfInBounds i true).getD j true = listed.getD j true := by
    intro j hj
    simp only [Array.getD_eq_getD_getElem?]
    rw [Array.getElem?_setIfInBounds_ne (Ne.symm hj)]
  have hgi : (listed.setIfInBounds i true).getD i true = true := by
    simp only [Array.getD_eq_getD_getElem?]
    rw [Array.getElem?_setIfInBounds_self_of_lt (by omega)]
    rfl
  constructor
  · conv => lhs; rw [range_split h]
    rw [List.filter_append, List.filter_cons, if_pos (by simp [hu])]
  · conv => lhs; rw [range_split h]
    rw [List.filter_append, List.filter_cons, if_neg (by simp [hgi])]
    congr 1
    · exact List.filter_congr (fun j hj => by rw [hget j (by have := List.mem_range.1 hj; omega)])
    · exact List.filter_congr (fun j hj => by rw [hget j (by have := mem_drop_range hj; omega)])

theorem any_sound (hΓ : GB P Γ B) (hreg : regOk C ops = true) {sf : St} {Q : Exit → Act → World → Prop} (hQ : ∀ a w, Rel B sf a w → Q .normal a w) :
    ∀ (fuel : Nat) (listed : Array Bool) (st : St) (a : Act) (w : World), listed.size = ops.size → Down ops listed →
    ((List.range ops.size).filter (fun i => !listed.getD i true)).length = fuel → Rel B st a w →
    erun P Γ C B.N ops ((List.range ops.size).filter (fun i => !listed.getD i true)) st = some sf → wpAny P .any ops Q fuel listed a w := by
  have hback : ∀ i o, ops[i]? = some o → ∀ e ∈ o.after, Region.binds .any e = true → e.on < i := by
    intro i o hi e he hb
    have hlt : i < ops.size := (Array.getElem?_eq_some_iff.1 hi).1
    have h1 := List.all_eq_true.1 hreg i (List.mem_range.2 hlt)
    rw [hi] at h1
    simp only [Bool.and_eq_true] at h1
    have := List.all_eq_true.1 h1.1 e (by simpa using he)
    rw [hb] at this
    simpa using this
  have hpair : ∀ i o, ops[i]? = some o → ∀ j, j < i → ∀ oj, ops[j]? = some oj → (waitOf ops (masks ops i) i).testBit j = true ∨ indep C ops oj o = true := by
    intro i o hi j hj oj hoj
    have hlt : i < ops.size := (Array.getElem?_eq_some_iff.1 hi).1
    have h1 := List.all_eq_true.1 hreg i (List.mem_range.2 hlt)
    rw [hi] at h1
    simp only [Bool.and_eq_true] at h1
    have := List.all_eq_true.1 h1.2 j (List.mem_range.2 hj)
    rw [hoj] at this
    simp only [Bool.or_eq_true] at this
    rw [masks_get _ _ hlt] at this
    exact this
  intro fuel
  induction fuel with
  | zero =>
    intro listed st a w hs _ hf hr he
    have hnil := List.length_eq_zero_iff.1 hf
    refine ⟨?_, ?_⟩
    · unfold Region.ready
      rw [List.filter_eq_nil_iff] at hnil ⊢
      intro i hi hh
      simp only [Bool.and_eq_true] at hh
      exact hnil i hi hh.1
    · rw [hnil] at he
      simp only [erun, Option.some.injEq] at he
      subst he
      exact hQ a w hr
  | succ fuel ih =>
    intro listed st a w hs hdown hf hr he
    refine ⟨fun hnone => ?_, fun i hi => ?_⟩
    · exfalso
      -- the first that is left waits for none
      cases hrem : (List.range ops.size).filter (fun i => !listed.getD i true) with
      | nil => rw [hrem] at hf; simp at hf
      | cons i r =>
        have hmem : i ∈ (List.range ops.size).filter (fun i => !listed.getD i true) := by rw [hrem]; exact List.mem_cons_self ..
        have hi0 := List.mem_filter.1 hmem
        have hlt : i < ops.size := List.mem_range.1 hi0.1
        have hui : listed.getD i true = false := by simpa using hi0.2
        have hfirst : ∀ j, j < i → listed.getD j true = true := by
          intro j hj
          cases hc : listed.getD j true with
          | true => rfl
          | false =>
            exfalso
            have hsplit := (filter_set hlt hs hui).1
            rw [hrem] at hsplit
            have hjm : j ∈ (List.range i).filter (fun j => !listed.getD j true) := List.mem_filter.2 ⟨List.mem_range.2 hj, by rw [hc]; rfl⟩
            cases hq : (List.range i).filter (fun j => !listed.getD j true) with
            | nil => rw [hq] at hjm; cases hjm
            | cons x y =>
              rw [hq] at hsplit
              simp only [List.cons_append, List.cons.injEq] at hsplit
              have hx : x ∈ (List.range i).filter (fun j => !listed.getD j true) := by rw [hq]; exact List.mem_cons_self ..
              have := List.mem_range.1 (List.mem_filter.1 hx).1
              omega
        have hready : i ∈ Region.ready .any ops listed := by
          unfold Region.ready
          refine List.mem_filter.2 ⟨hi0.1, ?_⟩
          have hoi : ops[i]? = some ops[i] := Array.getElem?_eq_getElem hlt
          rw [hui, hoi]
          simp only [Bool.not_false, Option.map_some, Option.getD_some, Bool.true_and]
          rw [Array.all_eq_true_iff_forall_mem]
          intro e hem
          by_cases hb : Region.binds .any e = true
          · have := hback i _ hoi e hem hb
            have h2 := hfirst e.on this
            rw [hb]
            simp only [Bool.not_true, Bool.false_or]
            rw [Array.getD_eq_getD_getElem?, Array.getElem?_eq_getElem (by omega)] at h2 ⊢
            exact h2
          · simp [hb]
        rw [hnone] at hready
        cases hready
    · unfold Region.ready at hi
      obtain ⟨hir, hic⟩ := List.mem_filter.1 hi
      have hlt : i < ops.size := List.mem_range.1 hir
      simp only [Bool.and_eq_true] at hic
      obtain ⟨hun, hdeps⟩ := hic
      have hui : listed.getD i true = false := by simpa using hun
      have hoi : ops[i]? = some ops[i] := Array.getElem?_eq_getElem hlt
      rw [hoi] at hdeps
      simp only [Option.map_some, Option.getD_some] at hdeps
      rw [Array.all_eq_true_iff_forall_mem] at hdeps
      obtain ⟨f1, f2⟩ := filter_set hlt hs hui
      rw [f1] at he hf
      have hgood : Good P B.N st := ⟨B, a, w, rfl, hΓ.2, hr⟩
      obtain ⟨s1, e1, e2⟩ := pull hΓ.1 hoi _ st hgood (fun j hj oj hoj => by
        obtain ⟨hjr, hju⟩ := List.mem_filter.1 hj
        rcases hpair i _ hoi j (List.mem_range.1 hjr) oj hoj with hbit | hh
        · exfalso
          have := wait_listed hdown hback i _ hoi (fun e hem hb => by
            have := hdeps e hem
            rw [hb] at this
            simpa using this) hbit
          have hjlt : j < ops.size := by have := List.mem_range.1 hjr; omega
          rw [Array.getD_eq_getD_getElem?, Array.getElem?_eq_getElem (by omega)] at this hju
          simp only [Option.getD_some] at this hju
          rw [this] at hju
          cases hju
        · exact hh) he
      have hdown' : Down ops (listed.setIfInBounds i true) := by
        have hmono : ∀ k, listed.getD k false = true → (listed.setIfInBounds i true).getD k false = true := by
          intro k hk
          rw [Array.getD_eq_getD_getElem?] at hk ⊢
          by_cases hki : i = k
          · subst hki
            rw [Array.getElem?_setIfInBounds_self_of_lt (by omega)]
            rfl
          · rw [Array.getElem?_setIfInBounds_ne hki]; exact hk
        intro k o hk hl e he hb
        by_cases hki : k = i
        · subst hki
          rw [hoi] at hk
          cases hk
          refine hmono _ ?_
          have := hdeps e he
          rw [hb] at this
          simpa using this
        · refine hmono _ (hdown k o hk ?_ e he hb)
          rw [Array.getD_eq_getD_getElem?] at hl ⊢
          rw [Array.getElem?_setIfInBounds_ne (fun e => hki e.symm)] at hl
          exact hl
      have hstep := estep_sound hΓ hr e1 Q
      have hnext : ∀ a' w', Rel B s1 a' w' → wpAny P .any ops Q fuel (listed.setIfInBounds i true) a' w' := by
        intro a' w' hr'
        refine ih _ s1 a' w' (by simpa using hs) hdown' ?_ hr' (by rw [f2]; exact e2)
        rw [f2]
        simp only [List.length_append, List.length_cons] at hf ⊢
        omega
      unfold wpOp
      rw [hoi]
      simp only
      unfold wpStep at hstep
      split
      · rename_i hw
        rw [if_pos hw] at hstep
        exact .inl (Oper.wp_mono hnext hstep)
      · rename_i hw
        rw [if_neg hw] at hstep
        exact hnext _ _ hstep

end
end Caw

namespace Caw
open Go Go.RowKit

/-! ## Less is known -/
def All2P (R : AV → AV → Prop) : List AV → List AV → Prop
  | [], [] => True
  | x :: xs, y :: ys => R x y ∧ All2P R xs ys
  | _, _ => False
/-- The target's tag, of the source's. -/
def tagCo (φ : Nm → Option Nm) (st : St) (tg : Tg) : Tg → Prop
  | none => True
  | some (n2, g2) => g2 = 0 ∧ (match tg with
    | some (n, g) => g = st.G n ∧ φ n2 = some n
    | none => False)
def tagZ : Tg → Prop
  | none => True
  | some (_, g) => g = 0
/-- x, as y tells less of it: a leaf. -/
def CoL (φ ψ : Nm → Option Nm) (st st2 : St) : AV → AV → Prop
  | _, .dead => True
  | .v (.slice none 0 0), .sl _ es tg => es = [] ∧ tagZ tg
  | .v x, .v y => x = y
  | .sl sz es tg, .sl sz' es' tg' => sz = sz' ∧ es = es' ∧ tagCo φ st tg tg'
  | .ptr n k, .ptr n' k' => ψ n' = some n ∧ k = k' ∧ (st2.ob n').isSome = true
  | .rptr x k, .rptr x' k' => x = x' ∧ k = k'
  | .osl n o l c, .osl n' o' l' c' => ψ n' = some n ∧ o = o' ∧ l = l' ∧ c = c' ∧ (st2.ob n').isSome = true
  | .own n o l, .own n' o' l' => ψ n' = some n ∧ o = o' ∧ l = l' ∧ (st2.ob n').isSome = true
  | _, _ => False
def CoA (φ ψ : Nm → Option Nm) (st st2 : St) : AV → AV → Prop
  | .v (.agg vs), .agg cs => All2P (CoL φ ψ st st2) (vs.toList.map .v) cs
  | .agg xs, .agg ys => All2P (CoL φ ψ st st2) xs ys
  | .fn g xs, .fn g' ys => g = g' ∧ All2P (CoL φ ψ st st2) xs ys
  | x, y => CoL φ ψ st st2 x y
def Co (φ ψ : Nm → Option Nm) (st st2 : St) : AV → AV → Prop
  | .tup xs, .tup ys => All2P (CoA φ ψ st st2) xs ys
  | .v (.tuple vs), .tup ys => All2P (CoA φ ψ st st2) (vs.toList.map .v) ys
  | x, y => CoA φ ψ st st2 x y

theorem All2P.len {R : AV → AV → Prop} : ∀ {xs ys : List AV}, All2P R xs ys → xs.length = ys.length
  | [], [], _ => rfl
  | _ :: _, _ :: _, h => by simp [All2P.len h.2]
theorem All2P.get {R : AV → AV → Prop} : ∀ {xs ys : List AV}, All2P R xs ys → ∀ i (hi : i < xs.length) (hj : i < ys.length), R xs[i] ys[i]
  | _ :: _, _ :: _, h, 0, _, _ => h.1
  | _ :: _, _ :: _, h, i + 1, hi, hj => All2P.get h.2 i (by simpa using hi) (by simpa using hj)

section
variable {P : Program} {B : Base} {w : World} {E : Env} {st st2 : St} {a : Act}

/-- Where the target's names lie. -/
def viewE (E : Env) (φ ψ : Nm → Option Nm) : Env := ⟨fun n => match ψ n with | some m => E.ρ m | none => 0, fun n => (φ n).bind E.τ, E.pr⟩

theorem V_coL {φ ψ : Nm → Option Nm} {x x2 : AV} {y : Value} (h : V E st w x y) (hc : CoL φ ψ st st2 x x2) : V (viewE E φ ψ) st2 w x2 y := by
  unfold CoL at hc
  split at hc
  · exact .dead _
  · obtain ⟨rfl, ht⟩ := hc
    rw [V_v h]
    refine .sl (.nil _ _) (fun n g hn => ?_)
    subst hn
    simp only [tagZ] at ht
    subst ht
    exact ⟨Nat.zero_le _, fun _ => .inl rfl⟩
  · subst hc
    rw [V_v h]; exact .v _
  · obtain ⟨rfl, rfl, ht⟩ := hc
    cases h with
    | sl h hh =>
      refine .sl (PV_tag _ h) (fun n g hn => ?_)
      subst hn
      simp only [tagCo] at ht
      obtain ⟨rfl, ht⟩ := ht
      split at ht
      · rename_i n0 g0
        obtain ⟨rfl, hφ⟩ := ht
        refine ⟨Nat.zero_le _, fun _ => ((hh n0 _ rfl).2 rfl).ren ?_⟩
        simp [viewE, hφ]
      · exact ht.elim
  · obtain ⟨h1, rfl, h2⟩ := hc
    rename_i n k n'
    cases h with
    | ptr hn =>
      have : E.ρ n = (viewE E φ ψ).ρ n' := by simp [viewE, h1]
      rw [this]
      exact .ptr (by intro e; rw [e] at h2; cases h2)
  · obtain ⟨rfl, rfl⟩ := hc
    cases h with
    | rptr cells hp h hcl => exact .rptr cells hp h hcl
  · obtain ⟨h1, rfl, rfl, rfl, h2⟩ := hc
    rename_i n _ _ _ n'
    cases h with
    | osl hn =>
      have : E.ρ n = (viewE E φ ψ).ρ n' := by simp [viewE, h1]
      rw [this]
      exact .osl (by intro e; rw [e] at h2; cases h2)
  · obtain ⟨h1, rfl, rfl, h2⟩ := hc
    rename_i n _ _ n'
    cases h with
    | own hn hle hr =>
      have : E.ρ n = (viewE E φ ψ).ρ n' := by simp [viewE, h1]
      rw [this] at hr ⊢
      exact .own (by intro e; rw [e] at h2; cases h2) hle hr
  · exact hc.elim

theorem V_all2P {E' : Env} {st' : St} {R : AV → AV → Prop} (hR : ∀ {x x2 : AV} {y : Value}, V E st w x y → R x x2 → V E' st' w x2 y) {xs ys : List AV} {vs : Array Value} (hl : xs.length = vs.size)
    (h : ∀ i (hi : i < xs.length), V E st w xs[i] (vs.getD i undef)) (hc : All2P R xs ys) : ys.length = vs.size ∧ ∀ i (hi : i < ys.length), V E' st' w ys[i] (vs.getD i undef) :=
  ⟨hc.len ▸ hl, fun i hi => hR (h i (hc.len.symm ▸ hi)) (hc.get i (hc.len.symm ▸ hi) hi)⟩

theorem V_vs (vs : Array Value) : (vs.toList.map AV.v).length = vs.size ∧ ∀ i (hi : i < (vs.toList.map AV.v).length), V E st w (vs.toList.map AV.v)[i] (vs.getD i undef) := by
  refine ⟨by simp, fun i hi => ?_⟩
  have hi' : i < vs.size := by simpa using hi
  have e : (vs.toList.map AV.v)[i] = .v (vs.getD i undef) := by simp [hi']
  rw [e]
  exact .v _

theorem V_coA {φ ψ : Nm → Option Nm} {x x2 : AV} {y : Value} (h : V E st w x y) (hc : CoA φ ψ st st2 x x2) : V (viewE E φ ψ) st2 w x2 y := by
  unfold CoA at hc
  split at hc
  · rename_i vs cs
    rw [V_v h]
    have := V_all2P (E := E) (st := st) (w := w) V_coL (V_vs (E := E) (st := st) (w := w) vs).1 (V_vs vs).2 hc
    exact .agg this.1 this.2
  · cases h with
    | agg hl h =>
      have := V_all2P V_coL hl h hc
      exact .agg this.1 this.2
  · obtain ⟨rfl, hc⟩ := hc
    cases h with
    | fn hl h =>
      have := V_all2P V_coL hl h hc
      exact .fn this.1 this.2
  · exact V_coL h hc

theorem V_co {φ ψ : Nm → Option Nm} {x x2 : AV} {y : Value} (h : V E st w x y) (hc : Co φ ψ st st2 x x2) : V (viewE E φ ψ) st2 w x2 y := by
  unfold Co at hc
  split at hc
  · cases h with
    | tup hl h =>
      have := V_all2P V_coA hl h hc
      exact .tup this.1 this.2
  · rename_i vs cs
    rw [V_v h]
    have := V_all2P (E := E) (st := st) (w := w) V_coA (V_vs (E := E) (st := st) (w := w) vs).1 (V_vs vs).2 hc
    exact .tup this.1 this.2
  · exact V_coA h hc

/-- The same frame and world, of which less is told; or another frame over the same world. -/
theorem Rel0.view (h : Rel0 B E st a w) {φ ψ : Nm → Option Nm} (hφ : ∀ n m k, φ n = some k → φ m = some k → n = m) (hψ : ∀ n m k, ψ n = some k → ψ m = some k → n = m)
    (hp : st2.ob (0, 1, 0) ≠ none → ψ (0, 1, 0) = some (0, 1, 0)) {a2 : Act} {N2 : Nat} (hd : a2.defers = []) (hN : a2.tmps.size = N2)
    (hsl : ∀ i, ∃ x, V E st w x (a2.tmps.getD i undef) ∧ Co φ ψ st st2 x (st2.sl i))
    (hob : ∀ n2 cs2, st2.ob n2 = some cs2 → ∃ n cs, ψ n2 = some n ∧ st.ob n = some cs ∧ All2P (CoL φ ψ st st2) cs cs2) : Rel0 { B with N := N2 } (viewE E φ ψ) st2 a2 w := by
  have hob' : ∀ n2, st2.ob n2 ≠ none → ∃ n, ψ n2 = some n ∧ st.ob n ≠ none ∧ (viewE E φ ψ).ρ n2 = E.ρ n := by
    intro n2 hn
    obtain ⟨cs2, hcs⟩ := Option.ne_none_iff_exists'.1 hn
    obtain ⟨n, cs, h1, h2, -⟩ := hob n2 cs2 hcs
    exact ⟨n, h1, by rw [h2]; simp, by simp [viewE, h1]⟩
  have htau : ∀ n b e, (viewE E φ ψ).τ n = some (b, e) → ∃ m, φ n = some m ∧ E.τ m = some (b, e) := by
    intro n b e ht
    exact Option.bind_eq_some_iff.1 ht
  refine ⟨fun i => ?_, fun n2 cs2 hn => ?_, fun n m hn hm he => ?_, fun n hn k => ?_, fun n hn => ?_, fun n b e ht => ?_, fun n m b e e' hn hm => ?_, h.frame, h.keep, h.prot, h.prnew, h.prlt, fun hn => ?_, hd, hN⟩
  · obtain ⟨x, hx, hc⟩ := hsl i
    exact V_co hx hc
  · obtain ⟨n, cs, h1, h2, h3⟩ := hob n2 cs2 hn
    obtain ⟨vs, e, hh, hl, hv⟩ := h.ob n cs h2
    refine ⟨vs, e, by simp only [viewE, h1]; exact hh, by rw [← h3.len]; exact hl, fun i hi => V_coL (hv i (h3.len.symm ▸ hi)) (h3.get i (h3.len.symm ▸ hi) hi)⟩
  · obtain ⟨n1, p1, q1, r1⟩ := hob' n hn
    obtain ⟨m1, p2, q2, r2⟩ := hob' m hm
    rw [r1, r2] at he
    have := h.inj n1 m1 q1 q2 he
    subst this
    exact hψ n m n1 p1 p2
  · obtain ⟨n1, p1, q1, r1⟩ := hob' n hn
    rw [r1]
    exact h.obp n1 q1 k
  · obtain ⟨n1, p1, q1, r1⟩ := hob' n hn
    rw [r1]
    exact h.own n1 q1
  · obtain ⟨m, p, q⟩ := htau n b e ht
    obtain ⟨t1, t2, t3, t4⟩ := h.tau m b e q
    refine ⟨t1, t2, t3, fun j hj => ?_⟩
    obtain ⟨n1, p1, q1, r1⟩ := hob' j hj
    rw [r1]
    exact t4 n1 q1
  · obtain ⟨n1, p1, q1⟩ := htau n b e hn
    obtain ⟨m1, p2, q2⟩ := htau m b e' hm
    have := h.tdis n1 m1 b e e' q1 q2
    subst this
    exact hφ n m n1 p1 p2
  · have h1 := hp hn
    obtain ⟨n1, p1, q1, r1⟩ := hob' _ hn
    rw [h1] at p1
    cases p1
    rw [r1]
    exact h.pin q1

end

/-! ## Code -/
noncomputable def eregion (P : Program) (Γ : Ctx1) (C : Cfg) (N : Nat) (ops : Array Oper) (st : St) : Option St := erun P Γ C N ops (List.range ops.size) st

/-- From any frame and world that the abstract state describes, the code comes to an exit and to an abstract state of which Q holds. -/
def Tri (P : Program) (N : Nat) (st : St) (c : Code) (Q : Exit → St → Prop) : Prop :=
  ∀ B a w, (B.N = N ∧ TabB P B) → Rel B st a w → c.wp P (fun e a' w' => ∃ st', Q e st' ∧ Rel B st' a' w') a w

/-- Less is known. -/
def Le (N : Nat) (st st' : St) : Prop := ∀ B a w, B.N = N → Rel B st a w → Rel B st' a w

def Then (next : St → Prop) (Q : Exit → St → Prop) : Exit → St → Prop
  | .normal, s => next s
  | e, s => Q e s
def InBlock (id : Nat) (Q : Exit → St → Prop) : Exit → St → Prop
  | .exit id', s => if id' = id then Q .normal s else Q (.exit id') s
  | e, s => Q e s

section
variable {P : Program} {Γ : Ctx1} {C : Cfg} {B : Base} {w w' : World} {N : Nat} {E : Env} {st st' sf : St} {a : Act} {ops : Array Oper} {Q : Exit → St → Prop}

theorem ops_sound (hΓ : GB P Γ B) {K : Exit → Act → World → Prop} (hQ : ∀ a w, Rel B sf a w → K .normal a w) : ∀ (l : List Nat) (st : St) (a : Act) (w : World),
    Rel B st a w → erun P Γ C B.N ops l st = some sf → wpOps P ops K l a w
  | [], st, a, w, hr, he => by
    simp only [erun, Option.some.injEq] at he
    subst he
    exact hQ a w hr
  | i :: r, st, a, w, hr, he => by
    simp only [erun] at he
    simp only [wpOps]
    cases hi : ops[i]? with
    | none => rw [hi] at he; exact ops_sound hΓ hQ r st a w hr he
    | some o =>
      rw [hi] at he
      simp only at he ⊢
      cases hs : estep P Γ C B.N ops st o with
      | none => rw [hs] at he; cases he
      | some s1 =>
        rw [hs] at he
        have h1 := estep_sound hΓ hr hs K
        unfold wpStep at h1
        split
        · rename_i hw
          rw [if_pos hw] at h1
          exact .inl (Oper.wp_mono (fun a' w' hr' => ops_sound hΓ hQ r s1 a' w' hr' he) h1)
        · rename_i hw
          rw [if_neg hw] at h1
          exact ops_sound hΓ hQ r s1 _ _ h1 he

theorem fr_drew (pr : Pr) (w : World) : Fr pr w { w with drawn := w.drawn + 1 } := ⟨rfl, rfl, rfl, Nat.le_refl _, fun _ _ _ _ h => h, fun _ _ _ => rfl, fun _ vs _ _ h => ⟨vs, h, rfl⟩⟩

theorem Rel.drew (h : Rel B st a w) : Rel B st a { w with drawn := w.drawn + 1 } := by
  obtain ⟨E, h⟩ := h
  exact ⟨_, h.turn (fr_drew _ w) (fun _ _ => rfl) (fun _ _ => rfl) (fun _ _ h => h) (fun b k h1 h2 => absurd h1 h2)⟩

theorem filter_all (n : Nat) : (List.range n).filter (fun i => !(Array.replicate n false).getD i true) = List.range n := by
  rw [List.filter_eq_self]
  intro i hi
  have := List.mem_range.1 hi
  simp [Array.getD, this]

theorem tri_region (hΓ : GOk1 P Γ) {id : Nat} {draw : Bool} (hd : draw = true → P.follows .mixedOrders = true ∧ regOk C ops = true) (he : eregion P Γ C N ops st = some sf) (hq : Q .normal sf) :
    Tri P N st (.region id ops draw) Q := by
  rintro B a w ⟨rfl, hTb⟩ hr
  cases draw with
  | false => exact wp_region (ops_sound ⟨hΓ, hTb⟩ (fun a w hr' => ⟨sf, hq, hr'⟩) _ st a w hr he)
  | true =>
    obtain ⟨hm, hreg⟩ := hd rfl
    refine wp_region_any hm (any_sound ⟨hΓ, hTb⟩ hreg (fun a w hr' => ⟨sf, hq, hr'⟩) ops.size _ st a _ (by simp) (fun k o _ hl => by simp [Array.getD] at hl) ?_ hr.drew ?_)
    · rw [filter_all]; simp
    · rw [filter_all]; exact he

theorem tri_skip (h : Q .normal st) : Tri P N st .skip Q := fun _ _ _ _ hr => wp_skip ⟨st, h, hr⟩
theorem tri_ret (h : Q .ret st) : Tri P N st .ret Q := fun _ _ _ _ hr => wp_ret ⟨st, h, hr⟩
theorem tri_exit {id : Nat} (h : Q (.exit id) st) : Tri P N st (.exit id) Q := fun _ _ _ _ hr => wp_exit ⟨st, h, hr⟩
theorem tri_label {l : Nat} (h : Q .normal st) : Tri P N st (.label l) Q := fun _ _ _ _ hr => wp_label ⟨st, h, hr⟩
theorem tri_seq {x y : Code} (h : Tri P N st x (Then (fun s => Tri P N s y Q) Q)) : Tri P N st (.seq x y) Q := by
  intro B a w hN hr
  refine wp_seq (wp_mono (h B a w hN hr) ?_)
  rintro e a' w' ⟨s, hq, hr'⟩
  cases e with
  | normal => exact hq B a' w' hN hr'
  | _ => exact ⟨s, hq, hr'⟩
theorem tri_cond {c : Operand} {x y : Code} {b : Bool} (hc : ev st c = .v (.bool b)) (h1 : b = true → Tri P N st x Q) (h2 : b = false → Tri P N st y Q) : Tri P N st (.cond c x y) Q := by
  intro B a w hN hr
  have hr' := hr
  obtain ⟨E, h⟩ := hr'
  have he := ev_rel h c
  rw [hc] at he
  exact wp_cond_split (V_v he) (fun hb => h1 hb B a w hN hr) (fun hb => h2 hb B a w hN hr)
theorem tri_block {id : Nat} {c : Code} (h : Tri P N st c (InBlock id Q)) : Tri P N st (.block id c) Q := by
  intro B a w hN hr
  refine wp_block (wp_mono (h B a w hN hr) ?_)
  rintro e a' w' ⟨s, hq, hr'⟩
  cases e with
  | exit id' =>
    simp only [InBlock] at hq
    simp only [Exit.inBlock]
    split
    · rename_i hid; rw [if_pos hid] at hq; exact ⟨s, hq, hr'⟩
    · rename_i hid; rw [if_neg hid] at hq; exact ⟨s, hq, hr'⟩
  | _ => exact ⟨s, hq, hr'⟩
theorem tri_weak (hl : Le N st st') {c : Code} (h : Tri P N st' c Q) : Tri P N st c Q := fun B a w hN hr => h B a w hN (hl B a w hN.1 hr)
theorem tri_mono {c : Code} {Q' : Exit → St → Prop} (h : Tri P N st c Q) (hq : ∀ e s, Q e s → Q' e s) : Tri P N st c Q' :=
  fun B a w hN hr => wp_mono (h B a w hN hr) fun e _ _ ⟨s, q, r⟩ => ⟨s, hq e s q, r⟩

/-- A loop: J n is what holds at a round's head, n a number that every round lowers. -/
theorem tri_loop {c : Code} (J : Nat → St → Prop) (n0 : Nat) (s0 : St) (hl : Le N st s0) (h0 : J n0 s0)
    (round : ∀ n s, J n s → Tri P N s c (Then (fun s' => ∃ n' s'', n' < n ∧ Le N s' s'' ∧ J n' s'') Q)) : Tri P N st (.loop c) Q := by
  intro B a w hN hr
  refine wp_loop_ghost (fun n a w => ∃ s, J n s ∧ Rel B s a w) n0 ⟨s0, h0, hl _ _ _ hN.1 hr⟩ ?_
  rintro n a w ⟨s, hj, hr'⟩
  refine wp_mono (round n s hj B a w hN hr') ?_
  rintro e a' w' ⟨s', hq, hr2⟩
  cases e with
  | normal =>
    obtain ⟨n', s'', hlt, hle, hj'⟩ := hq
    exact ⟨n', hlt, s'', hj', hle _ _ _ hN.1 hr2⟩
  | _ => exact ⟨s', hq, hr2⟩

theorem Le.refl (s : St) : Le N s s := fun _ _ _ _ h => h
theorem Le.trans {s1 s2 s3 : St} (h : Le N s1 s2) (k : Le N s2 s3) : Le N s1 s3 := fun B a w hN hr => k B a w hN (h B a w hN hr)

/-- Less is told. -/
theorem le_of_co (hsl : ∀ i, Co some some st st' (st.sl i) (st'.sl i)) (hob : ∀ n cs2, st'.ob n = some cs2 → ∃ cs, st.ob n = some cs ∧ All2P (CoL some some st st') cs cs2) : Le N st st' := by
  rintro B a w rfl ⟨E, h⟩
  refine ⟨viewE E some some, ?_⟩
  have := h.view (st2 := st') (φ := some) (ψ := some) (fun n m k h1 h2 => by cases h1; cases h2; rfl) (fun n m k h1 h2 => by cases h1; cases h2; rfl) (fun _ => rfl) (a2 := a) (N2 := B.N) h.defers h.size
    (fun i => ⟨_, h.sl i, hsl i⟩) (fun n cs2 hn => by
      obtain ⟨cs, h1, h2⟩ := hob n cs2 hn
      exact ⟨n, cs, rfl, h1, h2⟩)
  exact this

/-! ### A function -/
def rvar (P : Program) (st : St) : ResultVar → Option AV
  | .tmp t => some (st.sl t)
  | .cell x t => match st.sl x with
    | .ptr n k => match st.ob n with
      | some cs => ldc P t cs k
      | none => none
    | _ => none
def rets (P : Program) (st : St) : List ResultVar → Option (List AV)
  | [] => some []
  | r :: rs => match rvar P st r, rets P st rs with
    | some x, some xs => some (x :: xs)
    | _, _ => none
def retAV : List AV → AV
  | [x] => x
  | xs => .tup xs

theorem run_mapM (w : World) {f : ResultVar → Sem Value} : ∀ {l : List ResultVar} {ys : List Value}, l.length = ys.length →
    (∀ i (hi : i < l.length), (f l[i]).run P w = .ok (ys.getD i undef) w) → (l.mapM f).run P w = .ok ys w
  | [], [], _, _ => by simp
  | [], _ :: _, hl, _ => by simp at hl
  | _ :: _, [], hl, _ => by simp at hl
  | r :: rs, y :: ys, hl, h => by
    have h0 : (f r).run P w = .ok y w := h 0 (Nat.zero_lt_succ _)
    have ih := run_mapM w (f := f) (l := rs) (ys := ys) (by simpa using hl) (fun i hi => h (i + 1) (Nat.succ_lt_succ hi))
    simp [List.mapM_cons, h0, ih]

theorem rvar_sound (h : Rel0 B E st a w) {r : ResultVar} {x : AV} (hx : rvar P st r = some x) :
    ∃ y, (match r with
      | .tmp t => pure (a.tmps.getD t undef)
      | .cell p t => do loadVar t (← asAddr (a.tmps.getD p undef)) : Sem Value).run P w = .ok y w ∧ V E st w x y := by
  cases r with
  | tmp t =>
    simp only [rvar, Option.some.injEq] at hx
    subst hx
    exact ⟨_, rfl, h.sl t⟩
  | cell p t =>
    simp only [rvar] at hx
    split at hx
    case h_2 => cases hx
    rename_i n k hp
    split at hx
    case h_2 => cases hx
    rename_i cs hn
    have hs := h.sl p
    rw [hp] at hs
    obtain ⟨vs, e, hh, hle, hr, hc⟩ := row_all2 h hn
    obtain ⟨y, hy, hR⟩ := ldc_sound (off := 0) hr hc hx
    refine ⟨y, ?_, hR⟩
    simp only [Instr.loadAt, Instr.sureAddr, Sem.run_bind, Sem.run_pure, Result.andThen_ok, Nat.zero_add] at hy
    simp only [(V_ptr hs).1, asAddr, Sem.run_bind, Sem.run_pure, Result.andThen_ok]
    exact hy

theorem rets_sound (h : Rel0 B E st a w) : ∀ {rs : List ResultVar} {xs : List AV}, rets P st rs = some xs →
    ∃ ys : List Value, All2 (V E st w) xs ys ∧ (rs.mapM (fun r => (match r with
      | .tmp t => pure (a.tmps.getD t undef)
      | .cell p t => do loadVar t (← asAddr (a.tmps.getD p undef)) : Sem Value))).run P w = .ok ys w
  | [], xs, hx => by
    simp only [rets, Option.some.injEq] at hx
    subst hx
    exact ⟨[], .nil, by simp⟩
  | r :: rs, xs, hx => by
    simp only [rets] at hx
    split at hx
    case h_2 => cases hx
    rename_i x xs' h1 h2
    simp only [Option.some.injEq] at hx
    subst hx
    obtain ⟨y, hy, hV⟩ := rvar_sound h h1
    obtain ⟨ys, hA, hM⟩ := rets_sound h h2
    refine ⟨y :: ys, .cons hV hA, ?_⟩
    rw [List.mapM_cons, Sem.run_bind, hy]
    simp only [Result.andThen_ok, Sem.run_bind, hM, Sem.run_pure]

theorem results_sound (h : Rel0 B E st a w) {fn : Func} {xs : List AV} (hx : rets P st fn.results.toList = some xs) :
    ∃ y, (results fn a.tmps).run P w = .ok y w ∧ V E st w (retAV xs) y := by
  obtain ⟨ys, hA, hM⟩ := rets_sound h hx
  have hrun : (results fn a.tmps).run P w = .ok (if h : ys.toArray.size = 1 then ys.toArray[0] else .tuple ys.toArray) w := by
    unfold results
    rw [Array.mapM_eq_mapM_toList, Sem.run_bind, Sem.run_map]
    erw [hM]
    rfl
  refine ⟨_, hrun, ?_⟩
  unfold retAV
  split
  · rename_i x
    have hl : ys.length = 1 := by rw [← hA.1]; rfl
    obtain ⟨y, rfl⟩ := List.length_eq_one_iff.1 hl
    exact hA.head
  · rename_i hne
    have hl : ¬ ys.toArray.size = 1 := by
      intro hl
      have : xs.length = 1 := by rw [hA.1]; simpa using hl
      obtain ⟨x, rfl⟩ := List.length_eq_one_iff.1 this
      exact hne x rfl
    rw [dif_neg hl]
    exact .tup (by simpa using hA.1) (fun i hi => by rw [arr_getD]; exact hA.2 i hi)

def lkN : List (Nm × Nm) → Nm → Option Nm
  | [], _ => none
  | p :: r, n => if n = p.1 then some p.2 else lkN r n
def sepN : List (Nm × Nm) → Prop
  | [] => True
  | p :: r => (r.all fun q => decide (q.2 ≠ p.2)) = true ∧ sepN r

theorem lkN_mem : ∀ {l : List (Nm × Nm)} {n k : Nm}, lkN l n = some k → ∃ q ∈ l, q.1 = n ∧ q.2 = k
  | p :: r, n, k, h => by
    simp only [lkN] at h
    split at h
    · rename_i e; cases h; exact ⟨p, List.mem_cons_self .., e.symm, rfl⟩
    · obtain ⟨q, h1, h2⟩ := lkN_mem h
      exact ⟨q, List.mem_cons_of_mem _ h1, h2⟩
theorem lkN_inj : ∀ {l : List (Nm × Nm)}, sepN l → ∀ n m k, lkN l n = some k → lkN l m = some k → n = m
  | [], _, n, m, k, h, _ => by cases h
  | p :: r, hs, n, m, k, h1, h2 => by
    simp only [lkN] at h1 h2
    have hno : ∀ j, lkN r j = some k → k ≠ p.2 := by
      intro j hj
      obtain ⟨q, hq, -, rfl⟩ := lkN_mem hj
      simpa using List.all_eq_true.1 hs.1 q hq
    split at h1 <;> split at h2
    · rename_i e1 e2; exact e1.trans e2.symm
    · cases h1; exact absurd rfl (hno _ h2)
    · cases h2; exact absurd rfl (hno _ h1)
    · exact lkN_inj hs.2 n m k h1 h2

/-- What a function's body must come to: the result, and the object that was handed in; l and m say which names, and which objects, these are. -/
def PostC (P : Program) (fn : Func) (l m : List (Nm × Nm)) (r : AV) (o : Option (List AV)) (s : St) : Prop :=
  sepN l ∧ sepN m ∧ (o.isSome = true → lkN m (0, 1, 0) = some (0, 1, 0)) ∧
  (∃ xs, rets P s fn.results.toList = some xs ∧ Co (lkN l) (lkN m) s (leaveSt r o) (retAV xs) (resSlot r)) ∧
  (∀ cs2, o = some cs2 → ∃ cs, s.ob (0, 1, 0) = some cs ∧ All2P (CoL (lkN l) (lkN m) s (leaveSt r o)) cs (nameC zg 0 1 0 cs2)) ∧
  (∀ cs2, r = .ref cs2 → ∃ n cs, lkN m (0, 0, 0) = some n ∧ s.ob n = some cs ∧ All2P (CoL (lkN l) (lkN m) s (leaveSt r o)) cs (nameC zg 0 0 0 cs2))
def Post (P : Program) (fn : Func) (r : AV) (o : Option (List AV)) : Exit → St → Prop
  | .normal, s => ∃ l m, PostC P fn l m r o s
  | .ret, s => ∃ l m, PostC P fn l m r o s
  | _, _ => False

theorem specAt_of_tri {f : FuncId} {fn : Func} {c : Code} (hf : P.funcs[f]? = some fn) (hb : fn.body = some c) {ys : List AV} {r : AV} {o : Option (List AV)}
    (hN : ys.length ≤ fn.ntmps) (ht : Tri P fn.ntmps (enterSt ys) c (Post P fn r o)) : SpecAt P f ys r o := by
  intro B E args w hBw hTb h hlen
  refine calls_of_wp hf hb ?_
  have h1 := h.frame' (a' := { tmps := args ++ Array.replicate (fn.ntmps - args.size) undef, defers := [] }) (N := fn.ntmps) (fun i => by
    simp only [Array.getD_eq_getD_getElem?]
    by_cases hi : i < args.size
    · rw [Array.getElem?_append_left hi]
    · rw [Array.getElem?_append_right (by omega), Array.getElem?_replicate, Array.getElem?_eq_none (by omega)]
      split <;> rfl) rfl (by simp; omega)
  refine wp_mono (ht { B with N := fn.ntmps } _ w ⟨rfl, hTb⟩ ⟨E, h1⟩) ?_
  rintro e a' w' ⟨s, hq, E', hr⟩
  have fin : (∃ l m, PostC P fn l m r o s) → a'.defers = [] ∧ ∃ v, (results fn a'.tmps).run P w' = .ok v w' ∧
      ∃ y E', Ending.returned v = .returned y ∧ Rel0 { B with N := 1 } E' (leaveSt r o) ⟨#[y], []⟩ w' := by
    rintro ⟨l, m, s1, s2, hp, ⟨xs, hx, hc⟩, ho, hre⟩
    obtain ⟨y, hy, hV⟩ := results_sound hr hx
    refine ⟨hr.defers, y, hy, y, viewE E' (lkN l) (lkN m), rfl, ?_⟩
    refine hr.view (st2 := leaveSt r o) (lkN_inj s1) (lkN_inj s2) (fun hn => hp ?_) (a2 := ⟨#[y], []⟩) (N2 := 1) rfl rfl (fun i => ?_) (fun n2 cs2 hn => ?_)
    · cases o with
      | none => simp [leaveSt] at hn
      | some => rfl
    · cases i with
      | zero => exact ⟨_, hV, hc⟩
      | succ i => exact ⟨.v undef, by
          have : (#[y] : Array Value).getD (i + 1) undef = undef := by simp [Array.getD]
          rw [this]; exact .v _, rfl⟩
    · simp only [leaveSt] at hn
      split at hn
      · rename_i e
        subst e
        cases o with
        | none => cases hn
        | some cs =>
          simp only [Option.map_some, Option.some.injEq] at hn
          subst hn
          obtain ⟨cs', h2, h3⟩ := ho cs rfl
          exact ⟨(0, 1, 0), cs', hp rfl, h2, h3⟩
      · split at hn
        case isFalse => cases hn
        rename_i e
        subst e
        by_cases hrr : isRef r = true
        · obtain ⟨cs, rfl⟩ := isRef_iff.1 hrr
          simp only [Option.some.injEq] at hn
          subst hn
          obtain ⟨n, cs', h1, h2, h3⟩ := hre cs rfl
          exact ⟨n, cs', h1, h2, h3⟩
        · exfalso
          cases r <;> first | (cases hn; done) | exact hrr rfl
  cases e with
  | normal => exact fin hq
  | ret => exact fin hq
  | _ => exact hq.elim

end
end Caw

