import Derived.Test.YtlogglgfpeeheaaCavF
namespace Cav
open Go Go.RowKit

/-! ### What an operation looks at -/
def cls : Op → Nat
  | .load .. => 1
  | .alloc _ => 2
  | .box .. => 2
  | .store .. => 3
  | _ => 0

section
variable {P : Program} {Γ : Ctx}

theorem map_congr' {st st' : St} {l : List Operand} (h : ∀ x ∈ l, ev st x = ev st' x) : l.map (ev st) = l.map (ev st') := List.map_congr_left h

theorem sop_congr {g g' : Operand → Option Value} {op : Op} (h : ∀ x ∈ op.operands, g x = g' x) : sop P g op = sop P g' op := by
  cases op
  case binOp b t x y z => simp only [sop]; rw [h x (by simp [Op.operands]), h y (by simp [Op.operands])]
  case unOp u t x => simp only [sop]; rw [h x (by simp [Op.operands])]
  case convert s d x => simp only [sop]; rw [h x (by simp [Op.operands])]
  case call c =>
    obtain ⟨callee, args, tys⟩ := c
    have ha : ∀ x ∈ args.toList, g x = g' x := fun x hx => h x (by simp only [Op.operands, Call.operands]; exact Array.mem_append_right _ (by simpa using hx))
    simp only [sop]
    split
    · rename_i x y hargs
      rw [ha x (by rw [hargs]; simp), ha y (by rw [hargs]; simp)]
    · rename_i x y hargs
      rw [ha x (by rw [hargs]; simp), ha y (by rw [hargs]; simp)]
    · rfl
  all_goals rfl

theorem dflt_congr {st st' : St} {o : Oper} (hs : ∀ cs b, o.op ≠ .select cs b) (h : ∀ x ∈ o.op.operands, ev st x = ev st' x) (ho : st.ob = st'.ob) :
    dflt P st o = dflt P st' o := by
  have e0 : sop P (fun x => toV (ev st x)) o.op = sop P (fun x => toV (ev st' x)) o.op := sop_congr (fun x hx => by rw [h x hx])
  have e1 : o.op.operands.all (fun x => (toV (ev st x)).isSome) = o.op.operands.all (fun x => (toV (ev st' x)).isSome) := by
    rw [Bool.eq_iff_iff, Array.all_eq_true_iff_forall_mem, Array.all_eq_true_iff_forall_mem]
    exact ⟨fun hh x hx => by rw [← h x hx]; exact hh x hx, fun hh x hx => by rw [h x hx]; exact hh x hx⟩
  have e2 : execOp (fun x => (toV (ev st x)).getD undef) o = execOp (fun x => (toV (ev st' x)).getD undef) o := execOp_congr o hs (fun x hx => by rw [h x hx])
  unfold dflt
  rw [e0, e1, e2, ho]

theorem dflt_zero {sl : Nat → AV} {ob ob' ob1 : Obs} {o : Oper} {x : AV} (h : dflt P ⟨sl, ob⟩ o = some (x, ob1)) : ob1 = ob ∧ dflt P ⟨sl, ob'⟩ o = some (x, ob') := by
  have hev : ev ⟨sl, ob⟩ = ev ⟨sl, ob'⟩ := funext fun y => by cases y <;> rfl
  unfold dflt at h ⊢
  rw [← hev]
  split at h
  · simp only [Option.some.injEq, Prod.mk.injEq] at h
    obtain ⟨rfl, rfl⟩ := h
    exact ⟨rfl, rfl⟩
  split at h
  case isFalse => cases h
  rename_i hall
  rw [if_pos hall]
  split at h
  case h_2 => cases h
  rename_i y hp
  simp only [Option.some.injEq, Prod.mk.injEq] at h
  obtain ⟨rfl, rfl⟩ := h
  exact ⟨rfl, rfl⟩

/-- What an operation yields hangs on its operands, and on the objects. -/
theorem eop_congr {st st' : St} {o : Oper} (h : ∀ x ∈ o.op.operands, ev st x = ev st' x) (hob : st.ob = st'.ob) : eop P Γ st o = eop P Γ st' o := by
  obtain ⟨dst, op, type, pos, after, guard⟩ := o
  simp only at h
  cases op
  case select cs b => simp only [eop]
  case move x => simp only [eop]; rw [h x (by simp [Op.operands]), hob]
  case assign x => simp only [eop]; rw [h x (by simp [Op.operands]), hob]
  case pick c x y => simp only [eop]; rw [h c (by simp [Op.operands]), h x (by simp [Op.operands]), h y (by simp [Op.operands]), hob]
  case alloc t => simp only [eop]; rw [hob]
  case box t x => simp only [eop]; rw [h x (by simp [Op.operands]), hob]
  case load t x => simp only [eop]; rw [h x (by simp [Op.operands]), hob]
  case store t x y => simp only [eop]; rw [h x (by simp [Op.operands]), h y (by simp [Op.operands]), hob]
  case fieldAddr s x f => simp only [eop]; rw [h x (by simp [Op.operands]), hob]
  case indexAddr t x i => simp only [eop]; rw [h x (by simp [Op.operands]), h i (by simp [Op.operands]), hob]
  case call c =>
    obtain ⟨callee, args, argTypes⟩ := c
    have hargs : args.toList.map (ev st) = args.toList.map (ev st') := map_congr' (fun x hx => h x (by simp only [Op.operands, Call.operands]; exact Array.mem_append_right _ (by simpa using hx)))
    cases callee with
    | value f =>
      simp only [eop]
      rw [h f (by simp [Op.operands, Call.operands]), hargs, hob]
    | builtin b =>
      simp only [eop]
      rw [hargs, hob, dflt_congr (o := ⟨dst, .call ⟨.builtin b, args, argTypes⟩, type, pos, after, guard⟩) (by simp) h hob]
    | invoke r m => simp only [eop]
  all_goals
    simp only [eop]
    exact dflt_congr (by simp) h hob

/-- Class 0: the objects do not matter, and stay. -/
theorem eop_zero {sl : Nat → AV} {ob ob' ob1 : Obs} {o : Oper} {x : AV} (hc : cls o.op = 0) (h : eop P Γ ⟨sl, ob⟩ o = some (x, ob1)) : ob1 = ob ∧ eop P Γ ⟨sl, ob'⟩ o = some (x, ob') := by
  have hev : ev ⟨sl, ob⟩ = ev ⟨sl, ob'⟩ := funext fun y => by cases y <;> rfl
  obtain ⟨dst, op, type, pos, after, guard⟩ := o
  cases op
  case load => cases hc
  case alloc => cases hc
  case box => cases hc
  case store => cases hc
  case select => simp only [eop] at h; cases h
  case move y =>
    simp only [eop] at h ⊢
    rw [← hev]
    cases h
    exact ⟨rfl, rfl⟩
  case assign y =>
    simp only [eop] at h ⊢
    rw [← hev]
    cases h
    exact ⟨rfl, rfl⟩
  case pick c y z =>
    simp only [eop] at h ⊢
    rw [← hev]
    split at h
    case h_2 => cases h
    cases h
    exact ⟨rfl, rfl⟩
  case fieldAddr s y f =>
    simp only [eop] at h ⊢
    rw [← hev]
    split at h
    case h_2 => cases h
    split at h
    case h_3 => cases h
    all_goals
      cases h
      exact ⟨rfl, rfl⟩
  case indexAddr t y i =>
    simp only [eop] at h ⊢
    rw [← hev]
    split at h
    case h_2 => cases h
    split at h
    case h_3 => cases h
    · split at h
      case isFalse => cases h
      rename_i hh
      rw [if_pos hh]
      simp only [Option.map_eq_some_iff, Prod.mk.injEq] at h
      obtain ⟨z, hz, rfl, rfl⟩ := h
      rw [hz]
      exact ⟨rfl, rfl⟩
    · split at h
      case h_2 => cases h
      split at h
      case isFalse => cases h
      rename_i hh
      rw [if_pos hh]
      cases h
      exact ⟨rfl, rfl⟩
  case call c =>
    obtain ⟨callee, args, argTypes⟩ := c
    cases callee with
    | value f =>
      simp only [eop] at h ⊢
      rw [← hev]
      split at h
      case h_2 => cases h
      split at h
      case h_2 => cases h
      split at h
      case isFalse => cases h
      rename_i hh
      rw [if_pos hh]
      simp only [Option.map_eq_some_iff, Prod.mk.injEq] at h
      obtain ⟨z, hz, rfl, rfl⟩ := h
      rw [hz]
      exact ⟨rfl, rfl⟩
    | builtin b =>
      simp only [eop] at h ⊢
      rw [← hev]
      split at h
      · cases h
        exact ⟨rfl, rfl⟩
      · exact dflt_zero h
    | invoke r m => simp only [eop] at h; cases h
  all_goals
    simp only [eop] at h ⊢
    exact dflt_zero h

/-- A load hangs on the one object. -/
theorem eop_load {sl : Nat → AV} {ob ob' ob1 : Obs} {o : Oper} {x : AV} {t : TypeId} {y : Operand} (ho : o.op = .load t y) (h : eop P Γ ⟨sl, ob⟩ o = some (x, ob1))
    (hm : ∀ m k, ev ⟨sl, ob⟩ y = .ptr m k → ob' m = ob m) : ob1 = ob ∧ eop P Γ ⟨sl, ob'⟩ o = some (x, ob') ∧ ∀ m k, ev ⟨sl, ob⟩ y = .ptr m k → ob m ≠ none := by
  have eve : ∀ z, ev ⟨sl, ob'⟩ z = ev ⟨sl, ob⟩ z := fun z => by cases z <;> rfl
  unfold eop at h ⊢
  simp only [ho] at h ⊢
  rw [eve]
  cases hy : ev ⟨sl, ob⟩ y with
  | ptr n k =>
    rw [hy] at h
    simp only at h ⊢
    rw [hm n k hy]
    cases hn : ob n with
    | none => rw [hn] at h; cases h
    | some cs =>
      rw [hn] at h
      simp only [Option.map_eq_some_iff, Prod.mk.injEq] at h
      obtain ⟨z, hz, rfl, rfl⟩ := h
      refine ⟨rfl, by simp only [hz, Option.map_some], ?_⟩
      intro m k' e
      injection e with e1 e2
      rw [← e1, hn]; simp
  | rptr z k =>
    rw [hy] at h
    simp only [Option.map_eq_some_iff, Prod.mk.injEq] at h
    obtain ⟨z, hz, rfl, rfl⟩ := h
    exact ⟨rfl, by simp only [hz, Option.map_some], fun m k' e => by cases e⟩
  | _ => rw [hy] at h; cases h

/-- An object is made. -/
theorem eop_new {sl : Nat → AV} {ob ob1 : Obs} {o : Oper} {x : AV} (hc : cls o.op = 2) (h : eop P Γ ⟨sl, ob⟩ o = some (x, ob1)) :
    ∃ d c, o.dst = some d ∧ ob d = none ∧ ob1 = setF ob d (some c) ∧ ∀ ob', ob' d = none → eop P Γ ⟨sl, ob'⟩ o = some (x, setF ob' d (some c)) := by
  have eve : ∀ ob' z, ev ⟨sl, ob'⟩ z = ev ⟨sl, ob⟩ z := fun _ z => by cases z <;> rfl
  obtain ⟨dst, op, type, pos, after, guard⟩ := o
  cases op
  case alloc t =>
    simp only [eop] at h ⊢
    split at h
    case h_2 => cases h
    rename_i d z hz
    split at h
    case isFalse => cases h
    rename_i hn
    simp only [Option.some.injEq, Prod.mk.injEq] at h
    obtain ⟨rfl, rfl⟩ := h
    exact ⟨d, _, rfl, by simpa using hn, rfl, fun ob' hn' => by simp [hn']⟩
  case box t y =>
    simp only [eop] at h ⊢
    split at h
    case h_2 => cases h
    rename_i d
    split at h
    case isFalse => cases h
    rename_i hn
    simp only [Bool.and_eq_true] at hn
    simp only [Option.some.injEq, Prod.mk.injEq] at h
    obtain ⟨rfl, rfl⟩ := h
    exact ⟨d, _, rfl, by simpa using hn.1, rfl, fun ob' hn' => by simp [eve ob', hn', hn.2]⟩
  all_goals cases hc

end
end Cav
