import Derived.Test.YtlogglgfpeeheaaCavI
import Derived.Deep.LoopGhost
namespace Cav
open Go Go.RowKit

/-! ### Code -/
noncomputable def eregion (P : Program) (Γ : Ctx) (N : Nat) (ops : Array Oper) (st : St) : Option St := erun P Γ N ops (List.range ops.size) st

/-- From any frame and world that the abstract state describes, the code comes to an exit and to an abstract state of which Q holds. -/
def Tri (P : Program) (N : Nat) (st : St) (c : Code) (Q : Exit → St → Prop) : Prop :=
  ∀ fo w0 a w, Rel fo w0 N st a w → c.wp P (fun e a' w' => ∃ st', Q e st' ∧ Rel fo w0 N st' a' w') a w

/-- Less is known. -/
def Le (N : Nat) (st st' : St) : Prop := ∀ fo w0 a w, Rel fo w0 N st a w → Rel fo w0 N st' a w

def Then (next : St → Prop) (Q : Exit → St → Prop) : Exit → St → Prop
  | .normal, s => next s
  | e, s => Q e s
def InBlock (id : Nat) (Q : Exit → St → Prop) : Exit → St → Prop
  | .exit id', s => if id' = id then Q .normal s else Q (.exit id') s
  | e, s => Q e s

section
variable {P : Program} {Γ : Ctx} {fo : Nat → Prop} {w0 w w' : World} {N : Nat} {ρ : Nat → Nat} {st st' sf : St} {a : Act} {ops : Array Oper} {Q : Exit → St → Prop}

theorem ops_sound (hΓ : GOk P Γ) {K : Exit → Act → World → Prop} (hQ : ∀ a w, Rel fo w0 N sf a w → K .normal a w) : ∀ (l : List Nat) (st : St) (a : Act) (w : World),
    Rel fo w0 N st a w → erun P Γ N ops l st = some sf → wpOps P ops K l a w
  | [], st, a, w, hr, he => by
    simp only [erun, Option.some.injEq] at he
    subst he
    exact hQ a w hr
  | i :: r, st, a, w, hr, he => by
    simp only [erun] at he
    simp only [wpOps]
    cases hi : ops[i]? with
    | none => rw [hi] at he; exact ops_sound hΓ hQ r st a w hr he
    | some o =>
      rw [hi] at he
      simp only at he ⊢
      cases hs : estep P Γ N ops st o with
      | none => rw [hs] at he; cases he
      | some s1 =>
        rw [hs] at he
        have h1 := estep_sound hΓ hr hs K
        unfold wpStep at h1
        split
        · rename_i hw
          rw [if_pos hw] at h1
          exact .inl (Oper.wp_mono (fun a' w' hr' => ops_sound hΓ hQ r s1 a' w' hr' he) h1)
        · rename_i hw
          rw [if_neg hw] at h1
          exact ops_sound hΓ hQ r s1 _ _ h1 he

theorem Rel.drew (h : Rel fo w0 N st a w) : Rel fo w0 N st a { w with drawn := w.drawn + 1 } := by
  obtain ⟨ρ, h⟩ := h
  exact ⟨ρ, h.grow (below_drew' w)⟩

theorem filter_all (n : Nat) : (List.range n).filter (fun i => !(Array.replicate n false).getD i true) = List.range n := by
  rw [List.filter_eq_self]
  intro i hi
  have := List.mem_range.1 hi
  simp [Array.getD, this]

theorem tri_region (hΓ : GOk P Γ) {id : Nat} {draw : Bool} (hd : draw = true → P.follows .mixedOrders = true ∧ regOk ops = true) (he : eregion P Γ N ops st = some sf) (hq : Q .normal sf) :
    Tri P N st (.region id ops draw) Q := by
  intro fo w0 a w hr
  cases draw with
  | false => exact wp_region (ops_sound hΓ (fun a w hr' => ⟨sf, hq, hr'⟩) _ st a w hr he)
  | true =>
    obtain ⟨hm, hreg⟩ := hd rfl
    refine wp_region_any hm (any_sound hΓ hreg (fun a w hr' => ⟨sf, hq, hr'⟩) ops.size _ st a _ (by simp) (fun k o _ hl => by simp [Array.getD] at hl) ?_ hr.drew ?_)
    · rw [filter_all]; simp
    · rw [filter_all]; exact he

theorem tri_skip (h : Q .normal st) : Tri P N st .skip Q := fun _ _ _ _ hr => wp_skip ⟨st, h, hr⟩
theorem tri_ret (h : Q .ret st) : Tri P N st .ret Q := fun _ _ _ _ hr => wp_ret ⟨st, h, hr⟩
theorem tri_exit {id : Nat} (h : Q (.exit id) st) : Tri P N st (.exit id) Q := fun _ _ _ _ hr => wp_exit ⟨st, h, hr⟩
theorem tri_label {l : Nat} (h : Q .normal st) : Tri P N st (.label l) Q := fun _ _ _ _ hr => wp_label ⟨st, h, hr⟩
theorem tri_seq {x y : Code} (h : Tri P N st x (Then (fun s => Tri P N s y Q) Q)) : Tri P N st (.seq x y) Q := by
  intro fo w0 a w hr
  refine wp_seq (wp_mono (h fo w0 a w hr) ?_)
  rintro e a' w' ⟨s, hq, hr'⟩
  cases e with
  | normal => exact hq fo w0 a' w' hr'
  | _ => exact ⟨s, hq, hr'⟩
theorem tri_cond {c : Operand} {x y : Code} {b : Bool} (hc : ev st c = .v (.bool b)) (h1 : b = true → Tri P N st x Q) (h2 : b = false → Tri P N st y Q) : Tri P N st (.cond c x y) Q := by
  intro fo w0 a w hr
  have hr' := hr
  obtain ⟨ρ, h⟩ := hr'
  have he := ev_rel h c
  rw [hc] at he
  exact wp_cond_split (V_v he) (fun hb => h1 hb fo w0 a w hr) (fun hb => h2 hb fo w0 a w hr)
theorem tri_block {id : Nat} {c : Code} (h : Tri P N st c (InBlock id Q)) : Tri P N st (.block id c) Q := by
  intro fo w0 a w hr
  refine wp_block (wp_mono (h fo w0 a w hr) ?_)
  rintro e a' w' ⟨s, hq, hr'⟩
  cases e with
  | exit id' =>
    simp only [InBlock] at hq
    simp only [Exit.inBlock]
    split
    · rename_i hid; rw [if_pos hid] at hq; exact ⟨s, hq, hr'⟩
    · rename_i hid; rw [if_neg hid] at hq; exact ⟨s, hq, hr'⟩
  | _ => exact ⟨s, hq, hr'⟩
theorem tri_weak (hl : Le N st st') {c : Code} (h : Tri P N st' c Q) : Tri P N st c Q := fun fo w0 a w hr => h fo w0 a w (hl fo w0 a w hr)
theorem tri_mono {c : Code} {Q' : Exit → St → Prop} (h : Tri P N st c Q) (hq : ∀ e s, Q e s → Q' e s) : Tri P N st c Q' :=
  fun fo w0 a w hr => wp_mono (h fo w0 a w hr) fun e _ _ ⟨s, q, r⟩ => ⟨s, hq e s q, r⟩

/-- A loop: J n is what holds at a round's head, n a number that every round lowers. -/
theorem tri_loop {c : Code} (J : Nat → St → Prop) (n0 : Nat) (s0 : St) (hl : Le N st s0) (h0 : J n0 s0)
    (round : ∀ n s, J n s → Tri P N s c (Then (fun s' => ∃ n' s'', n' < n ∧ Le N s' s'' ∧ J n' s'') Q)) : Tri P N st (.loop c) Q := by
  intro fo w0 a w hr
  refine wp_loop_ghost (fun n a w => ∃ s, J n s ∧ Rel fo w0 N s a w) n0 ⟨s0, h0, hl _ _ _ _ hr⟩ ?_
  rintro n a w ⟨s, hj, hr'⟩
  refine wp_mono (round n s hj fo w0 a w hr') ?_
  rintro e a' w' ⟨s', hq, hr2⟩
  cases e with
  | normal =>
    obtain ⟨n', s'', hlt, hle, hj'⟩ := hq
    exact ⟨n', hlt, s'', hj', hle _ _ _ _ hr2⟩
  | _ => exact ⟨s', hq, hr2⟩

/-! ### A function -/
def rvar (P : Program) (st : St) : ResultVar → Option AV
  | .tmp t => some (st.sl t)
  | .cell x t => match st.sl x with
    | .ptr n k => match st.ob n with
      | some cs => ldc P t cs k
      | none => none
    | _ => none
def rets (P : Program) (st : St) : List ResultVar → Option (List AV)
  | [] => some []
  | r :: rs => match rvar P st r, rets P st rs with
    | some x, some xs => some (x :: xs)
    | _, _ => none
def retAV : List AV → AV
  | [x] => x
  | xs => .tup xs

theorem run_mapM (w : World) {f : ResultVar → Sem Value} : ∀ {l : List ResultVar} {ys : List Value}, l.length = ys.length →
    (∀ i (hi : i < l.length), (f l[i]).run P w = .ok (ys.getD i undef) w) → (l.mapM f).run P w = .ok ys w
  | [], [], _, _ => by simp
  | [], _ :: _, hl, _ => by simp at hl
  | _ :: _, [], hl, _ => by simp at hl
  | r :: rs, y :: ys, hl, h => by
    have h0 : (f r).run P w = .ok y w := h 0 (Nat.zero_lt_succ _)
    have ih := run_mapM w (f := f) (l := rs) (ys := ys) (by simpa using hl) (fun i hi => h (i + 1) (Nat.succ_lt_succ hi))
    simp [List.mapM_cons, h0, ih]

theorem rvar_sound (h : Rel0 fo w0 N ρ st a w) {r : ResultVar} {x : AV} (hx : rvar P st r = some x) :
    ∃ y, (match r with
      | .tmp t => pure (a.tmps.getD t undef)
      | .cell p t => do loadVar t (← asAddr (a.tmps.getD p undef)) : Sem Value).run P w = .ok y w ∧ V st.ob ρ w (okB fo st.ob ρ) x y := by
  cases r with
  | tmp t =>
    simp only [rvar, Option.some.injEq] at hx
    subst hx
    exact ⟨_, rfl, h.sl t⟩
  | cell p t =>
    simp only [rvar] at hx
    split at hx
    case h_2 => cases hx
    rename_i n k hp
    split at hx
    case h_2 => cases hx
    rename_i cs hn
    have hs := h.sl p
    rw [hp] at hs
    obtain ⟨vs, e, hh, hr, hc⟩ := row_all2 h hn
    obtain ⟨y, hy, hR⟩ := ldc_sound (off := 0) hr hc hx
    refine ⟨y, ?_, hR⟩
    simp only [Instr.loadAt, Instr.sureAddr, Sem.run_bind, Sem.run_pure, Result.andThen_ok, Nat.zero_add] at hy
    simp only [(V_ptr hs).1, asAddr, Sem.run_bind, Sem.run_pure, Result.andThen_ok]
    exact hy

theorem rets_sound (h : Rel0 fo w0 N ρ st a w) : ∀ {rs : List ResultVar} {xs : List AV}, rets P st rs = some xs →
    ∃ ys : List Value, All2 (V st.ob ρ w (okB fo st.ob ρ)) xs ys ∧ (rs.mapM (fun r => (match r with
      | .tmp t => pure (a.tmps.getD t undef)
      | .cell p t => do loadVar t (← asAddr (a.tmps.getD p undef)) : Sem Value))).run P w = .ok ys w
  | [], xs, hx => by
    simp only [rets, Option.some.injEq] at hx
    subst hx
    exact ⟨[], .nil, by simp⟩
  | r :: rs, xs, hx => by
    simp only [rets] at hx
    split at hx
    case h_2 => cases hx
    rename_i x xs' h1 h2
    simp only [Option.some.injEq] at hx
    subst hx
    obtain ⟨y, hy, hV⟩ := rvar_sound h h1
    obtain ⟨ys, hA, hM⟩ := rets_sound h h2
    refine ⟨y :: ys, .cons hV hA, ?_⟩
    rw [List.mapM_cons, Sem.run_bind, hy]
    simp only [Result.andThen_ok, Sem.run_bind, hM, Sem.run_pure]

theorem results_sound (h : Rel0 fo w0 N ρ st a w) {fn : Func} {xs : List AV} (hx : rets P st fn.results.toList = some xs) :
    ∃ y, (results fn a.tmps).run P w = .ok y w ∧ V st.ob ρ w (okB fo st.ob ρ) (retAV xs) y := by
  obtain ⟨ys, hA, hM⟩ := rets_sound h hx
  have hrun : (results fn a.tmps).run P w = .ok (if h : ys.toArray.size = 1 then ys.toArray[0] else .tuple ys.toArray) w := by
    unfold results
    rw [Array.mapM_eq_mapM_toList, Sem.run_bind, Sem.run_map]
    erw [hM]
    rfl
  refine ⟨_, hrun, ?_⟩
  unfold retAV
  split
  · rename_i x
    have hl : ys.length = 1 := by rw [← hA.1]; rfl
    obtain ⟨y, rfl⟩ := List.length_eq_one_iff.1 hl
    exact hA.head
  · rename_i hne
    have hl : ¬ ys.toArray.size = 1 := by
      intro hl
      have : xs.length = 1 := by rw [hA.1]; simpa using hl
      obtain ⟨x, rfl⟩ := List.length_eq_one_iff.1 this
      exact hne x rfl
    rw [dif_neg hl]
    exact .tup (by simpa using hA.1) (fun i hi => by rw [arr_getD]; exact hA.2 i hi)

/-- The state in which a call begins. -/
def enter (xs : List AV) : St := ⟨fun i => xs.getD i (.v undef), fun _ => none⟩

/-- What a function's body must come to. -/
def Post (P : Program) (fn : Func) (r : AV) : Exit → St → Prop
  | .normal, s => ∃ xs, rets P s fn.results.toList = some xs ∧ retAV xs = r ∧ pureR r = true
  | .ret, s => ∃ xs, rets P s fn.results.toList = some xs ∧ retAV xs = r ∧ pureR r = true
  | _, _ => False
where pureR : AV → Bool
  | .tup xs => xs.all isPure
  | x => isPure x

theorem pureR_PV {ob : Obs} {ok : Nat → Prop} {x : AV} {y : Value} (h : V ob ρ w ok x y) (hx : Post.pureR x = true) : PV w ok x y := by
  cases h with
  | pure h => exact h
  | tup hl h => exact .tup hl (fun i hi => pure_PV (h i hi) (List.all_eq_true.1 hx _ (List.getElem_mem hi)))
  | agg hl h => exact pure_PV (.agg hl h) hx
  | _ => cases hx

theorem spec_of_tri {f : FuncId} {fn : Func} {c : Code} {F : Fun} (hf : P.funcs[f]? = some fn) (hb : fn.body = some c)
    (h : ∀ xs r, F xs = some r → xs.length ≤ fn.ntmps ∧ Tri P fn.ntmps (enter xs) c (Post P fn r)) : Spec P f F := by
  intro ok w xs ys r hF hxs
  obtain ⟨hN, ht⟩ := h xs r hF
  have hlen : ys.size = xs.length := by simpa using hxs.1.symm
  refine calls_of_wp hf hb ?_
  have hrel : Rel (fun b => ok b ∨ w.heap.size ≤ b) w fn.ntmps (enter xs) { tmps := ys ++ Array.replicate (fn.ntmps - ys.size) undef, defers := [] } w := by
    refine ⟨fun _ => 0, ?_⟩
    refine ⟨fun i => ?_, ?_, ?_, ?_, Below.refl _ _, rfl, ?_, fun b hb => .inr hb⟩
    · simp only [enter]
      by_cases hi : i < xs.length
      · have e1 : xs.getD i (.v undef) = xs[i] := by simp [hi]
        have e2 : (ys ++ Array.replicate (fn.ntmps - ys.size) undef).getD i undef = ys.toList.getD i undef := by
          rw [← arr_getD]
          simp only [Array.getD_eq_getD_getElem?]
          rw [Array.getElem?_append_left (by omega)]
        rw [e1, e2]
        exact .pure ((hxs.2 i hi).mono ⟨Nat.le_refl _, fun _ _ _ => rfl⟩ (fun b hb _ => ⟨.inl hb, fun n hn => absurd rfl hn⟩))
      · have e1 : xs.getD i (.v undef) = .v undef := by simp [Nat.le_of_not_lt hi]
        have e2 : (ys ++ Array.replicate (fn.ntmps - ys.size) undef).getD i undef = undef := by
          simp only [Array.getD_eq_getD_getElem?]
          rw [Array.getElem?_append_right (by omega), Array.getElem?_replicate]
          split <;> rfl
        rw [e1, e2]
        exact .pure (.v _)
    · intro n cs hn; cases hn
    · intro n m hn; exact absurd rfl hn
    · intro n hn; exact absurd rfl hn
    · simp; omega
  refine wp_mono (ht _ _ _ _ hrel) ?_
  rintro e a' w' ⟨s, hq, ρ, hr⟩
  have fin : (∃ xs, rets P s fn.results.toList = some xs ∧ retAV xs = r ∧ Post.pureR r = true) → a'.defers = [] ∧ ∃ v, (results fn a'.tmps).run P w' = .ok v w' ∧
      ∃ y, Ending.returned v = .returned y ∧ Below w.heap.size w w' ∧ PV w' (fun b => ok b ∨ w.heap.size ≤ b) r y := by
    rintro ⟨xs', hx, rfl, hp⟩
    obtain ⟨y, hy, hV⟩ := results_sound hr hx
    refine ⟨hr.defers, y, hy, y, rfl, hr.below, ?_⟩
    exact (pureR_PV hV hp).mono ⟨Nat.le_refl _, fun _ _ _ => rfl⟩ (fun b hb _ => hb.1)
  cases e with
  | normal => exact fin hq
  | ret => exact fin hq
  | _ => exact hq.elim

end
end Cav
