import Derived.Test.YtlogglgfpeeheaaCavJ
namespace Cav
open Go Go.RowKit

/-! ### Regions by their operations, and what is kept of the state -/
noncomputable def erunL (P : Program) (Γ : Ctx) (N : Nat) (ops : Array Oper) : List Oper → St → Option St
  | [], st => some st
  | o :: r, st => match estep P Γ N ops st o with
    | some st' => erunL P Γ N ops r st'
    | none => none

def lk : List (Nat × AV) → Nat → AV
  | [], _ => .dead
  | p :: r, i => if i = p.1 then p.2 else lk r i
def lo : List (Nat × List AV) → Obs
  | [], _ => none
  | p :: r, i => if i = p.1 then some p.2 else lo r i
def mkSt (ss : List (Nat × AV)) (oo : List (Nat × List AV)) : St := ⟨lk ss, lo oo⟩

def leafRef (M : List Nat) : AV → Bool
  | .ptr n _ => M.contains n
  | .agg _ => false
  | .tup _ => false
  | _ => true
def aggRef (M : List Nat) : AV → Bool
  | .agg cs => cs.all (leafRef M)
  | x => leafRef M x
def refsOk (M : List Nat) : AV → Bool
  | .tup cs => cs.all (aggRef M)
  | x => aggRef M x
def obOk (M : List Nat) : Option (List AV) → Bool
  | some cs => cs.all (leafRef M)
  | none => false

def keep (L M : List Nat) (s : St) : Option St :=
  if L.all (fun i => refsOk M (s.sl i)) && M.all (fun n => obOk M (s.ob n)) then some (mkSt (L.map fun i => (i, s.sl i)) (M.map fun n => (n, (s.ob n).getD []))) else none

noncomputable def ereg (P : Program) (Γ : Ctx) (N : Nat) (ops : Array Oper) (L M : List Nat) (st : St) : Option St :=
  match erunL P Γ N ops ops.toList st with
  | some s => keep L M s
  | none => none

section
variable {P : Program} {Γ : Ctx} {fo : Nat → Prop} {w0 w w' : World} {N : Nat} {ρ : Nat → Nat} {st st' sf : St} {a : Act} {ops : Array Oper} {Q : Exit → St → Prop}

theorem erun_eq : ∀ (l : List Oper) (k : Nat) (st : St), (∀ i, i < l.length → ops[k + i]? = l[i]?) → erun P Γ N ops (List.range' k l.length) st = erunL P Γ N ops l st
  | [], k, st, _ => by simp [erun, erunL]
  | o :: r, k, st, h => by
    have h0 : ops[k]? = some o := h 0 (Nat.zero_lt_succ _)
    simp only [List.length_cons, List.range'_succ, erun, h0, erunL]
    cases estep P Γ N ops st o with
    | none => rfl
    | some s1 => exact erun_eq r (k + 1) s1 (fun i hi => by have := h (i + 1) (Nat.succ_lt_succ hi); rw [show k + 1 + i = k + (i + 1) by omega]; exact this)

theorem eregion_eq (st : St) : eregion P Γ N ops st = erunL P Γ N ops ops.toList st := by
  unfold eregion
  have := erun_eq (P := P) (Γ := Γ) (N := N) (ops := ops) ops.toList 0 st (fun i hi => by simp)
  rw [← this, List.range_eq_range']
  simp

theorem V_keep {ob ob' : Obs} {M : List Nat} (hob : ∀ n, M.contains n = true → ob n ≠ none → ob' n ≠ none) (hsub : ∀ n, ob' n ≠ none → ob n ≠ none) {x : AV} {y : Value} :
    V ob ρ w (okB fo ob ρ) x y → refsOk M x = true → V ob' ρ w (okB fo ob' ρ) x y := by
  have hok : ∀ b, okB fo ob ρ b → b < w.heap.size → okB fo ob' ρ b := fun b hb _ => ⟨hb.1, fun n hn => hb.2 n (hsub n hn)⟩
  have hk : Keeps (okB fo ob ρ) w w := ⟨Nat.le_refl _, fun _ _ _ => rfl⟩
  have leaf : ∀ {x : AV} {y : Value}, V ob ρ w (okB fo ob ρ) x y → leafRef M x = true → V ob' ρ w (okB fo ob' ρ) x y := by
    intro x y h hx
    cases h with
    | dead => exact .dead _
    | pure h => exact .pure (h.mono hk hok)
    | agg => cases hx
    | tup => cases hx
    | ptr h => exact .ptr (hob _ hx h)
    | rptr cells hb hlt h hc => exact .rptr cells (hok _ hb hlt) hlt (fun j hj => (h j hj).mono hk hok) hc
  have agg : ∀ {x : AV} {y : Value}, V ob ρ w (okB fo ob ρ) x y → aggRef M x = true → V ob' ρ w (okB fo ob' ρ) x y := by
    intro x y h hx
    cases h with
    | agg hl h => exact .agg hl (fun i hi => leaf (h i hi) (List.all_eq_true.1 hx _ (List.getElem_mem hi)))
    | pure h => exact .pure (h.mono hk hok)
    | dead => exact .dead _
    | tup => cases hx
    | ptr h => exact leaf (.ptr h) hx
    | rptr cells hb hlt h hc => exact leaf (.rptr cells hb hlt h hc) hx
  intro h hx
  cases h with
  | tup hl h => exact .tup hl (fun i hi => agg (h i hi) (List.all_eq_true.1 hx _ (List.getElem_mem hi)))
  | pure h => exact .pure (h.mono hk hok)
  | dead => exact .dead _
  | agg hl h => exact agg (.agg hl h) hx
  | ptr h => exact agg (.ptr h) hx
  | rptr cells hb hlt h hc => exact agg (.rptr cells hb hlt h hc) hx

theorem lk_map (s : Nat → AV) : ∀ (L : List Nat) (i : Nat), lk (L.map fun j => (j, s j)) i = if L.contains i then s i else .dead
  | [], i => by simp [lk]
  | j :: r, i => by
    simp only [List.map_cons, lk, lk_map s r i, List.contains_cons]
    by_cases h : i = j
    · simp [h]
    · simp [h]
theorem lo_map (s : Obs) : ∀ (M : List Nat) (n : Nat), (∀ m ∈ M, (s m).isSome = true) → lo (M.map fun j => (j, (s j).getD [])) n = if M.contains n then s n else none
  | [], n, _ => by simp [lo]
  | j :: r, n, h => by
    simp only [List.map_cons, lo, lo_map s r n (fun m hm => h m (List.mem_cons_of_mem _ hm)), List.contains_cons]
    by_cases hn : n = j
    · have := h j (List.mem_cons_self ..)
      obtain ⟨x, hx⟩ := Option.isSome_iff_exists.1 this
      simp [hn, hx]
    · simp [hn]

theorem keep_le {L M : List Nat} (h : keep L M st = some sf) : Le N st sf := by
  unfold keep at h
  split at h
  case isFalse => cases h
  rename_i hc
  simp only [Bool.and_eq_true] at hc
  simp only [Option.some.injEq] at h
  subst h
  obtain ⟨h1, h2⟩ := hc
  have hM : ∀ m ∈ M, (st.ob m).isSome = true := fun m hm => by
    have := List.all_eq_true.1 h2 m hm
    cases hq : st.ob m with
    | none => rw [hq] at this; cases this
    | some => rfl
  have hsl : ∀ i, (mkSt (L.map fun i => (i, st.sl i)) (M.map fun n => (n, (st.ob n).getD []))).sl i = if L.contains i then st.sl i else .dead := fun i => lk_map st.sl L i
  have hob : ∀ n, (mkSt (L.map fun i => (i, st.sl i)) (M.map fun n => (n, (st.ob n).getD []))).ob n = if M.contains n then st.ob n else none := fun n => lo_map st.ob M n hM
  generalize mkSt (L.map fun i => (i, st.sl i)) (M.map fun n => (n, (st.ob n).getD [])) = sf at *
  have k1 : ∀ n, M.contains n = true → st.ob n ≠ none → sf.ob n ≠ none := fun n hn hx => by rw [hob, if_pos hn]; exact hx
  have k2 : ∀ n, sf.ob n ≠ none → st.ob n ≠ none := fun n hn => by
    rw [hob] at hn
    split at hn
    · exact hn
    · exact absurd rfl hn
  rintro fo w0 a w ⟨ρ, hr⟩
  refine ⟨ρ, fun i => ?_, fun n cs hn => ?_, fun n m hn hm he => hr.inj n m (k2 n hn) (k2 m hm) he, fun n hn => hr.base n (k2 n hn), hr.below, hr.defers, hr.size, hr.fo⟩
  · rw [hsl]
    split
    · rename_i hi
      exact V_keep k1 k2 (hr.sl i) (List.all_eq_true.1 h1 i (List.contains_iff_mem.1 hi))
    · exact .dead _
  · rw [hob] at hn
    split at hn
    case isFalse => cases hn
    rename_i hi
    obtain ⟨vs, e, hh, hl, hv⟩ := hr.ob n cs hn
    have h3 := List.all_eq_true.1 h2 n (List.contains_iff_mem.1 hi)
    rw [hn] at h3
    refine ⟨vs, e, hh, hl, fun i hi2 => V_keep k1 k2 (hv i hi2) ?_⟩
    have h4 := List.all_eq_true.1 h3 _ (List.getElem_mem hi2)
    cases hc : cs[i] <;> rw [hc] at h4 <;> first | exact h4 | cases h4

theorem tri_reg (L M : List Nat) (hΓ : GOk P Γ) {id : Nat} {draw : Bool} (hd : draw = true → P.follows .mixedOrders = true ∧ regOk ops = true) (he : ereg P Γ N ops L M st = some sf) (hq : Q .normal sf) :
    Tri P N st (.region id ops draw) Q := by
  unfold ereg at he
  split at he
  case h_2 => cases he
  rename_i s hs
  have h1 : Tri P N st (.region id ops draw) (fun e s' => e = .normal ∧ s' = s) := tri_region hΓ hd (by rw [eregion_eq]; exact hs) ⟨rfl, rfl⟩
  intro fo w0 a w hr
  refine wp_mono (h1 fo w0 a w hr) ?_
  rintro e a' w' ⟨s', ⟨rfl, rfl⟩, hr'⟩
  exact ⟨sf, hq, keep_le he fo w0 a' w' hr'⟩

end
end Cav
