import Derived.Test.YtlogglgfpeeheaaCavC
namespace Cav
open Go Go.RowKit

def putSt (st : St) (dst : Option Nat) (x : AV) (ob : Obs) : St :=
  ⟨match dst with
    | some d => setF st.sl d x
    | none => st.sl, ob⟩

section
variable {P : Program} {Γ : Ctx} {fo : Nat → Prop} {w0 w w' : World} {N : Nat} {ρ : Nat → Nat} {st : St} {a : Act}

theorem ev_rel (h : Rel0 fo w0 N ρ st a w) (x : Operand) : V st.ob ρ w (okB fo st.ob ρ) (ev st x) (a.eval x) := by
  cases x with
  | tmp t => exact h.sl t
  | const v => exact .pure (.v _)
  | global g => exact .pure (.v _)
  | func f => exact .pure (.v _)

theorem Rel0.putSt (h : Rel0 fo w0 N ρ st a w) {dst : Option Nat} (hd : ∀ d, dst = some d → d < N) {x : AV} {y : Value} (hx : V st.ob ρ w (okB fo st.ob ρ) x y) :
    Rel0 fo w0 N ρ (putSt st dst x st.ob) (a.put dst y) w := by
  cases dst with
  | none => exact h
  | some d => exact h.put (hd d rfl) hx

theorem wp_value {o : Oper} {K : Act → World → Prop} {Q : Exit → Act → World → Prop} {v : Value} (h : (execOp a.eval o).run P w = .ok (.value v) w') (hk : K (a.put o.dst v) w') : o.wp P a w K Q := by
  unfold Oper.wp; rw [h]; exact hk
theorem wp_skip' {o : Oper} {K : Act → World → Prop} {Q : Exit → Act → World → Prop} (h : (execOp a.eval o).run P w = .ok .skip w') (hk : K (a.put o.dst undef) w') : o.wp P a w K Q := by
  unfold Oper.wp; rw [h]; exact hk

theorem run_equal_bool {t : TypeId} (hu : P.underlying t = some .bool) (p q : Bool) : (Op.equal t (.bool p) (.bool q)).run P w = .ok (p == q) w := by
  have h : ∀ d, (Op.equalIn (d + 1) t (.bool p) (.bool q)).run P w = .ok (p == q) w := by
    intro d
    simp only [Op.equalIn, Sem.run_bind, run_underlying hu w, Result.andThen_ok]
    rfl
  exact h 9999

theorem sop_sound {o : Oper} {g : Operand → Option Value} (hg : ∀ x u, g x = some u → a.eval x = u) {v : Value} (hv : sop P g o.op = some v) : (execOp a.eval o).run P w = .ok (.value v) w := by
  unfold sop at hv
  unfold execOp
  split at hv
  · rename_i b t x y z ho
    split at hv
    case h_2 => cases hv
    rename_i u v' hu hv'
    simp only [ho, hg x u hu, hg y v' hv']
    unfold sbin at hv
    split at hv
    · rename_i k p k' q
      split at hv
      · rename_i hs
        unfold ishift at hv
        split at hv
        case isTrue => cases hv
        rename_i hneg
        cases b <;> simp only [isShift, Bool.false_eq_true] at hs <;> simp only [Option.some.injEq] at hv <;> subst hv <;> simp [eqGuard, binOp, Op.shift, hneg]
      · rename_i hs
        split at hv
        case isFalse => cases hv
        rename_i hk
        subst hk
        cases b <;> simp only [isShift, not_true_eq_false] at hs <;> simp only [ibin] at hv
        case quo =>
          split at hv
          case isTrue => cases hv
          rename_i h0
          cases hv
          simp [eqGuard, binOp, Op.intDiv, h0]
        case rem =>
          split at hv
          case isTrue => cases hv
          rename_i h0
          cases hv
          simp [eqGuard, binOp, Op.intDiv, h0]
        all_goals first
          | (cases hv; done)
          | (simp only [Option.some.injEq] at hv; subst hv; simp [eqGuard, binOp, Op.intArith, Op.intBits, Op.intCmp]; done)
    · rename_i p q
      split at hv
      case isFalse => cases hv
      rename_i hb
      unfold isBoolT at hb
      split at hb
      case h_2 => cases hb
      rename_i hu2
      split at hv
      · cases hv
        simp [eqGuard, binOp, run_equal_bool hu2]
      · cases hv
        simp [eqGuard, binOp, run_equal_bool hu2]
      · cases hv
    · rename_i p q
      split at hv
      · cases hv
        simp [eqGuard, binOp, Op.stringOp]
      · cases hv
        simp [eqGuard, binOp, Op.stringOp]
      · cases hv
    · cases hv
  · rename_i u t x ho
    split at hv
    case h_2 => cases hv
    rename_i v' hv'
    simp only [ho, hg x v' hv']
    unfold sun at hv
    split at hv
    · cases hv; simp [Op.unary]
    · cases hv; simp [Op.unary, Op.intArith]
    · cases hv
  · rename_i s d x ho
    split at hv
    case h_2 => cases hv
    rename_i v' hv'
    simp only [ho, hg x v' hv']
    unfold sconv at hv
    split at hv
    case h_2 => cases hv
    rename_i k n
    split at hv
    case isFalse => cases hv
    rename_i hs
    obtain ⟨ds, hds⟩ := Option.isSome_iff_exists.1 hs
    unfold intT at hv
    split at hv
    case h_2 => cases hv
    rename_i k2 hd2
    simp only [Option.map_some, Option.some.injEq] at hv
    subst hv
    simp [convert, run_underlying hds, run_underlying hd2, Conv.intToInt]
  · rename_i c ho
    obtain ⟨callee, args, tys⟩ := c
    simp only at hv
    split at hv
    · rename_i x y hargs
      obtain rfl : args = #[x, y] := by rw [← Array.toArray_toList (xs := args), hargs]
      split at hv
      case h_2 => cases hv
      rename_i u v' hu hv'
      unfold smin at hv
      split at hv
      case h_2 => cases hv
      cases hv
      simp [ho, resolve, invoke, builtin, Builtin.min_, Builtin.min2, hg x _ hu, hg y _ hv']
    · rename_i x y hargs
      obtain rfl : args = #[x, y] := by rw [← Array.toArray_toList (xs := args), hargs]
      split at hv
      case h_2 => cases hv
      rename_i u v' hu hv'
      unfold smax at hv
      split at hv
      case h_2 => cases hv
      cases hv
      simp [ho, resolve, invoke, builtin, Builtin.max_, Builtin.max2, hg x _ hu, hg y _ hv']
    · cases hv
  · cases hv

/-- An operation that asks nothing of the world, on values that share nothing. -/
theorem dflt_sound (h : Rel0 fo w0 N ρ st a w) {o : Oper} {x : AV} {ob' : Obs} (hs : ∀ cs b, o.op ≠ .select cs b)
    (he : dflt P st o = some (x, ob')) (hd : ∀ d, o.dst = some d → d < N) (Q : Exit → Act → World → Prop) :
    o.wp P a w (fun a' w' => Rel fo w0 N (Cav.putSt st o.dst x ob') a' w') Q := by
  unfold dflt at he
  split at he
  · rename_i v hv
    simp only [Option.some.injEq, Prod.mk.injEq] at he
    obtain ⟨rfl, rfl⟩ := he
    refine wp_value (v := v) (w' := w) (sop_sound (fun x u hu => ?_) hv) ⟨ρ, h.putSt hd (.pure (.v _))⟩
    have h2 := ev_rel h x
    cases hq : ev st x with
    | v z =>
      rw [hq] at h2 hu
      simp only [toV, Option.some.injEq] at hu
      subst hu
      exact V_v h2
    | _ => rw [hq] at hu; cases hu
  split at he
  case isFalse => cases he
  rename_i hall
  have hev : ∀ y ∈ o.op.operands, a.eval y = (toV (ev st y)).getD undef := by
    intro y hy
    have h1 := Array.all_eq_true_iff_forall_mem.1 hall y hy
    have h2 := ev_rel h y
    cases hv : ev st y with
    | v z => rw [hv] at h2; rw [V_v h2]; rfl
    | _ => rw [hv] at h1; cases h1
  have hc : execOp a.eval o = execOp (fun y => (toV (ev st y)).getD undef) o := execOp_congr o hs hev
  split at he
  case h_2 => cases he
  rename_i y hp
  simp only [Option.some.injEq, Prod.mk.injEq] at he
  obtain ⟨rfl, rfl⟩ := he
  refine wp_value (v := y) (w' := w) (by rw [hc]; exact pev_run hp w) ⟨ρ, ?_⟩
  exact h.putSt hd (.pure (.v _))

theorem V_all2 {x : AV} {y : Value} {ob : Obs} {ok : Nat → Prop} (h : V ob ρ w ok x y) (hx : x ≠ .dead) : All2 (V ob ρ w ok) (flat x) y.cells.toList := by
  have := V_flat h hx
  exact ⟨by simpa using this.1, fun i hi => by rw [← arr_getD]; exact this.2 i hi⟩

/-- What is loaded out of a row. -/
theorem ldc_sound {ob : Obs} {ok : Nat → Prop} {t : TypeId} {cs : List AV} {vs : List Value} {k b off : Nat} {x : AV} (hr : All2 (V ob ρ w ok) cs vs)
    (hc : ∀ j v, vs[j]? = some v → w.cell? ⟨b, off + j, none⟩ = some v) (he : ldc P t cs k = some x) :
    ∃ y, (Instr.loadAt t (.pointer (some ⟨b, off + k, none⟩))).run P w = .ok y w ∧ V ob ρ w ok x y := by
  unfold ldc at he
  split at he
  · cases he
  · rename_i sz hrow
    unfold rowT at hrow
    split at hrow
    case h_2 => cases hrow
    rename_i d sz' hu hs
    simp only [Option.some.injEq, Prod.mk.injEq] at hrow
    obtain ⟨hd, rfl⟩ := hrow
    split at he
    case isFalse => cases he
    rename_i hle
    simp only [Option.some.injEq] at he
    subst he
    have hlen : ((vs.drop k).take sz').length = sz' := by have := hr.1; simp; omega
    have hrange : w.rangeAt b (off + k) ((vs.drop k).take sz') := by
      intro j v hj
      rw [List.getElem?_take] at hj
      split at hj
      · rw [List.getElem?_drop] at hj
        have := hc _ _ hj
        rwa [← Nat.add_assoc] at this
      · cases hj
    refine ⟨_, run_loadAt_mid w b (off + k) t _ d hrange hu hd (by rw [hlen]; exact hs), ?_⟩
    have h2 := (hr.drop k).take sz'
    exact V_mkAgg h2.1 h2.2
  · rename_i sz hrow
    unfold rowT at hrow
    split at hrow
    case h_2 => cases hrow
    rename_i d sz' hu hs
    simp only [Option.some.injEq, Prod.mk.injEq] at hrow
    obtain ⟨hd, rfl⟩ := hrow
    obtain ⟨v, hv, hR⟩ := hr.get he
    refine ⟨v, ?_, hR⟩
    have hcell := hc _ _ hv
    have hagg : (isAgg t).run P w = .ok false w := by
      unfold isAgg
      rw [Sem.run_bind, run_underlying hu w]
      cases d <;> simp_all
    simp only [Instr.loadAt, Instr.sureAddr, Sem.run_bind, Sem.run_pure, Result.andThen_ok, loadVar, hagg]
    simp [load, Sem.run, hcell]

theorem row_all2 (h : Rel0 fo w0 N ρ st a w) {n : Nat} {cs : List AV} (hn : st.ob n = some cs) :
    ∃ vs : Array Value, ∃ e : TypeId, w.heap[ρ n]? = some (.cells vs e (0, 0)) ∧ All2 (V st.ob ρ w (okB fo st.ob ρ)) cs vs.toList ∧ ∀ j v, vs.toList[j]? = some v → w.cell? ⟨ρ n, 0 + j, none⟩ = some v := by
  obtain ⟨vs, e, hh, hl, hv⟩ := h.ob n cs hn
  refine ⟨vs, e, hh, ⟨by simpa using hl, fun i hi => by rw [← arr_getD]; exact hv i hi⟩, fun j v hj => ?_⟩
  rw [Array.getElem?_toList] at hj
  simp [World.cell?, hh, hj]

theorem leaf_one {ob : Obs} {ok : Nat → Prop} {x : AV} {y : Value} (h : V ob ρ w ok x y) (hx : leafOk x = true) : y.oneCell' = true := by
  cases h with
  | dead => cases hx
  | pure h => cases h with
    | v => exact hx
    | agg => cases hx
    | tup => cases hx
    | nil => rfl
    | sl => rfl
  | agg => cases hx
  | tup => cases hx
  | ptr => rfl
  | rptr => rfl

end
end Cav
