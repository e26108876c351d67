import Derived.Test.YtljlhooodbfpiaaGreatDoorK1
import Derived.Laws.MakeOwn
import Derived.Laws.CopyRow
import Derived.Lib.SlBytesRow
import Derived.Lib.ConvBytes
set_option linter.all false
namespace Caw
open Go Go.RowKit

def putSt (st : St) (dst : Option Nat) (x : AV) : St :=
  { st with sl := match dst with
    | some d => setF st.sl d x
    | none => st.sl }

section
variable {P : Program} {Γ : Ctx} {B : Base} {w w' : World} {E : Env} {st : St} {a : Act}

theorem ev_rel (h : Rel0 B E st a w) (x : Operand) : V E st w (ev st x) (a.eval x) := by
  cases x with
  | tmp t => exact h.sl t
  | const v => exact .v _
  | global g => exact .v _
  | func f => exact .v _

theorem Rel0.putSt (h : Rel0 B E st a w) {dst : Option Nat} (hd : ∀ d, dst = some d → d < B.N) {x : AV} {y : Value} (hx : V E st w x y) :
    Rel0 B E (putSt st dst x) (a.put dst y) w := by
  cases dst with
  | none => exact h
  | some d => exact h.put (hd d rfl) hx

theorem wp_value {o : Oper} {K : Act → World → Prop} {Q : Exit → Act → World → Prop} {v : Value} (h : (execOp a.eval o).run P w = .ok (.value v) w') (hk : K (a.put o.dst v) w') : o.wp P a w K Q := by
  unfold Oper.wp; rw [h]; exact hk
theorem wp_skip' {o : Oper} {K : Act → World → Prop} {Q : Exit → Act → World → Prop} (h : (execOp a.eval o).run P w = .ok .skip w') (hk : K (a.put o.dst undef) w') : o.wp P a w K Q := by
  unfold Oper.wp; rw [h]; exact hk

theorem run_equal_bool {t : TypeId} (hu : P.underlying t = some .bool) (p q : Bool) : (Op.equal t (.bool p) (.bool q)).run P w = .ok (p == q) w := by
  have h : ∀ d, (Op.equalIn (d + 1) t (.bool p) (.bool q)).run P w = .ok (p == q) w := by
    intro d
    simp only [Op.equalIn, Sem.run_bind, run_underlying hu w, Result.andThen_ok]
    rfl
  exact h 9999

theorem sop_sound {o : Oper} {g : Operand → Option Value} (hg : ∀ x u, g x = some u → a.eval x = u) {v : Value} (hv : sop P g o.op = some v) : (execOp a.eval o).run P w = .ok (.value v) w := by
  unfold sop at hv
  unfold execOp
  split at hv
  · rename_i b t x y z ho
    split at hv
    case h_2 => cases hv
    rename_i u v' hu hv'
    simp only [ho, hg x u hu, hg y v' hv']
    unfold sbin at hv
    split at hv
    · rename_i k p k' q
      split at hv
      · rename_i hs
        unfold ishift at hv
        split at hv
        case isTrue => cases hv
        rename_i hneg
        cases b <;> simp only [isShift, Bool.false_eq_true] at hs <;> simp only [Option.some.injEq] at hv <;> subst hv <;> simp [eqGuard, binOp, Op.shift, hneg]
      · rename_i hs
        split at hv
        case isFalse => cases hv
        rename_i hk
        subst hk
        cases b <;> simp only [isShift, not_true_eq_false] at hs <;> simp only [ibin] at hv
        case quo =>
          split at hv
          case isTrue => cases hv
          rename_i h0
          cases hv
          simp [eqGuard, binOp, Op.intDiv, h0]
        case rem =>
          split at hv
          case isTrue => cases hv
          rename_i h0
          cases hv
          simp [eqGuard, binOp, Op.intDiv, h0]
        all_goals first
          | (cases hv; done)
          | (simp only [Option.some.injEq] at hv; subst hv; simp [eqGuard, binOp, Op.intArith, Op.intBits, Op.intCmp, bAnd, bOr, bXor, bAndNot]; done)
    · rename_i p q
      split at hv
      case isFalse => cases hv
      rename_i hb
      unfold isBoolT at hb
      split at hb
      case h_2 => cases hb
      rename_i hu2
      split at hv
      · cases hv
        simp [eqGuard, binOp, run_equal_bool hu2]
      · cases hv
        simp [eqGuard, binOp, run_equal_bool hu2]
      · cases hv
    · rename_i p q
      split at hv
      · split at hv
        case isFalse => cases hv
        rename_i hsz
        cases hv
        have hm : ¬ (((p.size + q.size : Nat) : Int) > IntKind.i64.max) := by
          have : IntKind.i64.max = 9223372036854775807 := by decide
          omega
        simp only [eqGuard, binOp, Op.stringOp, hm, if_false]
        simp
      · cases hv
        simp [eqGuard, binOp, Op.stringOp]
      · cases hv
        simp [eqGuard, binOp, Op.stringOp]
      · cases hv
    · cases hv
  · rename_i u t x ho
    split at hv
    case h_2 => cases hv
    rename_i v' hv'
    simp only [ho, hg x v' hv']
    unfold sun at hv
    split at hv
    · cases hv; simp [Op.unary]
    · cases hv; simp [Op.unary, Op.intArith]
    · cases hv; simp [Op.unary, Op.intBits, bXor]
    · cases hv
  · rename_i s d x ho
    split at hv
    case h_2 => cases hv
    rename_i v' hv'
    simp only [ho, hg x v' hv']
    unfold sconv at hv
    split at hv
    case h_2 => cases hv
    rename_i k n
    split at hv
    case isFalse => cases hv
    rename_i hs
    obtain ⟨ds, hds⟩ := Option.isSome_iff_exists.1 hs
    unfold intT at hv
    split at hv
    case h_2 => cases hv
    rename_i k2 hd2
    simp only [Option.map_some, Option.some.injEq] at hv
    subst hv
    simp [convert, run_underlying hds, run_underlying hd2, Conv.intToInt]
  · rename_i c ho
    obtain ⟨callee, args, tys⟩ := c
    simp only at hv
    split at hv
    · rename_i x y hargs
      obtain rfl : args = #[x, y] := by rw [← Array.toArray_toList (xs := args), hargs]
      split at hv
      case h_2 => cases hv
      rename_i u v' hu hv'
      unfold smin at hv
      split at hv
      case h_2 => cases hv
      cases hv
      simp [ho, resolve, invoke, builtin, Builtin.min_, Builtin.min2, hg x _ hu, hg y _ hv']
    · rename_i x y z hargs
      obtain rfl : args = #[x, y, z] := by rw [← Array.toArray_toList (xs := args), hargs]
      split at hv
      case h_2 => cases hv
      rename_i u v' q hu hv' hq
      rw [Option.bind_eq_some_iff] at hv
      obtain ⟨m, hm, hv⟩ := hv
      unfold smin at hm hv
      split at hm
      case h_2 => cases hm
      cases hm
      split at hv
      case h_2 => cases hv
      rename_i heq
      simp only [Value.int.injEq] at heq
      obtain ⟨rfl, rfl⟩ := heq
      cases hv
      simp [ho, resolve, invoke, builtin, Builtin.min_, Builtin.min2, hg x _ hu, hg y _ hv', hg z _ hq]
    · rename_i x y hargs
      obtain rfl : args = #[x, y] := by rw [← Array.toArray_toList (xs := args), hargs]
      split at hv
      case h_2 => cases hv
      rename_i u v' hu hv'
      unfold smax at hv
      split at hv
      case h_2 => cases hv
      cases hv
      simp [ho, resolve, invoke, builtin, Builtin.max_, Builtin.max2, hg x _ hu, hg y _ hv']
    · cases hv
  · cases hv

/-- An operation that asks nothing of the world, on values that share nothing. -/
theorem dflt_sound (h : Rel0 B E st a w) {o : Oper} {x : AV} {st' : St} (hs : ∀ cs b, o.op ≠ .select cs b)
    (he : dflt P st o = some (x, st')) (hd : ∀ d, o.dst = some d → d < B.N) (Q : Exit → Act → World → Prop) :
    o.wp P a w (fun a' w' => Rel B (Caw.putSt st' o.dst x) a' w') Q := by
  unfold dflt at he
  split at he
  · rename_i v hv
    simp only [Option.some.injEq, Prod.mk.injEq] at he
    obtain ⟨rfl, rfl⟩ := he
    refine wp_value (v := v) (w' := w) (sop_sound (fun x u hu => ?_) hv) ⟨E, h.putSt hd (.v _)⟩
    have h2 := ev_rel h x
    cases hq : ev st x with
    | v z =>
      rw [hq] at h2 hu
      simp only [toV, Option.some.injEq] at hu
      subst hu
      exact V_v h2
    | _ => rw [hq] at hu; cases hu
  split at he
  case isFalse => cases he
  rename_i hall
  have hev : ∀ y ∈ o.op.operands, a.eval y = (toV (ev st y)).getD undef := by
    intro y hy
    have h1 := Array.all_eq_true_iff_forall_mem.1 hall y hy
    have h2 := ev_rel h y
    cases hv : ev st y with
    | v z => rw [hv] at h2; rw [V_v h2]; rfl
    | _ => rw [hv] at h1; cases h1
  have hc : execOp a.eval o = execOp (fun y => (toV (ev st y)).getD undef) o := execOp_congr o hs hev
  split at he
  case h_2 => cases he
  rename_i y hp
  simp only [Option.some.injEq, Prod.mk.injEq] at he
  obtain ⟨rfl, rfl⟩ := he
  refine wp_value (v := y) (w' := w) (by rw [hc]; exact prun_run hp w) ⟨E, ?_⟩
  exact h.putSt hd (.v _)

theorem V_all2 {x : AV} {y : Value} (h : V E st w x y) (hx : x ≠ .dead) : All2 (V E st w) (flat x) y.cells.toList := by
  have := V_flat h hx
  exact ⟨by simpa using this.1, fun i hi => by rw [← arr_getD]; exact this.2 i hi⟩

/-- What is loaded out of a row. -/
theorem ldc_sound {t : TypeId} {cs : List AV} {vs : List Value} {k b off : Nat} {x : AV} (hr : All2 (V E st w) cs vs)
    (hc : ∀ j v, vs[j]? = some v → w.cell? ⟨b, off + j, none⟩ = some v) (he : ldc P t cs k = some x) :
    ∃ y, (Instr.loadAt t (.pointer (some ⟨b, off + k, none⟩))).run P w = .ok y w ∧ V E st w x y := by
  unfold ldc at he
  split at he
  · cases he
  · rename_i sz hrow
    unfold rowT at hrow
    split at hrow
    case h_2 => cases hrow
    rename_i d sz' hu hs
    simp only [Option.some.injEq, Prod.mk.injEq] at hrow
    obtain ⟨hd, rfl⟩ := hrow
    split at he
    case isFalse => cases he
    rename_i hle
    simp only [Option.some.injEq] at he
    subst he
    have hlen : ((vs.drop k).take sz').length = sz' := by have := hr.1; simp; omega
    have hrange : w.rangeAt b (off + k) ((vs.drop k).take sz') := by
      intro j v hj
      rw [List.getElem?_take] at hj
      split at hj
      · rw [List.getElem?_drop] at hj
        have := hc _ _ hj
        rwa [← Nat.add_assoc] at this
      · cases hj
    refine ⟨_, run_loadAt_mid w b (off + k) t _ d hrange hu hd (by rw [hlen]; exact hs), ?_⟩
    have h2 := (hr.drop k).take sz'
    exact V_mkAgg h2.1 h2.2
  · rename_i sz hrow
    unfold rowT at hrow
    split at hrow
    case h_2 => cases hrow
    rename_i d sz' hu hs
    simp only [Option.some.injEq, Prod.mk.injEq] at hrow
    obtain ⟨hd, rfl⟩ := hrow
    obtain ⟨v, hv, hR⟩ := hr.get he
    refine ⟨v, ?_, hR⟩
    have hcell := hc _ _ hv
    have hagg : (isAgg t).run P w = .ok false w := by
      unfold isAgg
      rw [Sem.run_bind, run_underlying hu w]
      cases d <;> simp_all
    simp only [Instr.loadAt, Instr.sureAddr, Sem.run_bind, Sem.run_pure, Result.andThen_ok, loadVar, hagg]
    simp [load, Sem.run, hcell]

theorem row_all2 (h : Rel0 B E st a w) {n : Nm} {cs : List AV} (hn : st.ob n = some cs) :
    ∃ vs : Array Value, ∃ e : TypeId, w.heap[E.ρ n]? = some (.cells vs e (0, 0)) ∧ cs.length ≤ vs.size ∧ All2 (V E st w) cs (vs.toList.take cs.length) ∧ ∀ j v, (vs.toList.take cs.length)[j]? = some v → w.cell? ⟨E.ρ n, 0 + j, none⟩ = some v := by
  obtain ⟨vs, e, hh, hl, hv⟩ := h.ob n cs hn
  refine ⟨vs, e, hh, hl, ⟨by simp; omega, fun i hi => ?_⟩, fun j v hj => ?_⟩
  · have := hv i hi
    rw [arr_getD] at this
    have e1 : (vs.toList.take cs.length).getD i undef = vs.toList.getD i undef := by simp [List.getD, List.getElem?_take, hi]
    rw [e1]; exact this
  · rw [List.getElem?_take] at hj
    split at hj
    · rw [Array.getElem?_toList] at hj
      simp [World.cell?, hh, hj]
    · cases hj

theorem V_leaf_one {x : AV} {y : Value} (h : V E st w x y) (hx : leafOk x = true) : y.oneCell' = true := by
  cases h with
  | dead => cases hx
  | v => exact hx
  | agg => cases hx
  | tup => cases hx
  | sl h => cases h <;> rfl
  | fn hl h => rfl
  | ptr => rfl
  | rptr => rfl
  | osl => rfl
  | own => rfl

end
end Caw

namespace Caw
open Go Go.RowKit

section
variable {P : Program} {B : Base} {w w' : World} {E : Env} {st : St} {a : Act}

theorem leaf_PV {x : AV} {y : Value} (h : V E st w x y) (hx : leafP x = true) : PV w E.pr x y := by
  cases h with
  | v => exact .v _
  | sl h => exact h
  | _ => cases hx

theorem pure_PV {x : AV} {y : Value} (h : V E st w x y) (hx : isPure x = true) : PV w E.pr x y := by
  cases h with
  | v => exact .v _
  | sl h => exact h
  | agg hl h => exact .agg hl (fun i hi => leaf_PV (h i hi) (List.all_eq_true.1 hx _ (List.getElem_mem hi)))
  | _ => cases hx

theorem V_ptr {n : Nm} {k : Nat} {y : Value} (h : V E st w (.ptr n k) y) : y = .pointer (some ⟨E.ρ n, k, none⟩) ∧ st.ob n ≠ none := by
  cases h with
  | ptr h => exact ⟨rfl, h⟩

/-- A new variable in memory. -/
theorem new_sound (h : Rel0 B E st a w) {o : Oper} {d : Nat} (ho : o.dst = some d) (hd : d < B.N) (hn : st.ob (nmOf d 0) = none) {t : TypeId} {x : AV} {y : Value}
    (hx : V E st w x y) (hlive : x ≠ .dead)
    (hrun : (execOp a.eval o).run P w = .ok (.value (.pointer (some ⟨w.heap.size, 0, none⟩))) (w.alloc (.cells y.cells t))) (Q : Exit → Act → World → Prop) :
    o.wp P a w (fun a' w' => Rel B (putSt { st with ob := setF st.ob (nmOf d 0) (some (flat x)) } o.dst (.ptr (nmOf d 0) 0)) a' w') Q := by
  have hf := V_flat hx hlive
  have h1 := h.alloc hn (by simp [nmOf]) (vs := y.cells) t (Nat.le_of_eq hf.1) hf.2
  refine wp_value hrun ⟨{ E with ρ := setF E.ρ (nmOf d 0) w.heap.size }, ?_⟩
  have e : (Value.pointer (some ⟨w.heap.size, 0, none⟩)) = .pointer (some ⟨setF E.ρ (nmOf d 0) w.heap.size (nmOf d 0), 0, none⟩) := by simp [setF]
  rw [e, ho]
  exact h1.put (x := .ptr (nmOf d 0) 0) hd (V.ptr (by simp [setF]))

theorem flat_store {x : AV} {y : Value} (h : V E st w x y) (hx : (flat x).all leafOk = true) : x ≠ .dead ∧ ∀ v ∈ y.cells.toList, v.oneCell' = true := by
  have hd : x ≠ .dead := by rintro rfl; simp [flat, leafOk] at hx
  refine ⟨hd, fun v hv => ?_⟩
  obtain ⟨c, hc, hR⟩ := (V_all2 h hd).mem hv
  exact V_leaf_one hR (List.all_eq_true.1 hx c hc)

theorem sizeT_run {t : TypeId} {s : Nat} (hs : sizeT P t = some s) (w : World) : (Go.sizeOf t).run P w = .ok s w := by
  unfold sizeT at hs
  cases hq : P.info? t with
  | none => rw [hq] at hs; cases hs
  | some i => rw [hq] at hs; simp only [Option.map_some, Option.some.injEq] at hs; simp [Go.sizeOf, typeInfo, hq, hs]

/-- The object n with cells 'ys' from cell k on: what the frame and the world come to. -/
theorem Rel0.write (h : Rel0 B E st a w) {n : Nm} {k : Nat} {cs xs : List AV} {ys : List Value} (hn : st.ob n = some cs) (hk : k + xs.length ≤ cs.length) (hx : All2 (V E st w) xs ys) :
    ∃ (vs : Array Value) (e : TypeId), w.heap[E.ρ n]? = some (.cells vs e (0, 0)) ∧ cs.length ≤ vs.size ∧
      Rel0 B E { st with ob := setF st.ob n (some (cs.take k ++ xs ++ cs.drop (k + xs.length))) } a (w.setRow (E.ρ n) (vs.toList.take k ++ ys ++ vs.toList.drop (k + ys.length)).toArray) := by
  obtain ⟨vs, e, hh, hle, hr, _⟩ := row_all2 h hn
  refine ⟨vs, e, hh, hle, ?_⟩
  have hyl : ys.length = xs.length := hx.1.symm
  have hnew : All2 (V E st w) (cs.take k ++ xs ++ cs.drop (k + xs.length)) ((vs.toList.take cs.length).take k ++ ys ++ (vs.toList.take cs.length).drop (k + xs.length)) :=
    ((hr.take k).append hx).append (hr.drop _)
  have e0 : vs.toList.length = vs.size := by simp
  have e1 : (vs.toList.take k ++ ys ++ vs.toList.drop (k + ys.length)) = ((vs.toList.take cs.length).take k ++ ys ++ (vs.toList.take cs.length).drop (k + xs.length)) ++ vs.toList.drop cs.length := by
    rw [List.take_take, Nat.min_eq_left (by omega), hyl, List.append_assoc, List.append_assoc, List.append_assoc]
    congr 2
    conv => lhs; rw [← List.take_append_drop cs.length vs.toList]
    rw [List.drop_append_of_le_length (by simp; omega)]
  have hln : (cs.take k ++ xs ++ cs.drop (k + xs.length)).length = cs.length := by simp; omega
  refine h.store hn hh ?_ ?_ (fun i hi => ?_)
  · simp; omega
  · rw [hln]; simp; omega
  · rw [arr_getD, e1]
    have h2 := hnew.2 i hi
    have hi2 : i < ((vs.toList.take cs.length).take k ++ ys ++ (vs.toList.take cs.length).drop (k + xs.length)).length := hnew.1 ▸ hi
    have e2 : ((((vs.toList.take cs.length).take k ++ ys ++ (vs.toList.take cs.length).drop (k + xs.length)) ++ vs.toList.drop cs.length).toArray.toList.getD i undef) = ((vs.toList.take cs.length).take k ++ ys ++ (vs.toList.take cs.length).drop (k + xs.length)).getD i undef := by
      simp only [List.getD]
      rw [List.getElem?_append_left hi2]
    rw [e2]; exact h2

theorem store_sound (h : Rel0 B E st a w) {o : Oper} {t : TypeId} {p y : Operand} (ho : o.op = .store t p y) {n : Nm} {k sz : Nat} {cs : List AV} (hp : ev st p = .ptr n k) (hn : st.ob n = some cs)
    (hsz : sizeT P t = some sz) (hl : (flat (ev st y)).length = sz) (hk : k + sz ≤ cs.length) (hok : (flat (ev st y)).all leafOk = true) (hd : ∀ d, o.dst = some d → d < B.N) (Q : Exit → Act → World → Prop) :
    o.wp P a w (fun a' w' => Rel B (putSt { st with ob := setF st.ob n (some (cs.take k ++ flat (ev st y) ++ cs.drop (k + sz))) } o.dst (.v undef)) a' w') Q := by
  have hy := ev_rel h y
  obtain ⟨hdead, hone⟩ := flat_store hy hok
  have hy2 := V_all2 hy hdead
  obtain ⟨vs, e, hh, hle, h1⟩ := h.write hn (k := k) (by rw [hl]; exact hk) hy2
  have hpe : a.eval p = .pointer (some ⟨E.ρ n, k, none⟩) := by
    have := ev_rel h p
    rw [hp] at this
    exact (V_ptr this).1
  have hlen : (a.eval y).cells.toList.length = sz := by rw [← hy2.1]; exact hl
  have hst := run_storeCells_at P (E.ρ n) k e (a.eval y).cells.toList 0 vs w hh (by omega) hone
  rw [Nat.add_zero] at hst
  have hsize := sizeT_run hsz w
  have hrun : (execOp a.eval o).run P w = .ok .skip (w.setRow (E.ρ n) (vs.toList.take k ++ (a.eval y).cells.toList ++ vs.toList.drop (k + (a.eval y).cells.toList.length)).toArray) := by
    have e1 : (a.eval y).cells.size = sz := by simpa using hlen
    unfold execOp
    simp only [ho, hpe, Instr.storeAt, Instr.sureAddr, Sem.run_bind, Sem.run_pure, Result.andThen_ok, storeVar, hsize, e1]
    simp only [ne_eq, not_true_eq_false, if_false]
    rw [hst]
    rfl
  refine wp_skip' hrun ⟨E, ?_⟩
  rw [hl] at h1
  exact h1.putSt (dst := o.dst) hd (.v _)

end
end Caw

namespace Caw
open Go Go.RowKit

section
variable {P : Program} {B : Base} {w w' : World} {E : Env} {st : St} {a : Act}

/-- Where an operation only yields a value. -/
theorem wp_yield (h : Rel0 B E st a w) {o : Oper} {x : AV} {y : Value} (hrun : (execOp a.eval o).run P w = .ok (.value y) w) (hv : V E st w x y) (hd : ∀ d, o.dst = some d → d < B.N) (Q : Exit → Act → World → Prop) :
    o.wp P a w (fun a' w' => Rel B (putSt st o.dst x) a' w') Q := wp_value hrun ⟨E, h.putSt hd hv⟩

theorem PV_strip {pr : Pr} {x : AV} {y : Value} (h : PV w pr x y) : V E st w (strip x) y ∨ E.pr ≠ pr := by
  by_cases hp : E.pr = pr
  · left
    subst hp
    cases h with
    | v => exact .v _
    | agg => exact .dead _
    | tup => exact .dead _
    | nil => exact .sl (.nil _ _) (fun n g hn => by cases hn)
    | sl cells hle hs hpr h hc => exact .sl (.sl cells hle hs hpr h hc) (fun n g hn => by cases hn)
  · exact .inr hp

theorem V_strip {x : AV} {y : Value} (h : PV w E.pr x y) : V E st w (strip x) y := by
  rcases PV_strip (st := st) (E := E) h with h | h
  · exact h
  · exact absurd rfl h

theorem load_sound (h : Rel0 B E st a w) {o : Oper} {t : TypeId} {p : Operand} (ho : o.op = .load t p) {x : AV} (he : eload P st t (ev st p) = some x) (hd : ∀ d, o.dst = some d → d < B.N) (Q : Exit → Act → World → Prop) :
    o.wp P a w (fun a' w' => Rel B (putSt st o.dst x) a' w') Q := by
  have hp := ev_rel h p
  have fin : ∀ y, (Instr.loadAt t (a.eval p)).run P w = .ok y w → V E st w x y → o.wp P a w (fun a' w' => Rel B (putSt st o.dst x) a' w') Q := by
    intro y hy hv
    refine wp_yield h (y := y) ?_ hv hd Q
    unfold execOp
    simp only [ho, Sem.run_bind, hy, Result.andThen_ok, Sem.run_pure]
  unfold eload at he
  cases hv : ev st p with
  | ptr n k =>
    rw [hv] at he hp
    simp only at he
    cases hn : st.ob n with
    | none => rw [hn] at he; cases he
    | some cs =>
      rw [hn] at he
      simp only at he
      obtain ⟨vs, e, hh, hle, hr, hc⟩ := row_all2 h hn
      obtain ⟨y, hy, hR⟩ := ldc_sound (off := 0) hr hc he
      have hpe : a.eval p = .pointer (some ⟨E.ρ n, k, none⟩) := (V_ptr hp).1
      exact fin y (by rw [hpe]; simpa using hy) hR
  | rptr z k =>
    rw [hv] at he hp
    simp only at he
    generalize hval : a.eval p = val at hp
    cases hp with
    | rptr cells hpr hh hc =>
      rename_i b off
      have hr : All2 (V E st w) ((flat z).map strip) ((List.range (flat z).length).map cells) := by
        refine ⟨by simp, fun i hi => ?_⟩
        have hi' : i < (flat z).length := by simpa using hi
        have e : ((List.range (flat z).length).map cells).getD i undef = cells i := by simp [hi']
        rw [e, List.getElem_map]
        exact V_strip (hh i hi')
      obtain ⟨y, hy, hR⟩ := ldc_sound (b := b) (off := off) hr (fun j v hj => by
        rw [List.getElem?_map] at hj
        by_cases hlt : j < (flat z).length
        · simp [hlt] at hj; rw [← hj]; exact hc j hlt
        · rw [List.getElem?_eq_none (by simpa using hlt)] at hj; cases hj) he
      exact fin y (by rw [hval]; exact hy) hR
  | _ => rw [hv] at he; cases he

theorem fieldAddr_sound (h : Rel0 B E st a w) {o : Oper} {s : TypeId} {p : Operand} {f : Nat} (ho : o.op = .fieldAddr s p f) {x : AV} (he : efield P s f (ev st p) = some x) (hd : ∀ d, o.dst = some d → d < B.N) (Q : Exit → Act → World → Prop) :
    o.wp P a w (fun a' w' => Rel B (putSt st o.dst x) a' w') Q := by
  have hp := ev_rel h p
  have hrun : ∀ (off b k : Nat), fieldOff P s f = some off → (Instr.fieldAt s (.pointer (some ⟨b, k, none⟩)) f).run P w = .ok (.pointer (some ⟨b, k + off, none⟩)) w := by
    intro off b k hoff
    unfold fieldOff at hoff
    cases hu : P.underlying s with
    | none => rw [hu] at hoff; cases hoff
    | some d =>
      cases d with
      | struct fs =>
        rw [hu] at hoff
        simp only at hoff
        cases hfd : fs[f]? with
        | none => rw [hfd] at hoff; cases hoff
        | some fd =>
          rw [hfd] at hoff
          simp only at hoff
          cases hs : sizeT P fd.type with
          | none => rw [hs] at hoff; cases hoff
          | some m =>
            cases m with
            | zero => rw [hs] at hoff; cases hoff
            | succ m =>
              rw [hs] at hoff
              simp only [Option.some.injEq] at hoff
              subst hoff
              unfold sizeT at hs
              cases hq : P.info? fd.type with
              | none => rw [hq] at hs; cases hs
              | some i =>
                rw [hq] at hs
                simp only [Option.map_some, Option.some.injEq] at hs
                simp [Instr.fieldAt, run_underlying hu, hfd, Instr.sureAddr, fieldPlace, Go.sizeOf, typeInfo, hq, hs, Addr.add_mid]
      | _ => rw [hu] at hoff; cases hoff
  have fin : ∀ y, (Instr.fieldAt s (a.eval p) f).run P w = .ok y w → V E st w x y → o.wp P a w (fun a' w' => Rel B (putSt st o.dst x) a' w') Q := by
    intro y hy hv
    refine wp_yield h (y := y) ?_ hv hd Q
    unfold execOp
    simp only [ho, Sem.run_bind, hy, Result.andThen_ok, Sem.run_pure]
  generalize hval : a.eval p = val at hp fin
  unfold efield at he
  cases hv : ev st p with
  | ptr n k =>
    rw [hv] at he hp
    simp only [Option.map_eq_some_iff] at he
    obtain ⟨off, hoff, rfl⟩ := he
    cases hp with
    | ptr hn => exact fin _ (hrun _ _ _ hoff) (.ptr hn)
  | rptr z k =>
    rw [hv] at he hp
    simp only [Option.map_eq_some_iff] at he
    obtain ⟨off, hoff, rfl⟩ := he
    cases hp with
    | rptr cells hb hh hc => exact fin _ (hrun _ _ _ hoff) (by rw [Nat.add_assoc]; exact .rptr cells hb hh hc)
  | _ => rw [hv] at he; cases he

theorem move_sound (h : Rel0 B E st a w) {o : Oper} {y : Operand} (ho : o.op = .move y ∨ o.op = .assign y) (hd : ∀ d, o.dst = some d → d < B.N) (Q : Exit → Act → World → Prop) :
    o.wp P a w (fun a' w' => Rel B (putSt st o.dst (ev st y)) a' w') Q := by
  refine wp_yield h (y := a.eval y) ?_ (ev_rel h y) hd Q
  unfold execOp
  rcases ho with ho | ho <;> simp only [ho] <;> rfl

theorem pick_sound (h : Rel0 B E st a w) {o : Oper} {c x y : Operand} (ho : o.op = .pick c x y) {t : Bool} (hc : ev st c = .v (.bool t)) (hd : ∀ d, o.dst = some d → d < B.N) (Q : Exit → Act → World → Prop) :
    o.wp P a w (fun a' w' => Rel B (putSt st o.dst (if t then ev st x else ev st y)) a' w') Q := by
  have hce : a.eval c = .bool t := by have := ev_rel h c; rw [hc] at this; exact V_v this
  refine wp_yield h (y := if t then a.eval x else a.eval y) ?_ ?_ hd Q
  · unfold execOp
    simp only [ho, hce, asBool, Sem.run_bind, Sem.run_pure, Result.andThen_ok]
  · cases t
    · exact ev_rel h y
    · exact ev_rel h x

theorem zeroT_run {t : TypeId} {z : Value} (hz : zeroT P t = some z) (w : World) : (zeroValue t).run P w = .ok z w := by
  unfold zeroT at hz
  cases hq : P.info? t with
  | none => rw [hq] at hz; cases hz
  | some i =>
    rw [hq] at hz
    simp only [Option.bind_some] at hz
    simp [zeroValue, typeInfo, hq, hz]

theorem alloc_sound (h : Rel0 B E st a w) {o : Oper} {t : TypeId} (ho : o.op = .alloc t) {d : Nat} (hdst : o.dst = some d) (hd : d < B.N) {z : Value} (hz : zeroT P t = some z) (hn : st.ob (nmOf d 0) = none) (Q : Exit → Act → World → Prop) :
    o.wp P a w (fun a' w' => Rel B (putSt { st with ob := setF st.ob (nmOf d 0) (some (flat (.v z))) } o.dst (.ptr (nmOf d 0) 0)) a' w') Q := by
  refine new_sound h hdst hd hn (t := t) (x := .v z) (y := z) (.v _) (by simp) ?_ Q
  unfold execOp
  simp only [ho, Sem.run_bind, Instr.alloc, zeroT_run hz, Result.andThen_ok, newVar, newRow, newObj]
  rfl

theorem box_run {o : Oper} {t : TypeId} {y : Operand} (ho : o.op = .box t y) : (execOp a.eval o).run P w = .ok (.value (.pointer (some ⟨w.heap.size, 0, none⟩))) (w.alloc (.cells (a.eval y).cells t)) := by
  unfold execOp
  simp only [ho, Sem.run_bind, Instr.box, newVar, newRow, newObj]
  rfl

theorem box_sound (h : Rel0 B E st a w) {o : Oper} {t : TypeId} {y : Operand} (ho : o.op = .box t y) {d : Nat} (hdst : o.dst = some d) (hd : d < B.N) (hl : live (ev st y) = true) (hn : st.ob (nmOf d 0) = none) (Q : Exit → Act → World → Prop) :
    o.wp P a w (fun a' w' => Rel B (putSt { st with ob := setF st.ob (nmOf d 0) (some (flat (ev st y))) } o.dst (.ptr (nmOf d 0) 0)) a' w') Q :=
  new_sound h hdst hd hn (t := t) (ev_rel h y) (by rintro e; rw [e] at hl; cases hl) (box_run ho) Q

/-- A variable that is never written: its cells are protected. -/
theorem frozen_sound (h : Rel0 B E st a w) {o : Oper} {t : TypeId} {y : Operand} (ho : o.op = .box t y) (hd : ∀ d, o.dst = some d → d < B.N) (hp : isPure (ev st y) = true) (Q : Exit → Act → World → Prop) :
    o.wp P a w (fun a' w' => Rel B (putSt st o.dst (.rptr (ev st y) 0)) a' w') Q := by
  have hy := ev_rel h y
  have hdead : ev st y ≠ .dead := by rintro e; rw [e] at hp; cases hp
  have hf := V_flat hy hdead
  have hpf : ∀ i (hi : i < (flat (ev st y)).length), leafP (flat (ev st y))[i] = true := by
    intro i hi
    generalize ev st y = x at *
    cases x with
    | v x =>
      cases x with
      | agg cs => simp [flat, leafP]
      | _ => simp [flat, leafP]
    | agg cs => exact List.all_eq_true.1 hp _ (List.getElem_mem hi)
    | sl => simp [flat, leafP]
    | _ => cases hp
  have h1 := h.fresh (w' := w.alloc (.cells (a.eval y).cells t)) (fr_alloc _ _ _) (fun b hb => Below.heap_alloc _ _ _ hb) (pr' := fun b k => E.pr b k ∨ b = w.heap.size) (fun _ _ h => .inl h) (fun b k h1 h2 => by
    rcases h1 with h1 | rfl
    · exact absurd h1 h2
    · exact ⟨Nat.le_refl _, by simp⟩)
  refine wp_value (box_run ho) ⟨_, h1.putSt hd ?_⟩
  have e0 : (Value.pointer (some ⟨w.heap.size, 0, none⟩)) = .pointer (some ⟨w.heap.size, 0 + 0, none⟩) := rfl
  rw [e0]
  refine .rptr (off := 0) (fun j => (a.eval y).cells.getD j undef) (fun j _ => .inr rfl) (fun j hj => ?_) (fun j hj => ?_)
  · exact (leaf_PV (hf.2 j hj) (hpf j hj)).mono (fr_alloc _ _ _) (fun _ _ h => .inl h)
  · have hj' : j < (a.eval y).cells.size := by rw [← hf.1]; exact hj
    have e1 : (a.eval y).cells[j]? = some ((a.eval y).cells.getD j undef) := by simp [hj']
    rw [Nat.zero_add]
    exact cell_alloc e1

theorem sliceT_of {t : TypeId} {s : Nat} (h : sliceT P t = some s) : ∃ e, P.underlying t = some (.slice e) ∧ sizeT P e = some s := by
  unfold sliceT at h
  split at h
  case h_2 => cases h
  exact ⟨_, ‹_›, h⟩

theorem indexAddr_sound (h : Rel0 B E st a w) {o : Oper} {t : TypeId} {p i : Operand} (ho : o.op = .indexAddr t p i) {x : AV} {kd : IntKind} {n : Int} (hi : ev st i = .v (.int kd n)) (he : eindex P t n (ev st p) = some x) (hd : ∀ d, o.dst = some d → d < B.N) (Q : Exit → Act → World → Prop) :
    o.wp P a w (fun a' w' => Rel B (putSt st o.dst x) a' w') Q := by
  have hiv : a.eval i = .int kd n := by have := ev_rel h i; rw [hi] at this; exact V_v this
  have fin : ∀ y, (Instr.indexAt t (a.eval p) (.int kd n)).run P w = .ok y w → V E st w x y → o.wp P a w (fun a' w' => Rel B (putSt st o.dst x) a' w') Q := by
    intro y hy hv
    refine wp_yield h (y := y) ?_ hv hd Q
    unfold execOp
    simp only [ho, hiv, Sem.run_bind, hy, Result.andThen_ok, Sem.run_pure]
  have hp := ev_rel h p
  unfold eindex at he
  split at he
  · rename_i sz es tg hpe
    rw [hpe] at hp
    split at he
    case isFalse => cases he
    rename_i hc
    obtain ⟨hn0, hsT⟩ := hc
    obtain ⟨e, hu, hsz⟩ := sliceT_of hsT
    simp only [Option.map_eq_some_iff] at he
    obtain ⟨y, hy, rfl⟩ := he
    obtain ⟨hlt, hye⟩ := List.getElem?_eq_some_iff.1 hy
    generalize hval : a.eval p = val at hp fin
    cases hp with
    | sl hpv ht =>
      cases hpv with
      | nil => simp at hlt
      | sl cells hle hs hpr hh hcell =>
        rename_i b off cap
        have hnlt : n < (es.length : Int) := by omega
        refine fin (.pointer (some ⟨b, off + n.toNat * sz, none⟩)) ?_ ?_
        · simp only [Instr.indexAt, Sem.run_bind, asIntOf, Sem.run_pure, Result.andThen_ok, run_underlying hu w]
          simp [hn0, hnlt, sizeT_run hsz w, Addr.add_mid]
        · have hf := hs n.toNat hlt
          rw [hye] at hf
          have e0 : off + n.toNat * sz = off + n.toNat * sz + 0 := by omega
          rw [e0]
          refine .rptr (cells n.toNat) (fun j hj => ?_) (fun j hj => ?_) (fun j hj => ?_)
          · have := hpr n.toNat hlt j (by omega)
            rwa [← Nat.add_assoc] at this
          · have := hh n.toNat hlt j (by rw [hye]; exact hj)
            simpa [hye] using this
          · have := hcell n.toNat hlt j (by omega)
            rwa [← Nat.add_assoc] at this
  · rename_i m off len cap hpe
    rw [hpe] at hp
    split at he
    case isFalse => cases he
    rename_i hc
    obtain ⟨hn0, hnl, hsT⟩ := hc
    obtain ⟨e, hu, hsz⟩ := sliceT_of hsT
    simp only [Option.some.injEq] at he
    subst he
    generalize hval : a.eval p = val at hp fin
    cases hp with
    | osl hn =>
      refine fin (.pointer (some ⟨E.ρ m, off + n.toNat, none⟩)) ?_ (.ptr hn)
      simp only [Instr.indexAt, Sem.run_bind, asIntOf, Sem.run_pure, Result.andThen_ok, run_underlying hu w]
      simp [hn0, hnl, sizeT_run hsz w, Addr.add_mid]
  · rename_i m sz len hpe
    rw [hpe] at hp
    split at he
    case isFalse => cases he
    rename_i hc
    obtain ⟨hn0, hnl, hsT⟩ := hc
    obtain ⟨e, hu, hsz⟩ := sliceT_of hsT
    simp only [Option.some.injEq] at he
    subst he
    generalize hval : a.eval p = val at hp fin
    cases hp with
    | own hn =>
      refine fin (.pointer (some ⟨E.ρ m, n.toNat * sz, none⟩)) ?_ (.ptr hn)
      simp only [Instr.indexAt, Sem.run_bind, asIntOf, Sem.run_pure, Result.andThen_ok, run_underlying hu w]
      simp [hn0, hnl, sizeT_run hsz w, Addr.add_mid]
  · rename_i m k hpe
    rw [hpe] at hp
    split at he
    case h_2 => cases he
    rename_i len s hA
    unfold arrT at hA
    split at hA
    case h_2 => cases hA
    rename_i n' e hu
    simp only [Option.map_eq_some_iff, Prod.mk.injEq] at hA
    obtain ⟨s', hs, rfl, rfl⟩ := hA
    split at he
    case isFalse => cases he
    rename_i hc
    simp only [Option.some.injEq] at he
    subst he
    obtain ⟨hpv, hob⟩ := V_ptr hp
    rw [hpv] at fin
    refine fin (.pointer (some ⟨E.ρ m, k + n.toNat * s', none⟩)) ?_ (.ptr hob)
    simp only [Instr.indexAt, Sem.run_bind, asIntOf, Sem.run_pure, Result.andThen_ok, run_underlying hu w, Instr.sureAddr]
    simp [hc.1, hc.2, sizeT_run hs w, Addr.add_mid]
  · rename_i z k hpe
    rw [hpe] at hp
    split at he
    case h_2 => cases he
    rename_i len s hA
    unfold arrT at hA
    split at hA
    case h_2 => cases hA
    rename_i n' e hu
    simp only [Option.map_eq_some_iff, Prod.mk.injEq] at hA
    obtain ⟨s', hs, rfl, rfl⟩ := hA
    split at he
    case isFalse => cases he
    rename_i hc
    simp only [Option.some.injEq] at he
    subst he
    generalize hval : a.eval p = val at hp fin
    cases hp with
    | rptr cells hpr hh hcell =>
      rename_i b off
      refine fin (.pointer (some ⟨b, off + (k + n.toNat * s'), none⟩)) ?_ (.rptr cells hpr hh hcell)
      simp only [Instr.indexAt, Sem.run_bind, asIntOf, Sem.run_pure, Result.andThen_ok, run_underlying hu w, Instr.sureAddr]
      simp [hc.1, hc.2, sizeT_run hs w, Addr.add_mid, Nat.add_assoc]
  · cases he

/-- Nil pointers apart. -/
def echeck : AV → Option AV
  | .ptr n k => some (.ptr n k)
  | .rptr x k => some (.rptr x k)
  | .fn g cs => some (.fn g cs)
  | _ => none

theorem nilCheck_sound (h : Rel0 B E st a w) {o : Oper} {p : Operand} (ho : o.op = .nilCheck p) {x : AV} (he : echeck (ev st p) = some x) (hd : ∀ d, o.dst = some d → d < B.N) (Q : Exit → Act → World → Prop) :
    o.wp P a w (fun a' w' => Rel B (putSt st o.dst x) a' w') Q := by
  have hp := ev_rel h p
  have hx : x = ev st p := by
    unfold echeck at he
    split at he <;> simp_all
  subst hx
  refine wp_yield h (y := a.eval p) ?_ hp hd Q
  unfold execOp
  simp only [ho]
  generalize hval : a.eval p = val at hp
  unfold echeck at he
  split at he
  · rename_i hpe; rw [hpe] at hp; cases hp; rfl
  · rename_i hpe; rw [hpe] at hp; cases hp; rfl
  · rename_i hpe; rw [hpe] at hp; cases hp; rfl
  · cases he

/-- A part of several results. -/
def eextract (i : Nat) : AV → Option AV
  | .tup xs => xs[i]?
  | .v (.tuple vs) => vs[i]?.map .v
  | _ => none

theorem extract_sound (h : Rel0 B E st a w) {o : Oper} {p : Operand} {i : Nat} (ho : o.op = .extract p i) {x : AV} (he : eextract i (ev st p) = some x) (hd : ∀ d, o.dst = some d → d < B.N) (Q : Exit → Act → World → Prop) :
    o.wp P a w (fun a' w' => Rel B (putSt st o.dst x) a' w') Q := by
  have hp := ev_rel h p
  have fin : ∀ vs y, a.eval p = .tuple vs → vs[i]? = some y → V E st w x y → o.wp P a w (fun a' w' => Rel B (putSt st o.dst x) a' w') Q := by
    intro vs y hvs hy hv
    refine wp_yield h (y := y) ?_ hv hd Q
    unfold execOp
    simp [ho, hvs, Instr.extract, hy]
  unfold eextract at he
  split at he
  · rename_i xs hpe
    rw [hpe] at hp
    generalize hval : a.eval p = val at hp fin
    obtain ⟨hlt, hxe⟩ := List.getElem?_eq_some_iff.1 he
    cases hp with
    | tup hl hh =>
      rename_i vs
      have hlt2 : i < vs.size := hl ▸ hlt
      refine fin vs vs[i] rfl (by simp [hlt2]) ?_
      have := hh i hlt
      rw [hxe] at this
      simpa [hlt2] using this
  · rename_i vs hpe
    rw [hpe] at hp
    simp only [Option.map_eq_some_iff] at he
    obtain ⟨y, hy, rfl⟩ := he
    exact fin vs y (V_v hp) hy (.v _)
  · cases he

/-- A closure. -/
theorem makeFunc_sound (h : Rel0 B E st a w) {o : Oper} {g : FuncId} {cs : Array Operand} (ho : o.op = .makeFunc (.func g) #[] cs) (hd : ∀ d, o.dst = some d → d < B.N) (Q : Exit → Act → World → Prop) :
    o.wp P a w (fun a' w' => Rel B (putSt st o.dst (.fn g (cs.toList.map (ev st)))) a' w') Q := by
  refine wp_yield h (y := .func (.func g) #[] (cs.map a.eval)) ?_ (.fn (by simp) (fun i hi => ?_)) hd Q
  · unfold execOp
    simp [ho, Instr.makeFunc]
  · have hi' : i < cs.size := by simpa using hi
    simpa [hi'] using ev_rel h cs[i]

end
end Caw

namespace Caw
open Go Go.RowKit

section
variable {P : Program} {B : Base} {w w' : World} {E : Env} {st : St} {a : Act}

/-! ### Structs and slices that are built -/
theorem foldl_set (off : Nat) : ∀ (l : List Value) (k : Nat) (cs : Array Value), off + k + l.length ≤ cs.size →
    ((l.zipIdx k).foldl (fun (cs : Array Value) (p : Value × Nat) => cs.setIfInBounds (off + p.2) p.1) cs).toList = cs.toList.take (off + k) ++ l ++ cs.toList.drop (off + k + l.length)
  | [], k, cs, _ => by simp
  | v :: l, k, cs, h => by
    simp only [List.length_cons] at h
    rw [List.zipIdx_cons, List.foldl_cons, foldl_set off l (k + 1) _ (by simp; omega)]
    rw [Array.toList_setIfInBounds, ← Nat.add_assoc]
    have e := list_seg_step cs.toList (off + k) v l (by simp; omega)
    simpa [Nat.add_assoc, Nat.add_comm 1] using e

/-- Parts laid into cells. -/
def efill (place : Nat → Option (Nat × Nat)) (cs : List AV) : List (Nat × AV) → Option (List AV)
  | [] => some cs
  | (i, x) :: r =>
    match place i with
    | none => none
    | some (off, sz) => if live x ∧ (flat x).length = sz ∧ off + sz ≤ cs.length then efill place (cs.take off ++ flat x ++ cs.drop (off + sz)) r else none

theorem live_dead {x : AV} (h : live x = true) : x ≠ .dead := by rintro rfl; cases h

theorem fill_sound (place : Nat → Option (Nat × Nat)) : ∀ (ps : List (Nat × AV)) (qs : List (Nat × Value)) (cs : List AV) (vs : Array Value) (rs : List AV),
    All2 (V E st w) cs vs.toList → ps.length = qs.length → (∀ i (hi : i < ps.length) (hj : i < qs.length), ps[i].1 = qs[i].1 ∧ V E st w ps[i].2 qs[i].2) → efill place cs ps = some rs →
    ∃ us : Array Value, Instr.fill place vs qs = some us ∧ All2 (V E st w) rs us.toList
  | [], qs, cs, vs, rs, hcs, hl, _, he => by
    cases qs with
    | nil => simp only [efill, Option.some.injEq] at he; subst he; exact ⟨vs, rfl, hcs⟩
    | cons => simp at hl
  | (i, x) :: ps, [], cs, vs, rs, _, hl, _, _ => by simp at hl
  | (i, x) :: ps, (j, v) :: qs, cs, vs, rs, hcs, hl, hr, he => by
    have h0 := hr 0 (Nat.zero_lt_succ _) (Nat.zero_lt_succ _)
    simp only [List.getElem_cons_zero] at h0
    obtain ⟨rfl, hv⟩ := h0
    simp only [efill] at he
    split at he
    · cases he
    rename_i off sz hp
    split at he
    case isFalse => cases he
    rename_i hc
    obtain ⟨hlive, hsz, hfit⟩ := hc
    have hfl := V_all2 hv (live_dead hlive)
    have hsz2 : v.cells.size = sz := by have := hfl.1; simp at this; omega
    have hcl : cs.length = vs.size := by simpa using hcs.1
    have e1 : (v.cells.zipIdx.foldl (fun (cs : Array Value) (p : Value × Nat) => cs.setIfInBounds (off + p.2) p.1) vs) = (vs.toList.take off ++ v.cells.toList ++ vs.toList.drop (off + sz)).toArray := by
      rw [← Array.foldl_toList, Array.toList_zipIdx]
      apply Array.toList_inj.1
      rw [foldl_set off v.cells.toList 0 vs (by simp; omega)]
      simp [hsz2]
    have hnew : All2 (V E st w) (cs.take off ++ flat x ++ cs.drop (off + sz)) (vs.toList.take off ++ v.cells.toList ++ vs.toList.drop (off + sz)) := ((hcs.take off).append hfl).append (hcs.drop _)
    obtain ⟨us, h1, h2⟩ := fill_sound place ps qs _ (vs.toList.take off ++ v.cells.toList ++ vs.toList.drop (off + sz)).toArray rs (by simpa using hnew) (by simpa using hl) (fun k hk hk' => by
      have := hr (k + 1) (by simpa using hk) (by simpa using hk')
      simpa using this) he
    refine ⟨us, ?_, h2⟩
    unfold Instr.fill
    simp only [hp]
    rw [if_neg (by simp; omega)]
    have e2 : (v.cells.zipIdx.foldl (fun cs (x : Value × Nat) => match x with | (c, j) => cs.setIfInBounds (off + j) c) vs) = (v.cells.zipIdx.foldl (fun (cs : Array Value) (p : Value × Nat) => cs.setIfInBounds (off + p.2) p.1) vs) := rfl
    rw [e2, e1]
    exact h1

def fieldsP (P : Program) : List Field → Option (List (Nat × Nat))
  | [] => some []
  | f :: r => match sizeT P f.type, fieldsP P r with
    | some s, some l => some ((f.offset, s) :: l)
    | _, _ => none

theorem fieldsP_run : ∀ {fs : List Field} {l : List (Nat × Nat)}, fieldsP P fs = some l → ∀ w, (fs.mapM (fun f => (do pure (f.offset, ← Go.sizeOf f.type) : Sem (Nat × Nat)))).run P w = .ok l w
  | [], l, h, w => by simp only [fieldsP, Option.some.injEq] at h; subst h; simp
  | f :: r, l, h, w => by
    simp only [fieldsP] at h
    split at h
    case h_2 => cases h
    rename_i s l' hs hl
    simp only [Option.some.injEq] at h
    subst h
    have ih := fieldsP_run hl w
    simp only [List.mapM_cons, Sem.run_bind, sizeT_run hs, Result.andThen_ok, Sem.run_pure, ih]

/-- Where a part of a struct, or of an array, lies. -/
def placeT (P : Program) (t : TypeId) : Option (Nat → Option (Nat × Nat)) :=
  match P.underlying t with
  | some (.struct fs) => (fieldsP P fs.toList).map fun l i => l[i]?
  | some (.array _ e) => (sizeT P e).map fun s i => some (i * s, s)
  | _ => none

/-- Where a struct's slices lie, and the sizes of their elements. -/
def nilsT (P : Program) (t : TypeId) : List (Nat × Nat) :=
  match P.underlying t with
  | some (.struct fs) => fs.toList.filterMap fun fd => (match sliceT P fd.type with
    | some 1 => some (fd.offset, 1)
    | _ => none)
  | _ => []
/-- A nil slice, as a slice without elements. -/
def znil : List (Nat × Nat) → List AV → List AV
  | [], cs => cs
  | (o, sz) :: r, cs => znil r (match cs[o]? with
    | some (.v (.slice none 0 0)) => cs.set o (.sl sz [] none)
    | _ => cs)
theorem znil_all2 : ∀ (l : List (Nat × Nat)) {cs : List AV} {vs : List Value}, All2 (V E st w) cs vs → All2 (V E st w) (znil l cs) vs
  | [], _, _, h => h
  | (o, sz) :: r, cs, vs, h => by
    refine znil_all2 r ?_
    split
    · rename_i h0
      refine ⟨by simpa using h.1, fun i hi => ?_⟩
      have hi' : i < cs.length := by simpa using hi
      have h1 := h.2 i hi'
      rw [List.getElem_set]
      split
      · rename_i e
        subst e
        have e2 : cs[o] = .v (.slice none 0 0) := by
          rw [List.getElem?_eq_getElem hi'] at h0
          exact Option.some.inj h0
        rw [e2] at h1
        rw [V_v h1]
        exact .sl (.nil _ _) (fun n g hn => by cases hn)
      · exact h1
    · exact h
def ebuild (P : Program) (t : TypeId) (ps : List (Nat × AV)) : Option AV :=
  match placeT P t, zeroT P t with
  | some pl, some z => (efill pl (znil (nilsT P t) (flat (.v z))) ps).map mkAgg
  | _, _ => none

theorem build_sound (h : Rel0 B E st a w) {o : Oper} {t : TypeId} {ps : Array (Nat × Operand)} (ho : o.op = .build t ps) {x : AV} (he : ebuild P t (ps.toList.map fun p => (p.1, ev st p.2)) = some x) (hd : ∀ d, o.dst = some d → d < B.N) (Q : Exit → Act → World → Prop) :
    o.wp P a w (fun a' w' => Rel B (putSt st o.dst x) a' w') Q := by
  unfold ebuild at he
  split at he
  case h_2 => cases he
  rename_i pl z hpl hz
  simp only [Option.map_eq_some_iff] at he
  obtain ⟨rs, he, rfl⟩ := he
  obtain ⟨us, hf, hu⟩ := fill_sound (E := E) (st := st) (w := w) pl (ps.toList.map fun p => (p.1, ev st p.2)) (ps.toList.map fun p => (p.1, a.eval p.2)) (znil (nilsT P t) (flat (.v z))) z.cells rs
    (znil_all2 _ (V_all2 (.v z) (by simp))) (by simp) (fun i hi hj => by simpa using ev_rel h _) he
  refine wp_yield h (y := .agg us) ?_ ?_ hd Q
  · unfold execOp
    have e1 : (ps.map fun (p : Nat × Operand) => (p.1, a.eval p.2)).toList = ps.toList.map fun p => (p.1, a.eval p.2) := by simp
    simp only [ho]
    unfold placeT at hpl
    split at hpl
    · rename_i fs hu'
      simp only [Option.map_eq_some_iff] at hpl
      obtain ⟨l, hl, rfl⟩ := hpl
      have hm : (fs.mapM (fun f => (do pure (f.offset, ← Go.sizeOf f.type) : Sem (Nat × Nat)))).run P w = .ok l.toArray w := by
        rw [Array.mapM_eq_mapM_toList, Sem.run_map, fieldsP_run hl]
        rfl
      have hfun : (fun (i : Nat) => l.toArray[i]?) = (fun (i : Nat) => l[i]?) := by funext i; simp
      simp only [Instr.build, Sem.run_bind, zeroT_run hz, Result.andThen_ok, run_underlying hu', hm, hfun, e1, hf]
      rfl
    · rename_i n e hu'
      simp only [Option.map_eq_some_iff] at hpl
      obtain ⟨s, hs, rfl⟩ := hpl
      simp only [Instr.build, Sem.run_bind, zeroT_run hz, Result.andThen_ok, run_underlying hu', sizeT_run hs, e1, hf]
      rfl
    · cases hpl
  · have : us = us.toList.toArray := by simp
    rw [this]
    exact V_mkAgg hu.1 hu.2

/-- A list of elements out of cells. -/
def chunk (row : Bool) (sz : Nat) : Nat → List AV → List AV
  | 0, _ => []
  | n + 1, cs => (if row then mkAgg (cs.take sz) else cs.headD .dead) :: chunk row sz n (cs.drop sz)

/-- Has a slice's element a first value? -/
def zeroE (P : Program) (t : TypeId) : Bool :=
  match P.underlying t with
  | some (.slice e) => (zeroT P e).isSome
  | _ => false

/-- A slice of elements that are given, all of them, one by one. -/
def ebuildS (P : Program) (st : St) (d : Nat) (t : TypeId) (len : Nat) (xs : List (Nat × AV)) : Option (AV × St) :=
  match sliceT P t with
  | some sz => if 0 < sz ∧ xs.map (·.1) = List.range len ∧ (xs.all fun p => isPure p.2 && (flat p.2).length == sz && (flat p.2).all leafP) = true ∧ len * sz ≤ 16777216 ∧ zeroE P t = true then
      some (.sl sz (xs.map (·.2)) (some (nmOf d 0, st.G (nmOf d 0) + 1)), bump st (nmOf d 0)) else none
  | none => none

theorem fill_all (sz : Nat) : ∀ (qs : List (Nat × Value)) (k : Nat) (done : List Value) (vs : Array Value), qs.map (·.1) = List.range' k qs.length → (∀ q ∈ qs, q.2.cells.size = sz) →
    vs.toList.take (k * sz) = done → done.length = k * sz → vs.size = (k + qs.length) * sz →
    ∃ us : Array Value, Instr.fill (fun i => some (i * sz, sz)) vs qs = some us ∧ us.toList = done ++ qs.flatMap (fun q => q.2.cells.toList)
  | [], k, done, vs, _, _, hd, hl, hs => by
    refine ⟨vs, rfl, ?_⟩
    rw [← hd]
    simp only [List.length_nil, Nat.add_zero] at hs
    rw [List.take_of_length_le (by simp; omega)]
    simp
  | (i, v) :: qs, k, done, vs, hi, hsz, hd, hl, hs => by
    simp only [List.map_cons, List.length_cons, List.range'_succ, List.cons.injEq] at hi
    obtain ⟨rfl, hi⟩ := hi
    have hv : v.cells.size = sz := hsz (i, v) (by simp)
    simp only [List.length_cons] at hs
    have hfit : i * sz + sz ≤ vs.size := by
      rw [hs]
      have : (i + 1) * sz ≤ (i + (qs.length + 1)) * sz := Nat.mul_le_mul_right _ (by omega)
      rw [Nat.add_mul i 1] at this
      omega
    have e1 : (v.cells.zipIdx.foldl (fun (cs : Array Value) (p : Value × Nat) => cs.setIfInBounds (i * sz + p.2) p.1) vs) = (vs.toList.take (i * sz) ++ v.cells.toList ++ vs.toList.drop (i * sz + sz)).toArray := by
      rw [← Array.foldl_toList, Array.toList_zipIdx]
      apply Array.toList_inj.1
      rw [foldl_set (i * sz) v.cells.toList 0 vs (by simp; omega)]
      simp [hv]
    have hlen2 : (done ++ v.cells.toList).length = (i + 1) * sz := by rw [Nat.add_mul]; simp; omega
    obtain ⟨us, h1, h2⟩ := fill_all sz qs (i + 1) (done ++ v.cells.toList) (vs.toList.take (i * sz) ++ v.cells.toList ++ vs.toList.drop (i * sz + sz)).toArray hi (fun q hq => hsz q (by simp [hq]))
      (by
        rw [List.toList_toArray, hd, ← hlen2, List.take_left]) hlen2 (by
        have e3 : (i + 1 + qs.length) = i + (qs.length + 1) := by omega
        rw [e3, ← hs]
        simp; omega)
    refine ⟨us, ?_, by rw [h2]; simp⟩
    unfold Instr.fill
    simp only
    rw [if_neg (by simp; omega)]
    have e2 : (v.cells.zipIdx.foldl (fun cs (x : Value × Nat) => match x with | (c, j) => cs.setIfInBounds (i * sz + j) c) vs) = (v.cells.zipIdx.foldl (fun (cs : Array Value) (p : Value × Nat) => cs.setIfInBounds (i * sz + p.2) p.1) vs) := rfl
    rw [e2, e1]
    exact h1

theorem flatMap_getD (sz : Nat) : ∀ (ls : List (List Value)) (i j : Nat), (∀ l ∈ ls, l.length = sz) → j < sz → ls.flatten.getD (i * sz + j) undef = (ls.getD i []).getD j undef
  | [], i, j, _, _ => by simp
  | l :: ls, 0, j, h, hj => by
    have : j < l.length := by rw [h l (by simp)]; exact hj
    simp [List.getD, List.getElem?_append_left this]
  | l :: ls, i + 1, j, h, hj => by
    have hl : l.length = sz := h l (by simp)
    have e : (i + 1) * sz + j = l.length + (i * sz + j) := by rw [hl, Nat.add_mul]; omega
    have ih := flatMap_getD sz ls i j (fun x hx => h x (by simp [hx])) hj
    rw [e]
    simp only [List.getD, List.flatten_cons, List.getElem?_cons_succ] at ih ⊢
    rw [List.getElem?_append_right (by omega), Nat.add_sub_cancel_left]
    exact ih

theorem buildSlice_sound (h : Rel0 B E st a w) {o : Oper} {t : TypeId} {len d : Nat} {ps : Array (Nat × Operand)} (ho : o.op = .buildSlice t len ps) (hdst : o.dst = some d) {x : AV} {st' : St}
    (he : ebuildS P st d t len (ps.toList.map fun p => (p.1, ev st p.2)) = some (x, st')) (hd : ∀ d, o.dst = some d → d < B.N) (Q : Exit → Act → World → Prop) :
    o.wp P a w (fun a' w' => Rel B (putSt st' o.dst x) a' w') Q := by
  unfold ebuildS at he
  split at he
  case h_2 => cases he
  rename_i sz hT
  split at he
  case isFalse => cases he
  rename_i hc
  obtain ⟨hpos, hidx, hall, hsmall, hz⟩ := hc
  simp only [Option.some.injEq, Prod.mk.injEq] at he
  obtain ⟨rfl, rfl⟩ := he
  obtain ⟨e, hu, hs⟩ := sliceT_of hT
  unfold zeroE at hz
  rw [hu] at hz
  simp only at hz
  obtain ⟨z, hz⟩ := Option.isSome_iff_exists.1 hz
  simp only [List.map_map] at hidx
  have hpl : ps.toList.length = len := by
    have := congrArg List.length hidx
    simpa using this
  -- the elements' cells
  have hel : ∀ p ∈ ps.toList, isPure (ev st p.2) = true ∧ (flat (ev st p.2)).length = sz ∧ (flat (ev st p.2)).all leafP = true := by
    intro p hp
    have := List.all_eq_true.1 hall (p.1, ev st p.2) (List.mem_map.2 ⟨p, hp, rfl⟩)
    simp only [Bool.and_eq_true, beq_iff_eq] at this
    exact ⟨this.1.1, this.1.2, this.2⟩
  have hfl2 : ∀ p ∈ ps.toList, All2 (V E st w) (flat (ev st p.2)) (a.eval p.2).cells.toList := by
    intro p hp
    refine V_all2 (ev_rel h p.2) ?_
    have := (hel p hp).1
    rintro e; rw [e] at this; cases this
  have hcl : ∀ p ∈ ps.toList, (a.eval p.2).cells.size = sz := by
    intro p hp
    have := (hfl2 p hp).1
    rw [(hel p hp).2.1] at this
    simpa using this.symm
  obtain ⟨us, hf, hus⟩ := fill_all sz (ps.toList.map fun p => (p.1, a.eval p.2)) 0 [] ((Array.range (len * sz)).map fun k => (if len * sz = 0 then (#[] : Array Value) else z.cells)[k % (if len * sz = 0 then (#[] : Array Value) else z.cells).size]!)
    (by simp only [List.map_map, List.length_map]; rw [hpl, ← List.range_eq_range']; exact hidx) (fun q hq => by
      obtain ⟨p, hp, rfl⟩ := List.mem_map.1 hq
      exact hcl p hp) (by simp) (by simp) (by simp [hpl])
  have hrun : (execOp a.eval o).run P w = .ok (.value (.slice (some ⟨w.heap.size, 0, none⟩) len len)) (w.alloc (.cells us e)) := by
    unfold execOp
    have e1 : (ps.map fun (p : Nat × Operand) => (p.1, a.eval p.2)).toList = ps.toList.map fun p => (p.1, a.eval p.2) := by simp
    have hnb : ¬ len * sz > 2 ^ 24 := by
      have : (2 : Nat) ^ 24 = 16777216 := by decide
      omega
    by_cases h0 : len * sz = 0
    · simp only [h0, if_true] at hf hnb
      simp only [ho, Instr.buildSlice, Sem.run_bind, run_underlying hu, Result.andThen_ok, sizeT_run hs, h0, if_true, hnb, if_false, e1]
      simp only [Sem.run_pure, Result.andThen_ok, hf, newRow, newObj]
      rfl
    · simp only [h0, if_false] at hf
      simp only [ho, Instr.buildSlice, Sem.run_bind, run_underlying hu, Result.andThen_ok, sizeT_run hs, h0, hnb, if_false, zeroT_run hz, e1]
      simp only [Sem.run_pure, Result.andThen_ok, hf, newRow, newObj]
      rfl
  have husz : us.toList = (ps.toList.map fun p => (a.eval p.2).cells.toList).flatten := by
    rw [hus]; simp [List.flatMap_def, Function.comp_def]
  have hlenx : ((ps.toList.map fun p => (p.1, ev st p.2)).map (·.2)).length = len := by simpa using hpl
  obtain ⟨E', h2, hv⟩ := h.row_new (w1 := w) rfl rfl rfl rfl (nmOf d 0) (es := (ps.toList.map fun p => (p.1, ev st p.2)).map (·.2)) (sz := sz) (cap := len) (vs := us) (e := e) (fun i hi => by
      simp only [List.map_map, List.getElem_map]
      exact (hel _ (List.getElem_mem _)).2.1) (by omega) (by
      have : us.size = len * sz := by
        have h3 := congrArg List.length husz
        rw [List.length_flatten, List.map_map] at h3
        have h4 : (ps.toList.map (List.length ∘ fun p => (a.eval p.2).cells.toList)) = ps.toList.map (fun _ => sz) := List.map_congr_left (fun p hp => by simpa using hcl p hp)
        rw [h4, List.map_const', List.sum_replicate_nat, hpl] at h3
        simpa using h3
      omega) (fun i hi j hj => by
      have hi' : i < ps.toList.length := by simpa using hi
      have eI : ((ps.toList.map fun p => (p.1, ev st p.2)).map (·.2))[i] = ev st (ps.toList[i]'hi').2 := by simp
      have hmem : ps.toList[i]'hi' ∈ ps.toList := List.getElem_mem _
      have hjs : j < sz := by
        have h5 := (hel _ hmem).2.1
        rw [eI] at hj
        omega
      have hj2 : j < (flat (ev st (ps.toList[i]'hi').2)).length := by rw [(hel _ hmem).2.1]; exact hjs
      have h6 := (hfl2 _ hmem).2 j hj2
      have h7 := leaf_PV h6 (List.all_eq_true.1 (hel _ hmem).2.2 _ (List.getElem_mem hj2))
      have e8 : us.getD (i * sz + j) undef = (a.eval (ps.toList[i]'hi').2).cells.toList.getD j undef := by
        rw [arr_getD, husz, flatMap_getD sz _ i j (fun l hl => by
          obtain ⟨p, hp, rfl⟩ := List.mem_map.1 hl
          simpa using hcl p hp) hjs]
        congr 1
        simp [List.getD, List.getElem?_map]
        have hi'' : i < ps.size := by simpa using hi'
        simp [hi'']
      rw [e8]
      have : (flat ((ps.toList.map fun p => (p.1, ev st p.2)).map (·.2))[i])[j] = (flat (ev st (ps.toList[i]'hi').2))[j] := by
        congr 1
        rw [eI]
      rw [this]
      exact h7)
  rw [hlenx] at hv
  refine wp_value hrun ⟨E', ?_⟩
  rw [hdst]
  exact h2.put (hd d hdst) hv

end
end Caw

