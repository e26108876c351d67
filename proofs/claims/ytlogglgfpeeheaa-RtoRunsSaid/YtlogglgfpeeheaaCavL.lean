import Derived.Test.YtlogglgfpeeheaaCavK
namespace Cav
open Go Go.RowKit

/-! ### What simp runs -/
attribute [simp] Value.oneCell' ereg erunL estep eff gd dstOk eop dflt sop sbin ibin isShift ishift sun sconv smin smax slLen calleeOf ev toV leafP isPure leafOk live flat mkAgg allV ldc putSt setF keep refsOk aggRef leafRef obOk lk lo enter rets rvar retAV Post.pureR
@[simp] theorem mk_sl (ss : List (Nat × AV)) (oo : List (Nat × List AV)) : (mkSt ss oo).sl = lk ss := rfl
@[simp] theorem mk_ob (ss : List (Nat × AV)) (oo : List (Nat × List AV)) : (mkSt ss oo).ob = lo oo := rfl

theorem post_ret {P : Program} {fn : Func} {r : AV} {s : St} {xs : List AV} (h1 : rets P s fn.results.toList = some xs) (h2 : retAV xs = r) (h3 : Post.pureR r = true) : Post P fn r .ret s := ⟨xs, h1, h2, h3⟩
theorem nodraw {P : Program} {ops : Array Oper} : false = true → P.follows .mixedOrders = true ∧ regOk ops = true := fun h => by cases h

/-- 'x' has come to 'sf': a word that simp does not open. -/
def Is (x : Option St) (sf : St) : Prop := x = some sf
theorem Is.mk {s : St} : Is (some s) s := rfl

/-- A region and what follows: the state behind it is found by running it. -/
theorem tri_step {P : Program} {Γ : Ctx} {N : Nat} {st : St} {ops : Array Oper} {id : Nat} {draw : Bool} {y : Code} {Q : Exit → St → Prop} (L M : List Nat) (hΓ : GOk P Γ)
    (hd : draw = true → P.follows .mixedOrders = true ∧ regOk ops = true) (h : ∃ sf, Is (ereg P Γ N ops L M st) sf ∧ Tri P N sf y Q) : Tri P N st (.seq (.region id ops draw) y) Q := by
  obtain ⟨sf, he, hq⟩ := h
  exact tri_seq (tri_reg L M hΓ hd he hq)
theorem tri_last {P : Program} {Γ : Ctx} {N : Nat} {st : St} {ops : Array Oper} {id : Nat} {draw : Bool} {Q : Exit → St → Prop} (L M : List Nat) (hΓ : GOk P Γ)
    (hd : draw = true → P.follows .mixedOrders = true ∧ regOk ops = true) (h : ∃ sf, Is (ereg P Γ N ops L M st) sf ∧ Q .normal sf) : Tri P N st (.region id ops draw) Q := by
  obtain ⟨sf, he, hq⟩ := h
  exact tri_reg L M hΓ hd he hq

theorem PV_v {w : World} {ok : Nat → Prop} {x y : Value} (h : PV w ok (.v x) y) : y = x := by
  cases h; rfl

/-- A contract of the kit's kind: values that share nothing, new memory alone. -/
theorem spec_of_calls {P : Program} {f : FuncId} {F : Fun} (h : ∀ xs r, F xs = some r → ∃ (ys : List Value) (y : Value), xs = ys.map .v ∧ r = .v y ∧ ∀ w, Calls P f ys.toArray w fun e w' => e = .returned y ∧ Below w.heap.size w w') : Spec P f F := by
  intro ok w xs zs r hF hxs
  obtain ⟨ys, y, rfl, rfl, hc⟩ := h xs r hF
  have e : zs = ys.toArray := by
    have hl : ys.length = zs.size := by simpa using hxs.1
    apply Array.ext (by simpa using hl.symm)
    intro i h1 h2
    have h3 := hxs.2 i (by simpa [hl] using h1)
    have h4 : (ys.map AV.v)[i]'(by simpa [hl] using h1) = .v (ys[i]'(by omega)) := by simp
    rw [h4] at h3
    have h5 : zs.toList.getD i undef = zs[i] := by simp [h1]
    rw [h5] at h3
    simpa using PV_v h3
  rw [e]
  exact (hc w).mono fun e w' ⟨he, hb⟩ => ⟨y, he, hb, .v _⟩

theorem enters_of {P : Program} {f : FuncId} {fn : Func} (hf : P.funcs[f]? = some fn) (h1 : (fn.name == "runtime.NumGoroutine") = false) (h2 : fn.body.isNone = false) : Enters P f := by
  intro args w
  have h1' : ¬ fn.name = "runtime.NumGoroutine" := by simpa using h1
  have h2' : ¬ fn.body = none := by cases hb : fn.body with
    | none => rw [hb] at h2; cases h2
    | some => simp
  simp [callFunc, hf, h1', h2']

end Cav
