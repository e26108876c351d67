import Derived.Test.YtljlhooodbfpiaaGreatDoorK5
set_option linter.all false
namespace Caw
open Go Go.RowKit

/-! ### Regions by their operations, and what is kept of the state -/
noncomputable def erunL (P : Program) (Γ : Ctx1) (C : Cfg) (N : Nat) (ops : Array Oper) : List Oper → St → Option St
  | [], st => some st
  | o :: r, st => match estep P Γ C N ops st o with
    | some st' => erunL P Γ C N ops r st'
    | none => none

def lk : List (Nat × AV) → Nat → AV
  | [], _ => .dead
  | p :: r, i => if i = p.1 then p.2 else lk r i
def lo : List (Nm × List AV) → Obs
  | [], _ => none
  | p :: r, i => if i = p.1 then some p.2 else lo r i
def mkSt (ss : List (Nat × AV)) (oo : List (Nm × List AV)) : St := ⟨lk ss, lo oo, zg⟩

def memN (n : Nm) : List Nm → Bool
  | [] => false
  | m :: r => if n = m then true else memN n r
def kL (s : St) (M : List Nm) : AV → AV
  | .v x => .v x
  | .sl sz es (some (n, g)) => .sl sz es (if g = s.G n then some (n, 0) else none)
  | .sl sz es none => .sl sz es none
  | .rptr x k => .rptr x k
  | .ptr n k => if memN n M then .ptr n k else .dead
  | .osl n o l c => if memN n M then .osl n o l c else .dead
  | .own n o l => if memN n M then .own n o l else .dead
  | _ => .dead
def kA (s : St) (M : List Nm) : AV → AV
  | .agg cs => .agg (cs.map (kL s M))
  | .fn g cs => .fn g (cs.map (kL s M))
  | x => kL s M x
def kT (s : St) (M : List Nm) : AV → AV
  | .tup cs => .tup (cs.map (kA s M))
  | x => kA s M x
def allOb (s : St) : List Nm → Bool
  | [] => true
  | n :: r => if (s.ob n).isSome then allOb s r else false
def keep (L : List Nat) (M : List Nm) (s : St) : Option St :=
  if allOb s M then some (mkSt (L.map fun i => (i, kT s M (s.sl i))) (M.map fun n => (n, ((s.ob n).getD []).map (kL s M)))) else none

noncomputable def ereg (P : Program) (Γ : Ctx1) (C : Cfg) (N : Nat) (ops : Array Oper) (L : List Nat) (M : List Nm) (st : St) : Option St :=
  match erunL P Γ C N ops ops.toList st with
  | some s => keep L M s
  | none => none

section
variable {P : Program} {Γ : Ctx1} {C : Cfg} {B : Base} {w w' : World} {N : Nat} {E : Env} {st st' sf : St} {a : Act} {ops : Array Oper} {Q : Exit → St → Prop}

theorem erun_eq : ∀ (l : List Oper) (k : Nat) (st : St), (∀ i, i < l.length → ops[k + i]? = l[i]?) → erun P Γ C N ops (List.range' k l.length) st = erunL P Γ C N ops l st
  | [], k, st, _ => by simp [erun, erunL]
  | o :: r, k, st, h => by
    have h0 : ops[k]? = some o := h 0 (Nat.zero_lt_succ _)
    simp only [List.length_cons, List.range'_succ, erun, h0, erunL]
    cases estep P Γ C N ops st o with
    | none => rfl
    | some s1 => exact erun_eq r (k + 1) s1 (fun i hi => by have := h (i + 1) (Nat.succ_lt_succ hi); rw [show k + 1 + i = k + (i + 1) by omega]; exact this)

theorem eregion_eq (st : St) : eregion P Γ C N ops st = erunL P Γ C N ops ops.toList st := by
  unfold eregion
  have := erun_eq (P := P) (Γ := Γ) (C := C) (N := N) (ops := ops) ops.toList 0 st (fun i hi => by simp)
  rw [← this, List.range_eq_range']
  simp

theorem memN_iff {n : Nm} : ∀ {M : List Nm}, memN n M = true ↔ n ∈ M
  | [] => by simp [memN]
  | m :: r => by
    simp only [memN, List.mem_cons]
    by_cases h : n = m
    · simp [h]
    · simp [h, memN_iff (M := r)]
theorem allOb_iff : ∀ {M : List Nm}, allOb st M = true → ∀ n ∈ M, (st.ob n).isSome = true
  | m :: r, h, n, hn => by
    simp only [allOb] at h
    split at h
    · rename_i h0
      rcases List.mem_cons.1 hn with rfl | hn
      · exact h0
      · exact allOb_iff h n hn
    · cases h

theorem lk_map (s : Nat → AV) : ∀ (L : List Nat) (i : Nat), lk (L.map fun j => (j, s j)) i = if i ∈ L then s i else .dead
  | [], i => by simp [lk]
  | j :: r, i => by
    simp only [List.map_cons, lk, lk_map s r i, List.mem_cons]
    by_cases h : i = j
    · simp [h]
    · simp [h]
theorem lo_map (s : Nm → List AV) : ∀ (M : List Nm) (n : Nm), lo (M.map fun j => (j, s j)) n = if n ∈ M then some (s n) else none
  | [], n => by simp [lo]
  | j :: r, n => by
    simp only [List.map_cons, lo, lo_map s r n, List.mem_cons]
    by_cases hn : n = j
    · simp [hn]
    · simp [hn]

theorem co_kL {s s2 : St} {M : List Nm} (h : ∀ n ∈ M, (s2.ob n).isSome = true) (x : AV) : CoL some some s s2 x (kL s M x) := by
  cases x with
  | v x =>
    simp only [kL]
    unfold CoL
    split <;> simp_all
  | sl sz es tg =>
    cases tg with
    | none => simp [kL, CoL, tagCo]
    | some t =>
      obtain ⟨n, g⟩ := t
      simp only [kL, CoL, true_and]
      by_cases hg : g = s.G n
      · simp [hg, tagCo]
      · simp [hg, tagCo]
  | rptr x k => simp [kL, CoL]
  | ptr n k =>
    simp only [kL]
    by_cases hn : memN n M = true
    · simp [hn, CoL, h n (memN_iff.1 hn)]
    · simp [hn, CoL]
  | osl n o l c =>
    simp only [kL]
    by_cases hn : memN n M = true
    · simp [hn, CoL, h n (memN_iff.1 hn)]
    · simp [hn, CoL]
  | own n o l =>
    simp only [kL]
    by_cases hn : memN n M = true
    · simp [hn, CoL, h n (memN_iff.1 hn)]
    · simp [hn, CoL]
  | _ => simp [kL, CoL]
theorem all2_map {R : AV → AV → Prop} {f : AV → AV} (h : ∀ x, R x (f x)) : ∀ xs, All2P R xs (xs.map f)
  | [] => trivial
  | x :: r => ⟨h x, all2_map h r⟩
theorem co_kA {s s2 : St} {M : List Nm} (h : ∀ n ∈ M, (s2.ob n).isSome = true) (x : AV) : CoA some some s s2 x (kA s M x) := by
  cases x with
  | agg cs => simp only [kA, CoA]; exact all2_map (co_kL h) cs
  | fn g cs => simp only [kA, CoA]; exact ⟨trivial, all2_map (co_kL h) cs⟩
  | v y =>
    have := co_kL (s := s) h (.v y)
    simp only [kA, kL] at this ⊢
    unfold CoA
    split <;> simp_all
  | sl sz es tg => exact co_kL h (.sl sz es tg)
  | rptr x k => exact co_kL (s := s) h (.rptr x k)
  | ptr n k =>
    have := co_kL (s := s) h (.ptr n k)
    simp only [kA]
    unfold CoA
    split <;> simp_all
  | osl n o l c =>
    have := co_kL (s := s) h (.osl n o l c)
    simp only [kA]
    unfold CoA
    split <;> simp_all
  | own n o l =>
    have := co_kL (s := s) h (.own n o l)
    simp only [kA]
    unfold CoA
    split <;> simp_all
  | _ => simp [kA, kL, CoA, CoL]
theorem co_kT {s s2 : St} {M : List Nm} (h : ∀ n ∈ M, (s2.ob n).isSome = true) (x : AV) : Co some some s s2 x (kT s M x) := by
  have hx : ∀ y, (∀ xs, y ≠ .tup xs) → Co some some s s2 y (kA s M y) := by
    intro y hy
    have := co_kA (s := s) h y
    unfold Co
    split
    · exact absurd rfl (hy _)
    · rename_i vs ys hk
      exfalso
      simp [kA, kL] at hk
    · exact this
  cases x with
  | tup cs => simp only [kT, Co]; exact all2_map (co_kA h) cs
  | dead => exact hx _ (fun _ e => by cases e)
  | v y => exact hx _ (fun _ e => by cases e)
  | agg cs => exact hx _ (fun _ e => by cases e)
  | sl sz es tg => exact hx _ (fun _ e => by cases e)
  | ptr n k => exact hx _ (fun _ e => by cases e)
  | rptr x k => exact hx _ (fun _ e => by cases e)
  | osl n o l c => exact hx _ (fun _ e => by cases e)
  | own n o l => exact hx _ (fun _ e => by cases e)
  | ref cs => exact hx _ (fun _ e => by cases e)
  | fn g cs => exact hx _ (fun _ e => by cases e)

theorem keep_le {L : List Nat} {M : List Nm} (h : keep L M st = some sf) : Le N st sf := by
  unfold keep at h
  split at h
  case isFalse => cases h
  rename_i hM
  simp only [Option.some.injEq] at h
  have hob : ∀ n ∈ M, (sf.ob n).isSome = true := by
    intro n hn
    rw [← h]
    have := lo_map (fun n => ((st.ob n).getD []).map (kL st M)) M n
    simp only [mkSt, this, if_pos hn]
    rfl
  refine le_of_co (fun i => ?_) (fun n cs2 hn => ?_)
  · have e : sf.sl i = if i ∈ L then kT st M (st.sl i) else .dead := by rw [← h]; exact lk_map (fun i => kT st M (st.sl i)) L i
    rw [e]
    split
    · exact co_kT hob _
    · unfold Co
      split
      · rename_i hk; cases hk
      · rename_i hk; cases hk
      · unfold CoA
        split
        · rename_i hk; cases hk
        · rename_i hk; cases hk
        · rename_i hk; cases hk
        · unfold CoL; trivial
  · have e : sf.ob n = if n ∈ M then some (((st.ob n).getD []).map (kL st M)) else none := by rw [← h]; exact lo_map (fun n => ((st.ob n).getD []).map (kL st M)) M n
    rw [e] at hn
    split at hn
    case isFalse => cases hn
    rename_i hm
    simp only [Option.some.injEq] at hn
    subst hn
    obtain ⟨cs, hcs⟩ := Option.isSome_iff_exists.1 (allOb_iff hM n hm)
    refine ⟨cs, hcs, ?_⟩
    rw [hcs]
    exact all2_map (co_kL hob) cs

theorem tri_reg (L : List Nat) (M : List Nm) (hΓ : GOk1 P Γ) {id : Nat} {draw : Bool} (hd : draw = true → P.follows .mixedOrders = true ∧ regOk C ops = true) (he : ereg P Γ C N ops L M st = some sf) (hq : Q .normal sf) :
    Tri P N st (.region id ops draw) Q := by
  unfold ereg at he
  split at he
  case h_2 => cases he
  rename_i s hs
  have h1 : Tri P N st (.region id ops draw) (fun e s' => e = .normal ∧ s' = s) := tri_region hΓ hd (by rw [eregion_eq]; exact hs) ⟨rfl, rfl⟩
  intro B a w hN hr
  refine wp_mono (h1 B a w hN hr) ?_
  rintro e a' w' ⟨s', ⟨rfl, rfl⟩, hr'⟩
  exact ⟨sf, hq, keep_le he B a' w' hN.1 hr'⟩

end

/-! ### What simp runs -/
def minI (x y : Int) : Int := if y < x then y else x
def maxI (x y : Int) : Int := if x < y then y else x
@[simp] theorem smin_int (k k2 : IntKind) (x y : Int) : smin (.int k x) (.int k2 y) = some (.int k (minI x y)) := rfl
@[simp] theorem smax_int (k k2 : IntKind) (x y : Int) : smax (.int k x) (.int k2 y) = some (.int k (maxI x y)) := rfl
attribute [simp] Value.oneCell' ereg erunL estep eff gd dstOk eop dflt sop sbin ibin isShift ishift sun sconv slLen calleeA ev leafOk allV ldc putSt setF keep allOb memN lk lo rets rvar
attribute [simp] rootOk rootOf lkR nmOf eload efield eindex echeck eextract ebuild znil efill ebuildS optI eslice emake emakeR ecopy ebytes bytesOf enil eappend appT srcT bump bumpO ecall tagsOf backSt backAV nameC nameT zg enterSt leaveSt hvy All2P tagCo tagZ CoL lkN sepN
attribute [simp] kL.eq_1 kL.eq_2 kL.eq_3 kL.eq_4 kL.eq_5 kL.eq_6 kL.eq_7 kL.eq_8 kT.eq_1 kT.eq_2 kA.eq_1 kA.eq_2 kA.eq_3 leafP.eq_1 leafP.eq_2 leafP.eq_3 isPure.eq_1 isPure.eq_2 leafH.eq_1 leafH.eq_2 leafH.eq_3 leafH.eq_4 isHand.eq_1 isHand.eq_2 isHand.eq_3 live.eq_1 live.eq_2 live.eq_3 isRes.eq_1 isRes.eq_2 isRes.eq_3 isRef.eq_1 isRef.eq_2 strip.eq_1 strip.eq_2 strip.eq_3 stripL.eq_1 stripL.eq_2 stripA.eq_1 stripA.eq_2 stripA.eq_3 flagL.eq_1 flagL.eq_2 nameL.eq_1 nameL.eq_2 nameX.eq_1 nameX.eq_2 nameX.eq_3 nameR.eq_1 nameR.eq_2 toV.eq_1 toV.eq_2 flat.eq_1 flat.eq_2 flat.eq_3 CoA.eq_1 CoA.eq_2 CoA.eq_3 CoA.eq_4 Co.eq_1 Co.eq_2 Co.eq_3 retAV.eq_1 retAV.eq_2 resSlot.eq_1 resSlot.eq_2 eargs.eq_1 eargs.eq_2
@[simp] theorem mkAgg_nil : mkAgg [] = .v (.agg #[]) := rfl
@[simp] theorem mkAgg_cons (c : AV) (r : List AV) : mkAgg (c :: r) = (match allV (c :: r) with
  | some vs => .v (.agg vs.toArray)
  | none => .agg (c :: r)) := rfl
@[simp] theorem mk_sl (ss : List (Nat × AV)) (oo : List (Nm × List AV)) : (mkSt ss oo).sl = lk ss := rfl
@[simp] theorem mk_ob (ss : List (Nat × AV)) (oo : List (Nm × List AV)) : (mkSt ss oo).ob = lo oo := rfl
@[simp] theorem mk_G (ss : List (Nat × AV)) (oo : List (Nm × List AV)) : (mkSt ss oo).G = zg := rfl

theorem nodraw {P : Program} {C : Cfg} {ops : Array Oper} : false = true → P.follows .mixedOrders = true ∧ regOk C ops = true := fun h => by cases h

/-- 'x' has come to 'sf': a word that simp does not open. -/
def Is (x : Option St) (sf : St) : Prop := x = some sf
theorem Is.mk {s : St} : Is (some s) s := rfl

/-- A region and what follows: the state behind it is found by running it. -/
theorem tri_step {P : Program} {Γ : Ctx1} {C : Cfg} {N : Nat} {st : St} {ops : Array Oper} {id : Nat} {draw : Bool} {y : Code} {Q : Exit → St → Prop} (L : List Nat) (M : List Nm) (hΓ : GOk1 P Γ)
    (hd : draw = true → P.follows .mixedOrders = true ∧ regOk C ops = true) (h : ∃ sf, Is (ereg P Γ C N ops L M st) sf ∧ Tri P N sf y Q) : Tri P N st (.seq (.region id ops draw) y) Q := by
  obtain ⟨sf, he, hq⟩ := h
  exact tri_seq (tri_reg L M hΓ hd he hq)
theorem tri_last {P : Program} {Γ : Ctx1} {C : Cfg} {N : Nat} {st : St} {ops : Array Oper} {id : Nat} {draw : Bool} {Q : Exit → St → Prop} (L : List Nat) (M : List Nm) (hΓ : GOk1 P Γ)
    (hd : draw = true → P.follows .mixedOrders = true ∧ regOk C ops = true) (h : ∃ sf, Is (ereg P Γ C N ops L M st) sf ∧ Q .normal sf) : Tri P N st (.region id ops draw) Q := by
  obtain ⟨sf, he, hq⟩ := h
  exact tri_reg L M hΓ hd he hq

theorem enters_of {P : Program} {f : FuncId} {fn : Func} (hf : P.funcs[f]? = some fn) (h1 : (fn.name == "runtime.NumGoroutine") = false) (h2 : fn.body.isNone = false) : Enters P f := by
  intro args w
  have h1' : ¬ fn.name = "runtime.NumGoroutine" := by simpa using h1
  have h2' : ¬ fn.body = none := by cases hb : fn.body with
    | none => rw [hb] at h2; cases h2
    | some => simp
  simp [callFunc, hf, h1', h2']

end Caw

namespace Caw
open Go Go.RowKit

/-! ### Contexts -/
def ctxOf : List (FuncId × Fn1) → Ctx1
  | [], _ => none
  | p :: r, f => if f = p.1 then some p.2 else ctxOf r f
attribute [simp] ctxOf

section
variable {P : Program} {B : Base} {w : World} {E : Env} {st st2 : St} {a : Act}

theorem gok_nil : GOk1 P (ctxOf []) := fun f F h => by cases h
theorem gok_cons {f : FuncId} {F : Fn1} {l : List (FuncId × Fn1)} (hs : Spec1 P f F) (he : Enters P f) (h : GOk1 P (ctxOf l)) : GOk1 P (ctxOf ((f, F) :: l)) := by
  intro g G hg
  simp only [ctxOf] at hg
  split at hg
  · rename_i e; subst e; cases hg; exact ⟨hs, he⟩
  · exact h g G hg

/-! ### Arguments of which less is told -/
/-- Leaves without names of slices that grow, but those that stay. -/
def CoP (x y : AV) : Prop := ∀ φ ψ s s2, CoL φ ψ s s2 x y
def CoPA (x y : AV) : Prop := ∀ φ ψ s s2, Co φ ψ s s2 x y

def LeSt (s s2 : St) : Prop := (∀ i, Co some some s s2 (s.sl i) (s2.sl i)) ∧ (∀ n cs2, s2.ob n = some cs2 → ∃ cs, s.ob n = some cs ∧ All2P (CoL some some s s2) cs cs2) ∧ ∀ n, s2.G n = 0

theorem specAt_le {f : FuncId} {ys ys' : List AV} {r : AV} {o : Option (List AV)} (h : SpecAt P f ys' r o) (hl : ys'.length = ys.length) (hle : LeSt (enterSt ys) (enterSt ys')) : SpecAt P f ys r o := by
  intro B E args w hBw hTb hr hlen
  have hv := hr.view (st2 := enterSt ys') (φ := some) (ψ := some) (fun n m k h1 h2 => by cases h1; cases h2; rfl) (fun n m k h1 h2 => by cases h1; cases h2; rfl) (fun _ => rfl) (a2 := ⟨args, []⟩) (N2 := B.N) hr.defers hr.size
    (fun i => ⟨_, hr.sl i, hle.1 i⟩) (fun n cs2 hn => by
      obtain ⟨cs, h1, h2⟩ := hle.2.1 n cs2 hn
      exact ⟨n, cs, rfl, h1, h2⟩)
  exact h _ _ args w hBw hTb hv (hlen.trans hl.symm)

theorem all2P_getD {R : AV → AV → Prop} (hR : R (.v undef) (.v undef)) : ∀ {xs ys : List AV}, All2P R xs ys → ∀ i, R (xs.getD i (.v undef)) (ys.getD i (.v undef))
  | [], [], _, i => by simpa using hR
  | x :: xs, y :: ys, h, 0 => h.1
  | x :: xs, y :: ys, h, i + 1 => by
    have := all2P_getD hR h.2 i
    simpa [List.getD] using this

theorem co_undef (φ ψ : Nm → Option Nm) (s s2 : St) : Co φ ψ s s2 (.v undef) (.v undef) := by
  show Value.tuple #[] = Value.tuple #[]
  rfl

theorem noRef_enter {ys : List AV} (h : (ys.all fun y => !isRef y) = true) : enterSt ys = ⟨fun i => ys.getD i (.v undef), fun _ => none, zg⟩ := by
  cases ys with
  | nil => rfl
  | cons y r =>
    cases y <;> first | rfl | simp [isRef] at h

/-- Arguments none of which is an object that is handed in. -/
theorem le_plain {ys ys' : List AV} (h : All2P CoPA ys ys') (h1 : (ys.all fun y => !isRef y) = true) (h2 : (ys'.all fun y => !isRef y) = true) : LeSt (enterSt ys) (enterSt ys') := by
  rw [noRef_enter h1, noRef_enter h2]
  refine ⟨fun i => ?_, fun n cs2 hn => (by cases hn), fun _ => rfl⟩
  exact all2P_getD (R := CoPA) (fun φ ψ s s2 => co_undef φ ψ s s2) h i _ _ _ _

theorem le_ref {cs cs' ys ys' : List AV} (hc : ∀ s s2, s.G = zg → All2P (CoL some some s s2) (nameC zg 0 1 0 cs) (nameC zg 0 1 0 cs')) (h : All2P CoPA ys ys') : LeSt (enterSt (.ref cs :: ys)) (enterSt (.ref cs' :: ys')) := by
  refine ⟨fun i => ?_, fun n cs2 hn => ?_, fun _ => rfl⟩
  · simp only [enterSt]
    by_cases hi : i = 0
    · simp only [hi, if_true]
      show _ ∧ _ ∧ _
      refine ⟨rfl, rfl, ?_⟩
      simp
    · simp only [hi, if_false]
      exact all2P_getD (R := CoPA) (fun φ ψ s s2 => co_undef φ ψ s s2) h (i - 1) _ _ _ _
  · simp only [enterSt] at hn
    split at hn
    case isFalse => cases hn
    rename_i e
    subst e
    simp only [Option.some.injEq] at hn
    subst hn
    exact ⟨_, by simp [enterSt], hc _ _ rfl⟩

/-- A contract over typed arguments. -/
theorem spec_of {f : FuncId} {F : Fn1} (h : ∀ ys r o, F ys = some (r, o) → ∃ ys', SpecAt P f ys' r o ∧ ys'.length = ys.length ∧ LeSt (enterSt ys) (enterSt ys')) : Spec1 P f F := by
  intro ys r o hF
  obtain ⟨ys', h1, h2, h3⟩ := h ys r o hF
  exact specAt_le h1 h2 h3
end

/-! ### Cells -/
theorem coP_v (x : Value) : CoP (.v x) (.v x) := by
  intro φ ψ s s2
  unfold CoL
  split <;> simp_all
theorem coP_nil (sz : Nat) : CoP (.v (.slice none 0 0)) (.sl sz [] none) := by
  intro φ ψ s s2
  exact ⟨rfl, trivial⟩
theorem coP_sl (sz : Nat) (es : List AV) (tg : Tg) : CoP (.sl sz es tg) (.sl sz es none) := by
  intro φ ψ s s2
  exact ⟨rfl, rfl, trivial⟩
theorem All2P.app {R : AV → AV → Prop} : ∀ {xs ys xs' ys' : List AV}, All2P R xs ys → All2P R xs' ys' → All2P R (xs ++ xs') (ys ++ ys')
  | [], [], _, _, _, h => h
  | _ :: _, _ :: _, _, _, h, h' => ⟨h.1, All2P.app h.2 h'⟩
theorem All2P.mono {R S : AV → AV → Prop} (hRS : ∀ x y, R x y → S x y) : ∀ {xs ys : List AV}, All2P R xs ys → All2P S xs ys
  | [], [], _ => trivial
  | _ :: _, _ :: _, h => ⟨hRS _ _ h.1, All2P.mono hRS h.2⟩

@[simp] theorem splice_zero (c : AV) (cs xs : List AV) (sz : Nat) : splice (c :: cs) 0 xs sz = xs ++ (c :: cs).drop sz := by simp [splice]
@[simp] theorem splice_succ (c : AV) (cs : List AV) (k : Nat) (xs : List AV) (sz : Nat) : splice (c :: cs) (k + 1) xs sz = c :: splice cs k xs sz := by
  simp [splice, Nat.add_right_comm]
@[simp] theorem cut_zero (c : AV) (cs : List AV) (sz : Nat) : cut (c :: cs) 0 sz = (c :: cs).take sz := by simp [cut]
@[simp] theorem cut_succ (c : AV) (cs : List AV) (k sz : Nat) : cut (c :: cs) (k + 1) sz = cut cs k sz := by simp [cut]

/-- A value's cells, out of an abstract value. -/
def cellsA : AV → Option (List AV)
  | .agg cs => some cs
  | .v (.agg vs) => some (vs.toList.map .v)
  | _ => none
theorem cellsA_co {x : AV} {cs cs' : List AV} (h : cellsA x = some cs) (hc : All2P CoP cs cs') : CoPA x (.agg cs') := by
  intro φ ψ s s2
  unfold cellsA at h
  split at h
  · cases h
    exact hc.mono (fun x y h => h φ ψ s s2)
  · cases h
    exact hc.mono (fun x y h => h φ ψ s s2)
  · cases h

/-- Bytes. -/
def encB (l : List Int) : List AV := l.map fun n => .v (.int .u8 n)
@[simp] theorem encB_len (l : List Int) : (encB l).length = l.length := by simp [encB]
@[simp] theorem bytesOf_encB : ∀ l : List Int, bytesOf (encB l) = some l
  | [] => rfl
  | n :: l => by
    have := bytesOf_encB l
    simp only [encB, List.map_cons, bytesOf] at this ⊢
    rw [this]; rfl
theorem encB_of {es : List AV} {l : List Int} (h : bytesOf es = some l) : es = encB l := bytesOf_cells h
@[simp] theorem encB_app (a b : List Int) : encB a ++ encB b = encB (a ++ b) := by simp [encB]
@[simp] theorem encB_take (k : Nat) (l : List Int) : (encB l).take k = encB (l.take k) := by simp [encB]
@[simp] theorem encB_drop (k : Nat) (l : List Int) : (encB l).drop k = encB (l.drop k) := by simp [encB]
theorem encB_get (l : List Int) (k : Nat) (h : k < l.length) : (encB l)[k]? = some (.v (.int .u8 l[k])) := by simp [encB, h]
@[simp] theorem encB_flat (l : List Int) : ((encB l).all fun y => (flat y).all leafOk) = true := by
  simp [encB, List.all_eq_true, flat, leafOk, Value.oneCell']
@[simp] theorem encB_rows : ∀ l : List Int, ((encB l).flatMap flat).map strip = encB l
  | [] => rfl
  | n :: l => by
    have := encB_rows l
    simp only [encB, List.map_cons, List.flatMap_cons, flat, List.cons_append, List.nil_append, strip] at this ⊢
    rw [this]

def decB : AV → Option (List Int)
  | .v (.slice none 0 0) => some []
  | .sl 1 es _ => bytesOf es
  | _ => none
@[simp] theorem decB_nil : decB (.v (.slice none 0 0)) = some [] := rfl
@[simp] theorem decB_sl (es : List AV) (tg : Tg) : decB (.sl 1 es tg) = bytesOf es := rfl
theorem decB_co {x : AV} {l : List Int} (h : decB x = some l) : CoP x (.sl 1 (encB l) none) := by
  unfold decB at h
  split at h
  · cases h; exact coP_nil 1
  · rw [encB_of h]; exact coP_sl _ _ _
  · cases h

/-! ### Reading cells one after the other -/
def pI (k : IntKind) : List AV → Option (Int × List AV)
  | .v (.int k' n) :: r => if k' = k then some (n, r) else none
  | _ => none
def pT : List AV → Option (Bool × List AV)
  | .v (.bool b) :: r => some (b, r)
  | _ => none
def pS : List AV → Option (ByteArray × List AV)
  | .v (.string b) :: r => some (b, r)
  | _ => none
def pB : List AV → Option (List Int × List AV)
  | x :: r => (decB x).map (·, r)
  | _ => none
@[simp] theorem pI_v (k : IntKind) (n : Int) (r : List AV) : pI k (.v (.int k n) :: r) = some (n, r) := by simp [pI]
@[simp] theorem pT_v (b : Bool) (r : List AV) : pT (.v (.bool b) :: r) = some (b, r) := rfl
@[simp] theorem pS_v (b : ByteArray) (r : List AV) : pS (.v (.string b) :: r) = some (b, r) := rfl
@[simp] theorem pB_c (x : AV) (r : List AV) : pB (x :: r) = (decB x).map (·, r) := rfl

/-- What a reader reads is what the cells tell. -/
def Snd {α : Type} (R : AV → AV → Prop) (p : List AV → Option (α × List AV)) (enc : α → List AV) : Prop := ∀ cs x r, p cs = some (x, r) → ∃ pre, cs = pre ++ r ∧ All2P R pre (enc x)
theorem pI_snd (k : IntKind) : Snd CoP (pI k) (fun n => [.v (.int k n)]) := by
  intro cs x r h
  unfold pI at h
  split at h
  · split at h
    · rename_i e; subst e; cases h; exact ⟨[_], rfl, coP_v _, trivial⟩
    · cases h
  · cases h
theorem pT_snd : Snd CoP pT (fun b => [.v (.bool b)]) := by
  intro cs x r h
  unfold pT at h
  split at h
  · cases h; exact ⟨[_], rfl, coP_v _, trivial⟩
  · cases h
theorem pS_snd : Snd CoP pS (fun b => [.v (.string b)]) := by
  intro cs x r h
  unfold pS at h
  split at h
  · cases h; exact ⟨[_], rfl, coP_v _, trivial⟩
  · cases h
theorem pB_snd : Snd CoP pB (fun l => [.sl 1 (encB l) none]) := by
  intro cs x r h
  unfold pB at h
  split at h
  · simp only [Option.map_eq_some_iff, Prod.mk.injEq] at h
    obtain ⟨y, hy, rfl, rfl⟩ := h
    exact ⟨[_], rfl, decB_co hy, trivial⟩
  · cases h
/-- One behind the other. -/
theorem Snd.step {α β : Type} {R : AV → AV → Prop} {p : List AV → Option (α × List AV)} {enc : α → List AV} (hp : Snd R p enc) {cs : List AV} {k : α × List AV → Option β} {y : β} (h : (p cs).bind k = some y) :
    ∃ x r pre, k (x, r) = some y ∧ cs = pre ++ r ∧ All2P R pre (enc x) := by
  rw [Option.bind_eq_some_iff] at h
  obtain ⟨⟨x, r⟩, h1, h2⟩ := h
  obtain ⟨pre, h3, h4⟩ := hp cs x r h1
  exact ⟨x, r, pre, h2, h3, h4⟩

/-- A whole value. -/
def whole {α : Type} (p : List AV → Option (α × List AV)) (x : AV) : Option α :=
  match cellsA x with
  | some cs => (match p cs with
    | some (y, []) => some y
    | _ => none)
  | none => none
theorem whole_co {α : Type} {p : List AV → Option (α × List AV)} {enc : α → List AV} (hp : Snd CoP p enc) {x : AV} {y : α} (h : whole p x = some y) : CoPA x (.agg (enc y)) := by
  unfold whole at h
  split at h
  · rename_i cs hcs
    split at h
    · rename_i y' hy
      cases h
      obtain ⟨pre, h1, h2⟩ := hp _ _ _ hy
      rw [List.append_nil] at h1
      subst h1
      exact cellsA_co hcs h2
    · cases h
  · cases h
@[simp] theorem whole_agg {α : Type} (p : List AV → Option (α × List AV)) (cs : List AV) : whole p (.agg cs) = (match p cs with | some (y, []) => some y | _ => none) := rfl
@[simp] theorem whole_v {α : Type} (p : List AV → Option (α × List AV)) (vs : Array Value) : whole p (.v (.agg vs)) = (match p (vs.toList.map .v) with | some (y, []) => some y | _ => none) := rfl

/-- Elements. -/
def eltsOf {α : Type} (p : List AV → Option (α × List AV)) : List AV → Option (List α)
  | [] => some []
  | x :: r => match whole p x, eltsOf p r with
    | some y, some ys => some (y :: ys)
    | _, _ => none
def encS {α : Type} (enc : α → List AV) (l : List α) : List AV := l.map fun x => .agg (enc x)
theorem eltsOf_encS {α : Type} {p : List AV → Option (α × List AV)} {enc : α → List AV} (h : ∀ x, p (enc x) = some (x, [])) : ∀ l, eltsOf p (encS enc l) = some l
  | [] => rfl
  | x :: l => by
    have := eltsOf_encS h l
    simp only [encS, List.map_cons, eltsOf, whole_agg, h] at this ⊢
    rw [this]
@[simp] theorem encS_len {α : Type} (enc : α → List AV) (l : List α) : (encS enc l).length = l.length := by simp [encS]
@[simp] theorem encS_app {α : Type} (enc : α → List AV) (a b : List α) : encS enc a ++ encS enc b = encS enc (a ++ b) := by simp [encS]
@[simp] theorem encS_snoc {α : Type} (enc : α → List AV) (a : List α) (x : α) : encS enc a ++ [.agg (enc x)] = encS enc (a ++ [x]) := by simp [encS]
@[simp] theorem encS_take {α : Type} (enc : α → List AV) (k : Nat) (l : List α) : (encS enc l).take k = encS enc (l.take k) := by simp [encS]
@[simp] theorem encS_drop {α : Type} (enc : α → List AV) (k : Nat) (l : List α) : (encS enc l).drop k = encS enc (l.drop k) := by simp [encS]
theorem encS_get {α : Type} (enc : α → List AV) (l : List α) (k : Nat) (h : k < l.length) : (encS enc l)[k]? = some (.agg (enc l[k])) := by simp [encS, h]
theorem encS_leaf {α : Type} (enc : α → List AV) (l : List α) (h : ∀ x, (enc x).all leafOk = true) : ((encS enc l).all fun y => (flat y).all leafOk) = true := by
  simp only [encS, List.all_map, List.all_eq_true]
  intro x _
  simpa [flat, List.all_eq_true] using h x

open Classical in
/-- A slice of structs. -/
noncomputable def decS {α : Type} (sz : Nat) (p : List AV → Option (α × List AV)) (enc : α → List AV) : AV → Option (List α)
  | .v (.slice none 0 0) => some []
  | .sl n es _ => if n = sz then (match eltsOf p es with
    | some l => if es = encS enc l then some l else none
    | none => none) else none
  | _ => none
@[simp] theorem decS_nil {α : Type} (sz : Nat) (p : List AV → Option (α × List AV)) (enc : α → List AV) : decS sz p enc (.v (.slice none 0 0)) = some [] := rfl
theorem decS_enc {α : Type} {sz : Nat} {p : List AV → Option (α × List AV)} {enc : α → List AV} (h : ∀ x, p (enc x) = some (x, [])) (l : List α) (tg : Tg) : decS sz p enc (.sl sz (encS enc l) tg) = some l := by
  simp only [decS, if_true, eltsOf_encS h]
theorem decS_co {α : Type} {sz : Nat} {p : List AV → Option (α × List AV)} {enc : α → List AV} {x : AV} {l : List α} (h : decS sz p enc x = some l) : CoP x (.sl sz (encS enc l) none) := by
  unfold decS at h
  split at h
  · cases h; exact coP_nil sz
  · split at h
    case isFalse => cases h
    rename_i e
    subst e
    split at h
    · split at h
      · rename_i he; cases h; rw [he]; exact coP_sl _ _ _
      · cases h
    · cases h
  · cases h
noncomputable def pSl {α : Type} (sz : Nat) (p : List AV → Option (α × List AV)) (enc : α → List AV) : List AV → Option (List α × List AV)
  | x :: r => (decS sz p enc x).map (·, r)
  | _ => none
@[simp] theorem pSl_c {α : Type} (sz : Nat) (p : List AV → Option (α × List AV)) (enc : α → List AV) (x : AV) (r : List AV) : pSl sz p enc (x :: r) = (decS sz p enc x).map (·, r) := rfl
theorem pSl_snd {α : Type} (sz : Nat) (p : List AV → Option (α × List AV)) (enc : α → List AV) : Snd CoP (pSl sz p enc) (fun l => [.sl sz (encS enc l) none]) := by
  intro cs x r h
  unfold pSl at h
  split at h
  · simp only [Option.map_eq_some_iff, Prod.mk.injEq] at h
    obtain ⟨y, hy, rfl, rfl⟩ := h
    exact ⟨[_], rfl, decS_co hy, trivial⟩
  · cases h

/-! ### The cells of an object that is handed in -/
/-- Leaves, as an object's cells that are named by place. -/
def CoR (x y : AV) : Prop := ∀ (n : Nm) (s s2 : St), s.G = zg → CoL some some s s2 (nameL zg n x) (nameL zg n y)
theorem coR_of {x y : AV} (h : CoP x y) : CoR x y := by
  intro n s s2 hG
  have h1 := h (fun _ => none) (fun _ => none) s s2
  have h2 := h some some s s2
  cases y with
  | sl sz es tg =>
    cases tg with
    | none =>
      have e : nameL zg n (.sl sz es none) = .sl sz es none := rfl
      rw [e]
      cases x with
      | sl sz' es' tg' =>
        obtain ⟨a, b, -⟩ := h2
        cases tg' with
        | none => exact ⟨a, b, trivial⟩
        | some t => exact ⟨a, b, trivial⟩
      | _ => exact h2
    | some t =>
      obtain ⟨m, g⟩ := t
      cases x with
      | sl sz' es' tg' =>
        obtain ⟨a, b, c⟩ := h1
        simp only [tagCo] at c
        obtain ⟨-, c⟩ := c
        split at c
        · cases c.2
        · exact c.elim
      | v x =>
        unfold CoL at h2
        split at h2 <;> try (first | exact h2.elim | (rename_i hh _; cases hh; done) | skip)
        all_goals first
          | (rename_i a b; cases a; cases b; exact ⟨h2.1, rfl⟩)
          | simp_all
      | _ => exact h2.elim
  | dead => cases x <;> trivial
  | v y =>
    cases x with
    | sl sz es tg => exact h2.elim
    | _ => exact h2
  | _ =>
    cases x with
    | sl sz es tg => exact h2.elim
    | _ => exact h2
/-- A slice that may grow, of structs. -/
noncomputable def pGr {α : Type} (sz : Nat) (p : List AV → Option (α × List AV)) (enc : α → List AV) : List AV → Option (List α × List AV)
  | .sl n es (some t) :: r => (decS sz p enc (.sl n es (some t))).map (·, r)
  | .v (.slice none 0 0) :: r => some ([], r)
  | _ => none
def flg : Tg := some ((0, 0, 0), 0)
@[simp] theorem pGr_sl {α : Type} (sz : Nat) (p : List AV → Option (α × List AV)) (enc : α → List AV) (n : Nat) (es : List AV) (t : Nm × Nat) (r : List AV) : pGr sz p enc (.sl n es (some t) :: r) = (decS sz p enc (.sl n es (some t))).map (·, r) := rfl
@[simp] theorem pGr_nil {α : Type} (sz : Nat) (p : List AV → Option (α × List AV)) (enc : α → List AV) (r : List AV) : pGr sz p enc (.v (.slice none 0 0) :: r) = some ([], r) := rfl
theorem pGr_snd {α : Type} (sz : Nat) (p : List AV → Option (α × List AV)) (enc : α → List AV) : Snd CoR (pGr sz p enc) (fun l => [.sl sz (encS enc l) flg]) := by
  intro cs x r h
  unfold pGr at h
  split at h
  · simp only [Option.map_eq_some_iff, Prod.mk.injEq] at h
    obtain ⟨y, hy, rfl, rfl⟩ := h
    refine ⟨[_], rfl, ?_, trivial⟩
    intro n s s2 hG
    have := decS_co hy some some s s2
    obtain ⟨a, b, -⟩ := this
    exact ⟨a, b, rfl, by rw [hG], rfl⟩
  · cases h
    refine ⟨[_], rfl, ?_, trivial⟩
    intro n s s2 hG
    exact ⟨rfl, rfl⟩
  · cases h
theorem Snd.coR {α : Type} {p : List AV → Option (α × List AV)} {enc : α → List AV} (h : Snd CoP p enc) : Snd CoR p enc := by
  intro cs x r hx
  obtain ⟨pre, h1, h2⟩ := h cs x r hx
  exact ⟨pre, h1, h2.mono (fun _ _ => coR_of)⟩
theorem all2_coR {s s2 : St} (hG : s.G = zg) : ∀ {cs cs' : List AV} (k : Nat), All2P CoR cs cs' → All2P (CoL some some s s2) (nameC zg 0 1 k cs) (nameC zg 0 1 k cs')
  | [], [], _, _ => trivial
  | _ :: _, _ :: _, k, h => ⟨h.1 _ _ _ hG, all2_coR hG (k + 1) h.2⟩
/-- All the cells that were handed in. -/
def wholeC {α : Type} (p : List AV → Option (α × List AV)) (cs : List AV) : Option α :=
  match p cs with
  | some (y, []) => some y
  | _ => none
theorem wholeC_co {α : Type} {p : List AV → Option (α × List AV)} {enc : α → List AV} (hp : Snd CoR p enc) {cs : List AV} {y : α} (h : wholeC p cs = some y) : All2P CoR cs (enc y) := by
  unfold wholeC at h
  split at h
  · rename_i y' hy
    cases h
    obtain ⟨pre, h1, h2⟩ := hp _ _ _ hy
    rw [List.append_nil] at h1
    subst h1
    exact h2
  · cases h
end Caw

/-! Rows that are not written any more are read as slices. -/
namespace Caw
open Go Go.RowKit

/-- A cell that shares nothing with what is written. -/
def pureL : AV → Bool
  | .v x => x.oneCell'
  | .sl _ _ _ => true
  | _ => false
def rowsOf (cs : List AV) (sz l : Nat) : List AV := (List.range l).map fun i => .agg (cut cs (i * sz) sz)
def gzL (n : Nm) (cs : List AV) : AV → AV
  | .osl m o l c => if m = n then (if (decide (o + l ≤ cs.length) && decide (l ≤ c) && (cut cs o l).all pureL) = true then .sl 1 (cut cs o l) none else .dead) else .osl m o l c
  | .own m sz l => if m = n then (if (decide (l * sz ≤ cs.length) && (cs.take (l * sz)).all pureL) = true then .sl sz (rowsOf cs sz l) none else .dead) else .own m sz l
  | .ptr m k => if m = n then .dead else .ptr m k
  | .v x => .v x
  | .sl sz es tg => .sl sz es tg
  | .rptr x k => .rptr x k
  | _ => .dead
def gzA (n : Nm) (cs : List AV) : AV → AV
  | .agg xs => .agg (xs.map (gzL n cs))
  | .fn g xs => .fn g (xs.map (gzL n cs))
  | x => gzL n cs x
def gzT (n : Nm) (cs : List AV) : AV → AV
  | .tup xs => .tup (xs.map (gzA n cs))
  | x => gzA n cs x
def gzS (n : Nm) (cs : List AV) (st : St) : St := ⟨fun i => gzT n cs (st.sl i), fun m => if m = n then none else (st.ob m).map (·.map (gzL n cs)), st.G⟩
def gzE (E : Env) (n : Nm) (k0 : Nat) : Env := ⟨E.ρ, E.τ, fun b k => E.pr b k ∨ (b = E.ρ n ∧ k < k0)⟩

section
variable {P : Program} {B : Base} {w : World} {E : Env} {st : St} {a : Act} {n : Nm} {cs : List AV} {vs : Array Value} {e : TypeId}
theorem gz_PV {x : AV} {y : Value} {pr : Pr} (hx : pureL x = true) (hp : ∀ b k, E.pr b k → pr b k) (h : V E st w x y) : PV w pr x y := by
  cases x with
  | v x => rw [V_v h]; exact .v _
  | sl sz es tg =>
    cases h with
    | sl h ht => exact h.mono (Fr.refl _ _) hp
  | _ => simp [pureL] at hx
theorem gz_flat {x : AV} (hx : pureL x = true) : flat x = [x] := by
  cases x with
  | v v => cases v <;> first | rfl | (simp [pureL, Value.oneCell'] at hx; done)
  | sl sz es tg => rfl
  | _ => simp [pureL] at hx

theorem V_gzL (hh : w.heap[E.ρ n]? = some (.cells vs e (0, 0))) (hl : cs.length ≤ vs.size) (hv : ∀ i (hi : i < cs.length), V E st w cs[i] (vs.getD i undef)) {x : AV} {y : Value} (h : V E st w x y) :
    V (gzE E n vs.size) (gzS n cs st) w (gzL n cs x) y := by
  have hcell : ∀ i, i < cs.length → w.cell? ⟨E.ρ n, i, none⟩ = some (vs.getD i undef) := by
    intro i hi
    have hi2 : i < vs.size := by omega
    simp [World.cell?, hh, hi2, Array.getD]
  cases x with
  | dead => exact .dead _
  | agg => exact .dead _
  | tup => exact .dead _
  | ref => exact .dead _
  | fn => exact .dead _
  | v x => rw [V_v h]; exact .v _
  | sl sz es tg =>
    cases h with
    | sl h ht => exact .sl (h.mono (Fr.refl _ _) (fun _ _ => .inl)) ht
  | rptr x k =>
    cases h with
    | rptr cells hp h hc => exact .rptr cells (fun j hj => .inl (hp j hj)) (fun j hj => (h j hj).mono (Fr.refl _ _) (fun _ _ => .inl)) hc
  | ptr m k =>
    simp only [gzL]
    split
    · exact .dead _
    · rename_i hm
      cases h with
      | ptr h => exact .ptr (E := gzE E n vs.size) (by simpa [gzS, hm] using h)
  | osl m o l c =>
    simp only [gzL]
    by_cases hm : m = n
    · rw [if_pos hm]
      split
      case isFalse => exact .dead _
      rename_i hc
      simp only [Bool.and_eq_true, decide_eq_true_eq] at hc
      obtain ⟨⟨h1, h2⟩, h3⟩ := hc
      subst hm
      cases h with
      | osl hob =>
        have hlen : (cut cs o l).length = l := by simp [cut]; omega
        have hel : ∀ i (hi : i < (cut cs o l).length), flat (cut cs o l)[i] = [(cut cs o l)[i]] ∧ PV w (gzE E m vs.size).pr (cut cs o l)[i] (vs.getD (o + i) undef) := by
          intro i hi
          have hp := List.all_eq_true.1 h3 _ (List.getElem_mem hi)
          have hi' : o + i < cs.length := by omega
          have e1 : (cut cs o l)[i] = cs[o + i] := by simp [cut]
          refine ⟨gz_flat hp, gz_PV (st := st) hp (fun _ _ => .inl) ?_⟩
          · rw [e1]; exact hv (o + i) hi'
        have key : PV w (gzE E m vs.size).pr (.sl 1 (cut cs o l) none) (.slice (some ⟨E.ρ m, o, none⟩) (cut cs o l).length c) := by
          refine .sl (fun i _ => vs.getD (o + i) undef) (by omega) (fun i hi => by rw [(hel i hi).1]; rfl) (fun i hi j hj => .inr ⟨rfl, by omega⟩) (fun i hi j hj => ?_) (fun i hi j hj => ?_)
          · have hf := hel i hi
            have hj0 : j = 0 := by rw [hf.1] at hj; simpa using hj
            subst hj0
            have e1 : (flat (cut cs o l)[i])[0] = (cut cs o l)[i] := by simp [hf.1]
            rw [e1]
            exact hf.2
          · have hj0 : j = 0 := by omega
            subst hj0
            rw [Nat.mul_one, Nat.add_zero]
            exact hcell (o + i) (by omega)
        rw [hlen] at key
        exact .sl key (fun _ _ h => by cases h)
    · rw [if_neg hm]
      cases h with
      | osl h => exact .osl (E := gzE E n vs.size) (by simpa [gzS, hm] using h)
  | own m s l =>
    simp only [gzL]
    by_cases hm : m = n
    · rw [if_pos hm]
      split
      case isFalse => exact .dead _
      rename_i hc
      simp only [Bool.and_eq_true, decide_eq_true_eq] at hc
      obtain ⟨h1, h3⟩ := hc
      subst hm
      cases h with
      | own hob hle hr =>
        rename_i cap
        have hlen : (rowsOf cs s l).length = l := by simp [rowsOf]
        have hij : ∀ i j, i < l → j < s → i * s + j < l * s := by
          intro i j hi hj
          calc i * s + j < i * s + s := by omega
            _ = (i + 1) * s := by rw [Nat.add_mul, Nat.one_mul]
            _ ≤ l * s := Nat.mul_le_mul_right _ hi
        have hfl : ∀ i (hi : i < (rowsOf cs s l).length), flat (rowsOf cs s l)[i] = cut cs (i * s) s := by
          intro i hi
          simp [rowsOf, flat]
        have hcl : ∀ i, i < l → (cut cs (i * s) s).length = s := by
          intro i hi
          have : (i + 1) * s ≤ l * s := Nat.mul_le_mul_right _ hi
          rw [Nat.add_mul, Nat.one_mul] at this
          simp [cut]; omega
        have key : PV w (gzE E m vs.size).pr (.sl s (rowsOf cs s l) none) (.slice (some ⟨E.ρ m, 0, none⟩) (rowsOf cs s l).length cap) := by
          refine .sl (fun i j => vs.getD (i * s + j) undef) (by omega) (fun i hi => by rw [hfl i hi, hcl i (by omega)]) (fun i hi j hj => .inr ⟨rfl, ?_⟩) (fun i hi j hj => ?_) (fun i hi j hj => ?_)
          · have := hij i j (by omega) hj
            omega
          · have hj' : j < s := by rw [hfl i hi, hcl i (by omega)] at hj; exact hj
            have hlt := hij i j (by omega) hj'
            have e1 : (flat (rowsOf cs s l)[i])[j] = cs[i * s + j] := by simp [hfl i hi, cut]
            rw [e1]
            have hp : pureL cs[i * s + j] = true := by
              have hlt2 : i * s + j < (cs.take (l * s)).length := by simp; omega
              have := List.all_eq_true.1 h3 _ (List.getElem_mem hlt2)
              simpa using this
            exact gz_PV hp (fun _ _ => .inl) (hv _ (by omega))
          · have := hij i j (by omega) hj
            rw [Nat.zero_add]
            exact hcell (i * s + j) (by omega)
        rw [hlen] at key
        exact .sl key (fun _ _ h => by cases h)
    · rw [if_neg hm]
      cases h with
      | own h hle hr => exact .own (E := gzE E n vs.size) (by simpa [gzS, hm] using h) hle hr

theorem V_gz_all {f : AV → AV} {E' : Env} {st' : St} (hf : ∀ {x y}, V E st w x y → V E' st' w (f x) y) {xs : List AV} {us : Array Value} (hl : xs.length = us.size)
    (h : ∀ i (hi : i < xs.length), V E st w xs[i] (us.getD i undef)) : (xs.map f).length = us.size ∧ ∀ i (hi : i < (xs.map f).length), V E' st' w (xs.map f)[i] (us.getD i undef) :=
  ⟨by simpa using hl, fun i hi => by
    rw [List.getElem_map]
    exact hf (h i (by simpa using hi))⟩
theorem V_gzA (hh : w.heap[E.ρ n]? = some (.cells vs e (0, 0))) (hl : cs.length ≤ vs.size) (hv : ∀ i (hi : i < cs.length), V E st w cs[i] (vs.getD i undef)) {x : AV} {y : Value} (h : V E st w x y) :
    V (gzE E n vs.size) (gzS n cs st) w (gzA n cs x) y := by
  cases x with
  | agg xs =>
    cases h with
    | agg h1 h2 =>
      have := V_gz_all (V_gzL hh hl hv) h1 h2
      exact .agg this.1 this.2
  | fn f xs =>
    cases h with
    | fn h1 h2 =>
      have := V_gz_all (V_gzL hh hl hv) h1 h2
      exact .fn this.1 this.2
  | _ => exact V_gzL hh hl hv h
theorem V_gzT (hh : w.heap[E.ρ n]? = some (.cells vs e (0, 0))) (hl : cs.length ≤ vs.size) (hv : ∀ i (hi : i < cs.length), V E st w cs[i] (vs.getD i undef)) {x : AV} {y : Value} (h : V E st w x y) :
    V (gzE E n vs.size) (gzS n cs st) w (gzT n cs x) y := by
  cases x with
  | tup xs =>
    cases h with
    | tup h1 h2 =>
      have := V_gz_all (V_gzA hh hl hv) h1 h2
      exact .tup this.1 this.2
  | _ => exact V_gzA hh hl hv h

theorem Rel0.gz (h : Rel0 B E st a w) (hn : st.ob n = some cs) : ∃ E2, Rel0 B E2 (gzS n cs st) a w := by
  obtain ⟨vs, e, hh, hl, hv⟩ := h.ob n cs hn
  have hne : ∀ m, (gzS n cs st).ob m ≠ none → m ≠ n ∧ st.ob m ≠ none := by
    intro m hm
    simp only [gzS] at hm
    split at hm
    · exact absurd rfl hm
    · rename_i h1; exact ⟨h1, by simpa using hm⟩
  have hrn : ∀ m, m ≠ n → st.ob m ≠ none → E.ρ m ≠ E.ρ n := fun m h1 h2 he => h1 (h.inj m n h2 (by rw [hn]; simp) he)
  refine ⟨gzE E n vs.size, fun i => V_gzT hh hl hv (h.sl i), fun m cs2 hm => ?_, fun m k hm hk he => h.inj m k (hne m hm).2 (hne k hk).2 he, fun m hm k hp => ?_, fun m hm => h.own m (hne m hm).2, fun m b e' ht => ?_, h.tdis, h.frame, h.keep, fun b k hp => .inl (h.prot b k hp), fun b k hp => ?_, fun b k hp => ?_, fun hm => h.pin (hne _ hm).2, h.defers, h.size⟩
  · have h1 := hne m (by rw [hm]; simp)
    simp only [gzS, if_neg h1.1, Option.map_eq_some_iff] at hm
    obtain ⟨cs1, h2, rfl⟩ := hm
    obtain ⟨us, e1, q1, q2, q3⟩ := h.ob m cs1 h2
    refine ⟨us, e1, q1, by simpa using q2, fun i hi => ?_⟩
    rw [List.getElem_map]
    exact V_gzL hh hl hv (q3 i (by simpa using hi))
  · obtain ⟨h1, h2⟩ := hne m hm
    rcases hp with hp | ⟨hp, -⟩
    · exact h.obp m h2 k hp
    · exact hrn m h1 h2 hp
  · obtain ⟨t1, t2, t3, t4⟩ := h.tau m b e' ht
    refine ⟨t1, t2, fun k hk hp => ?_, fun j hj => t4 j (hne j hj).2⟩
    rcases hp with hp | ⟨hp, -⟩
    · exact t3 k hk hp
    · exact t4 n (by rw [hn]; simp) hp.symm
  · rcases hp with hp | ⟨rfl, -⟩
    · exact h.prnew b k hp
    · exact .inr (h.own n (by rw [hn]; simp))
  · rcases hp with hp | ⟨rfl, -⟩
    · exact h.prlt b k hp
    · exact (Array.getElem?_eq_some_iff.1 hh).1

/-- Some objects are not written any more (the one that was handed in apart). -/
def frz (st : St) : List Nm → St
  | [] => st
  | n :: r => if n = (0, 1, 0) then frz st r else match st.ob n with
    | some cs => frz (gzS n cs st) r
    | none => frz st r
theorem Rel.frz : ∀ {l : List Nm} {st : St}, Rel B st a w → Rel B (frz st l) a w
  | [], _, h => h
  | n :: r, st, h => by
    simp only [Caw.frz]
    split
    · exact h.frz
    · split
      · rename_i cs hn
        obtain ⟨E, h⟩ := h
        obtain ⟨E2, h2⟩ := h.gz hn
        exact Rel.frz ⟨E2, h2⟩
      · exact h.frz
end

/-- The rows to which a value's slices lead. -/
def onL : AV → List Nm
  | .osl n _ _ _ => [n]
  | .own n _ _ => [n]
  | _ => []
def onA : AV → List Nm
  | .agg cs => cs.flatMap onL
  | .fn _ cs => cs.flatMap onL
  | x => onL x
def onT : AV → List Nm
  | .tup cs => cs.flatMap onA
  | x => onA x
end Caw

namespace Caw
open Go Go.RowKit

/-! ## An evaluator: what a function yields, reckoned -/
def usesO : Operand → List Nat
  | .tmp t => [t]
  | _ => []
def memI (x : Nat) : List Nat → Bool
  | [] => false
  | y :: r => if x = y then true else memI x r
def dedup : List Nat → List Nat
  | [] => []
  | x :: r => if memI x r then dedup r else x :: dedup r

def lkX : List (Nat × List Nat) → Nat → List Nat
  | [], _ => []
  | p :: r, i => if i = p.1 then p.2 else lkX r i
def dropI (d : Nat) : List Nat → List Nat
  | [] => []
  | x :: r => if x = d then dropI d r else x :: dropI d r
/-- The slots that are looked at from a code on: L behind it, X behind blocks, R behind the function. -/
def liveC (R : List Nat) : Code → List Nat → List (Nat × List Nat) → List Nat
  | .ret, _, _ => R
  | .exit id, _, X => lkX X id
  | .region _ ops _, L, _ => ops.toList.foldr (fun o L => o.op.operands.toList.foldr (fun x L => usesO x ++ L) (match o.guard, o.dst with
    | none, some d => dropI d L
    | _, _ => L)) L
  | .seq a b, L, X => liveC R a (liveC R b L X) X
  | .cond c a b, L, X => usesO c ++ (liveC R a L X ++ liveC R b L X)
  | .block id b, L, X => liveC R b L ((id, L) :: X)
  | .loop b, _, X => dedup (liveC R b (dedup (liveC R b [] X)) X)
  | .scope b, L, X => liveC R b L X
  | _, L, _ => L

/-- The objects to which a value leads. -/
def nmL : AV → List Nm
  | .ptr n _ => [n]
  | .osl n _ _ _ => [n]
  | .own n _ _ => [n]
  | _ => []
def nmA : AV → List Nm
  | .agg cs => cs.flatMap nmL
  | .fn _ cs => cs.flatMap nmL
  | x => nmL x
def nmT : AV → List Nm
  | .tup cs => cs.flatMap nmA
  | x => nmA x

/-! ### The evaluator's own state: slots in a tree, objects in a list -/
inductive Tr where
  | lf
  | nd (v : Option AV) (l r : Tr)
def getT (df : AV) : Tr → Nat → AV
  | .lf, _ => df
  | .nd v l r, n => match n with
    | 0 => v.getD df
    | m + 1 => if m % 2 = 0 then getT df l (m / 2) else getT df r (m / 2)
def insT (x : AV) : Nat → Tr → Nat → Tr
  | 0, t, _ => t
  | f + 1, t, n => match t with
    | .lf => (match n with
      | 0 => .nd (some x) .lf .lf
      | m + 1 => if m % 2 = 0 then .nd none (insT x f .lf (m / 2)) .lf else .nd none .lf (insT x f .lf (m / 2)))
    | .nd v l r => (match n with
      | 0 => .nd (some x) l r
      | m + 1 => if m % 2 = 0 then .nd v (insT x f l (m / 2)) r else .nd v l (insT x f r (m / 2)))
def mapT (f : AV → AV) : Tr → Tr
  | .lf => .lf
  | .nd v l r => .nd (v.map f) (mapT f l) (mapT f r)

theorem get_ins (df x : AV) : ∀ (f : Nat) (t : Tr) (n : Nat), n < 2 ^ f → ∀ i, getT df (insT x (f + 1) t n) i = if i = n then x else getT df t i := by
  intro f
  induction f with
  | zero =>
    intro t n hn i
    have : n = 0 := by simpa using hn
    subst this
    cases t with
    | lf =>
      simp only [insT]
      cases i with
      | zero => simp [getT]
      | succ m => simp only [getT]; split <;> simp
    | nd v l r =>
      simp only [insT]
      cases i with
      | zero => simp [getT]
      | succ m => simp [getT]
  | succ f ih =>
    intro t n hn i
    cases n with
    | zero =>
      cases t with
      | lf =>
        simp only [insT]
        cases i with
        | zero => simp [getT]
        | succ m => simp only [getT]; split <;> simp
      | nd v l r =>
        simp only [insT]
        cases i with
        | zero => simp [getT]
        | succ m => simp [getT]
    | succ m =>
      have hm : m / 2 < 2 ^ f := by rw [Nat.pow_succ] at hn; omega
      have e : ∀ k : Nat, (k + 1 = m + 1) ↔ (k % 2 = m % 2 ∧ k / 2 = m / 2) := by intro k; omega
      cases t with
      | lf =>
        rw [insT]
        by_cases hp : m % 2 = 0
        · rw [if_pos hp]
          cases i with
          | zero => simp [getT]
          | succ k =>
            simp only [getT, e k, hp]
            by_cases hk : k % 2 = 0
            · rw [if_pos hk, ih _ _ hm]
              simp [hk, getT]
            · rw [if_neg hk]
              simp [hk, getT]
        · rw [if_neg hp]
          cases i with
          | zero => simp [getT]
          | succ k =>
            simp only [getT, e k]
            by_cases hk : k % 2 = 0
            · rw [if_pos hk, if_neg (by omega)]
            · rw [if_neg hk, ih _ _ hm]
              have : k % 2 = m % 2 := by omega
              simp [this, getT]
      | nd v l r =>
        rw [insT]
        by_cases hp : m % 2 = 0
        · rw [if_pos hp]
          cases i with
          | zero => simp [getT]
          | succ k =>
            simp only [getT, e k, hp]
            by_cases hk : k % 2 = 0
            · rw [if_pos hk, ih _ _ hm, if_pos hk]
              simp [hk]
            · rw [if_neg hk, if_neg hk]
              simp [hk]
        · rw [if_neg hp]
          cases i with
          | zero => simp [getT]
          | succ k =>
            simp only [getT, e k]
            by_cases hk : k % 2 = 0
            · rw [if_pos hk, if_pos hk, if_neg (by omega)]
            · rw [if_neg hk, if_neg hk, ih _ _ hm]
              have : k % 2 = m % 2 := by omega
              simp [this]
theorem get_map (f : AV → AV) (df : AV) : ∀ (t : Tr) (i : Nat), getT (f df) (mapT f t) i = f (getT df t i)
  | .lf, i => rfl
  | .nd v l r, 0 => by cases v <;> rfl
  | .nd v l r, m + 1 => by
    simp only [mapT, getT]
    split
    · exact get_map f df l _
    · exact get_map f df r _

structure Es where
  t : Tr
  df : AV
  ob : List (Nm × List AV)
  G : Nm → Nat
def Es.st (s : Es) : St := ⟨getT s.df s.t, lo s.ob, s.G⟩

/-- Objects, by the names that there may be. -/
def obsOf (f : Obs) : List Nm → List (Nm × List AV)
  | [] => []
  | n :: r => match f n with
    | some cs => (n, cs) :: obsOf f r
    | none => obsOf f r
theorem lo_obsOf (f : Obs) : ∀ (l : List Nm), (∀ n, f n ≠ none → n ∈ l) → ∀ n, lo (obsOf f l) n = f n := by
  have key : ∀ (l : List Nm) (n : Nm), n ∈ l → lo (obsOf f l) n = f n := by
    intro l
    induction l with
    | nil => intro n hn; cases hn
    | cons m r ih =>
      intro n hn
      simp only [obsOf]
      cases hm : f m with
      | none =>
        simp only
        by_cases h : n ∈ r
        · exact ih n h
        · have : n = m := by simpa [h] using hn
          subst this
          rw [hm]
          have : ∀ l, f n = none → lo (obsOf f l) n = none := by
            intro l hl
            induction l with
            | nil => rfl
            | cons k q ihq =>
              simp only [obsOf]
              cases hk : f k with
              | none => exact ihq
              | some cs =>
                simp only [lo]
                rw [if_neg (by rintro rfl; rw [hl] at hk; cases hk)]
                exact ihq
          exact this r hm
      | some cs =>
        simp only [lo]
        by_cases h : n = m
        · subst h; rw [if_pos rfl, hm]
        · rw [if_neg h]
          exact ih n (by simpa [h] using hn)
  intro l hl n
  by_cases hn : n ∈ l
  · exact key l n hn
  · have hf : f n = none := by
      cases hc : f n with
      | none => rfl
      | some cs => exact absurd (hl n (by rw [hc]; simp)) hn
    rw [hf]
    clear hl
    induction l with
    | nil => rfl
    | cons k q ihq =>
      simp only [obsOf]
      have h1 : n ≠ k := fun e => hn (by simp [e])
      have h2 : n ∉ q := fun e => hn (by simp [e])
      cases hk : f k with
      | none => exact ihq h2
      | some cs =>
        simp only [lo]
        rw [if_neg h1]
        exact ihq h2

section
variable {P : Program} {Γ : Ctx1} {C : Cfg} {st : St}
def Grows (o : Oper) (st r : St) : Prop := ∀ n, r.ob n ≠ none → st.ob n ≠ none ∨ ∃ d, o.dst = some d ∧ n = nmOf d 0
theorem grows_set {ob : Obs} {d : Nat} {c : List AV} {n : Nm} (h : setF ob (nmOf d 0) (some c) n ≠ none) : ob n ≠ none ∨ n = nmOf d 0 := by
  by_cases hn : n = nmOf d 0
  · exact .inr hn
  · left; intro h0; apply h; simp only [setF]; rw [if_neg hn]; exact h0
theorem ebuildS_g {d t len xs x r} (h : ebuildS P st d t len xs = some (x, r)) : ∀ n, r.ob n ≠ none → st.ob n ≠ none ∨ n = nmOf d 0 := by
  unfold ebuildS at h; (repeat' (split at h)) <;> first | (cases h; done) | (cases h; intro n hn; first | exact grows_set hn | exact .inl hn)
theorem emakeR_g {d t n x r} (h : emakeR P st d t n = some (x, r)) : ∀ m, r.ob m ≠ none → st.ob m ≠ none ∨ m = nmOf d 0 := by
  unfold emakeR at h; (repeat' (split at h)) <;> first | (cases h; done) | (cases h; intro n hn; first | exact grows_set hn | exact .inl hn)
theorem emake_g {d t n x r} (h : emake P st d t n = some (x, r)) : ∀ m, r.ob m ≠ none → st.ob m ≠ none ∨ m = nmOf d 0 := by
  unfold emake at h; (repeat' (split at h)) <;> first | (cases h; done) | (cases h; intro n hn; first | exact grows_set hn | exact .inl hn)
theorem eslice_g {d t l hh m y x r} (h : eslice P st d t l hh m y = some (x, r)) : ∀ n, r.ob n ≠ none → st.ob n ≠ none ∨ n = nmOf d 0 := by
  unfold eslice at h; (repeat' (split at h)) <;> first | (cases h; done) | (cases h; intro n hn; first | exact .inl hn | exact grows_set hn)
theorem eappend_g {d t s y x r} (h : eappend P st d t s y = some (x, r)) : ∀ n, r.ob n ≠ none → st.ob n ≠ none ∨ n = nmOf d 0 := by
  unfold eappend at h; (repeat' (split at h)) <;> first | (cases h; done) | (cases h; rename_i q _ _ _ _ _ _ _ _; intro n hn; cases q <;> exact .inl hn) | (cases h; intro n hn; exact .inl (by revert hn; unfold bump bumpO; (repeat' split) <;> exact fun h => h))
theorem ecopy_g {t s y x r} (h : ecopy P st t s y = some (x, r)) : ∀ n, r.ob n ≠ none → st.ob n ≠ none := by
  unfold ecopy at h
  (repeat' (split at h)) <;> first
    | (cases h; done)
    | (cases h; intro n hn; first | exact hn | (simp only [setF] at hn; split at hn <;> first | (rename_i e; rw [e]; simp_all; done) | exact hn))
theorem eargs_ob {xs : List AV} {n0 : Nm} {names ys} (h : eargs st xs = some (some n0, names, ys)) : st.ob n0 ≠ none := by
  unfold eargs at h
  split at h
  · split at h
    · rename_i hn
      split at h
      · cases h; rw [hn]; simp
      · cases h
    · cases h
  · split at h
    · cases h
    · cases h
theorem ecall_g {hv d f xs x r} (h : ecall Γ hv st d f xs = some (x, r)) : ∀ n, r.ob n ≠ none → st.ob n ≠ none ∨ n = nmOf d 0 := by
  unfold ecall at h
  split at h
  case h_2 => cases h
  rename_i n0 names ys F ha hF
  split at h
  case h_2 => cases h
  rename_i rr oo hr
  split at h
  case isFalse => cases h
  cases h
  intro n hn
  unfold backSt at hn
  have h1 : ∀ m, (match n0 with
      | some n => setF st.ob n (oo.map (nameC (fun n => if n.1 = d + 1 ∨ n ∈ names then st.G n + 1 else st.G n) (d + 1) 1 0))
      | none => st.ob) m ≠ none → st.ob m ≠ none := by
    intro m hm
    cases n0 with
    | none => exact hm
    | some n1 =>
      simp only [setF] at hm
      split at hm
      · rename_i e; rw [e]; exact eargs_ob ha
      · exact hm
  cases rr with
  | ref cs =>
    simp only [setF] at hn
    split at hn
    · rename_i e; exact .inr e
    · exact .inl (h1 n hn)
  | _ => exact .inl (h1 n hn)

theorem eop_grows {o : Oper} {x : AV} {r : St} (h : eop P Γ C st o = some (x, r)) : Grows o st r := by
  have same : r = st → Grows o st r := fun e n hn => .inl (e ▸ hn)
  have with_d : ∀ d, o.dst = some d → (∀ n, r.ob n ≠ none → st.ob n ≠ none ∨ n = nmOf d 0) → Grows o st r := fun d hd h n hn => (h n hn).imp id (fun e => ⟨d, hd, e⟩)
  unfold eop at h
  split at h
  case h_1 => cases h; exact same rfl
  case h_2 => cases h; exact same rfl
  case h_3 => split at h <;> first | (cases h; exact same rfl) | cases h
  case h_4 =>
    split at h
    · rename_i d z hd hz
      split at h
      · cases h; exact with_d d hd (fun n hn => grows_set hn)
      · cases h
    · cases h
  case h_5 =>
    split at h
    · rename_i d hd
      split at h
      · split at h <;> first | (cases h; exact same rfl) | cases h
      · split at h
        · cases h; exact with_d d hd (fun n hn => grows_set hn)
        · cases h
    · cases h
  case h_6 => exact same (map_sl h)
  case h_7 =>
    split at h
    · rename_i d hd; exact with_d d hd (ebuildS_g h)
    · cases h
  case h_8 =>
    split at h
    · exact same (map_sl h)
    · cases h
  case h_9 =>
    split at h
    case isFalse => cases h
    split at h
    case h_2 => cases h
    split at h
    case h_2 => cases h
    rename_i cs sz hn _
    split at h
    case isFalse => cases h
    cases h
    intro m hm
    simp only [setF] at hm
    split at hm
    · rename_i e; left; rw [e, hn]; simp
    · exact .inl hm
  case h_10 => exact same (map_sl h)
  case h_11 =>
    split at h
    case h_2 => cases h
    rename_i d _ _ _ _ hd _ _
    split at h
    · exact with_d d hd (emake_g h)
    · split at h
      · exact with_d d hd (emakeR_g h)
      · cases h
  case h_12 =>
    split at h
    case h_2 => cases h
    rename_i d _ _ _ hd _ _ _
    exact with_d d hd (eslice_g h)
  case h_13 => exact same (map_sl h)
  case h_14 =>
    split at h
    · exact same (map_sl h)
    · cases h
  case h_15 => exact same (map_sl h)
  case h_16 =>
    split at h
    · split at h <;> first | (cases h; exact same rfl) | cases h
    · cases h
  case h_17 =>
    split at h
    · cases h; exact same rfl
    · exact same (dflt_sl h)
  case h_18 =>
    split at h
    · cases h; exact same rfl
    · exact same (dflt_sl h)
  case h_19 =>
    split at h
    · split at h
      · rename_i d _ _ hd _; exact with_d d hd (ecall_g h)
      · cases h
    · split at h
      · split at h
        · rename_i d hd
          split at h
          · exact with_d d hd (eappend_g h)
          · cases h
        · cases h
      · exact fun n hn => .inl (ecopy_g h n hn)
      · split at h
        · cases h; exact same rfl
        · exact same (dflt_sl h)
    · cases h
  case h_20 => cases h
  case h_21 => exact same (dflt_sl h)
end
end Caw

