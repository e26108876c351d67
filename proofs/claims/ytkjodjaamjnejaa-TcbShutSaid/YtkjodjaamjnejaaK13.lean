import Derived.Test.YtkjodjaamjnejaaK10
set_option linter.all false
/-! A drawn region that holds a row of bytes that is laid out and taken for a slice of bytes. -/
set_option linter.unusedVariables false
namespace Caw
open Go Go.RowKit
section
variable {P : Program} {Γ : Ctx1} {C : Cfg} {B : Base} {w w' : World} {E : Env} {st : St} {a : Act} {ops op2 : Array Oper}
theorem upon_put {o : Oper} {K : Act → World → Prop} {Q : Exit → Act → World → Prop} (h : o.wp P a w K Q) : o.wp P a w (fun a' w' => K a' w' ∧ ∃ v, a'.tmps = (a.put o.dst v).tmps) Q := by
  unfold Oper.wp at *
  generalize (execOp a.eval o).run P w = r at *
  cases r with
  | ok n w' =>
    cases n <;> simp only [Oper.upon] at h ⊢ <;>
      first
        | exact ⟨h, _, rfl⟩
        | exact ⟨h, undef, by cases o.dst <;> rfl⟩
        | exact Calls.mono h (fun e w'' he => by cases e <;> first | exact ⟨he, _, rfl⟩ | exact he)
        | exact Rows.mono h (fun _ _ he => ⟨he, _, rfl⟩)
  | halt x w' => cases x <;> simp only [Oper.upon] at h ⊢ <;> exact h
theorem wpStep_put {o : Oper} {K : Act → World → Prop} {Q : Exit → Act → World → Prop} (h : wpStep P ops o K Q a w) : wpStep P ops o (fun a' w' => K a' w' ∧ ∃ v, a'.tmps = (a.put o.dst v).tmps) Q a w := by
  unfold wpStep at *
  split
  · rename_i hw
    rw [if_pos hw] at h
    exact upon_put h
  · rename_i hw
    rw [if_neg hw] at h
    exact ⟨h, _, rfl⟩
theorem ready_congr (hsz : ops.size = op2.size) (h : ∀ i : Nat, (ops[i]?).map (fun o : Oper => o.after) = (op2[i]?).map (fun o : Oper => o.after)) (listed : Array Bool) : Region.ready .any ops listed = Region.ready .any op2 listed := by
  unfold Region.ready
  rw [hsz]
  refine List.filter_congr (fun i _ => ?_)
  have := h i
  cases h1 : ops[i]? <;> cases h2 : op2[i]? <;> rw [h1, h2] at this <;> simp_all
theorem any_inv {N : Nat} (hΓ : GOk1 P Γ) (hsz : ops.size = op2.size) (hrd : ∀ listed, Region.ready .any ops listed = Region.ready .any op2 listed) (hreg : regOk C op2 = true) {sf : St} {Q : Exit → Act → World → Prop} {Inv : Array Bool → St → Act → World → Prop}
    (hG : ∀ l st a w, Inv l st a w → Good N st)
    (hS : ∀ l st a w i o o' s1, Inv l st a w → ops[i]? = some o → op2[i]? = some o' → l.getD i true = false → (∀ e ∈ o'.after, Region.binds .any e = true → l.getD e.on false = true) → l.size = op2.size →
      estep P Γ C N op2 st o' = some s1 → wpStep P ops o (fun a' w' => Inv (l.setIfInBounds i true) s1 a' w') Q a w)
    (hQ : ∀ l a w, Inv l sf a w → (∀ i, i < op2.size → l.getD i true = true) → Q .normal a w) :
    ∀ (fuel : Nat) (listed : Array Bool) (st : St) (a : Act) (w : World), listed.size = op2.size → Down op2 listed →
    ((List.range op2.size).filter (fun i => !listed.getD i true)).length = fuel → Inv listed st a w →
    erun P Γ C N op2 ((List.range op2.size).filter (fun i => !listed.getD i true)) st = some sf → wpAny P .any ops Q fuel listed a w := by
  have hback : ∀ i o, op2[i]? = some o → ∀ e ∈ o.after, Region.binds .any e = true → e.on < i := by
    intro i o hi e he hb
    have hlt : i < op2.size := (Array.getElem?_eq_some_iff.1 hi).1
    have h1 := List.all_eq_true.1 hreg i (List.mem_range.2 hlt)
    rw [hi] at h1
    simp only [Bool.and_eq_true] at h1
    have := List.all_eq_true.1 h1.1 e (by simpa using he)
    rw [hb] at this
    simpa using this
  have hpair : ∀ i o, op2[i]? = some o → ∀ j, j < i → ∀ oj, op2[j]? = some oj → (waitOf op2 (masks op2 i) i).testBit j = true ∨ indep C op2 oj o = true := by
    intro i o hi j hj oj hoj
    have hlt : i < op2.size := (Array.getElem?_eq_some_iff.1 hi).1
    have h1 := List.all_eq_true.1 hreg i (List.mem_range.2 hlt)
    rw [hi] at h1
    simp only [Bool.and_eq_true] at h1
    have := List.all_eq_true.1 h1.2 j (List.mem_range.2 hj)
    rw [hoj] at this
    simp only [Bool.or_eq_true] at this
    rw [masks_get _ _ hlt] at this
    exact this
  intro fuel
  induction fuel with
  | zero =>
    intro listed st a w hs _ hf hr he
    have hnil := List.length_eq_zero_iff.1 hf
    refine ⟨?_, ?_⟩
    · rw [hrd]
      unfold Region.ready
      rw [List.filter_eq_nil_iff] at hnil ⊢
      intro i hi hh
      simp only [Bool.and_eq_true] at hh
      exact hnil i hi hh.1
    · rw [hnil] at he
      simp only [erun, Option.some.injEq] at he
      subst he
      exact hQ listed a w hr (fun i hi => by
        cases hc : listed.getD i true with
        | true => rfl
        | false =>
          have hm : i ∈ (List.range op2.size).filter (fun i => !listed.getD i true) := List.mem_filter.2 ⟨List.mem_range.2 hi, by rw [hc]; rfl⟩
          rw [hnil] at hm
          cases hm)
  | succ fuel ih =>
    intro listed st a w hs hdown hf hr he
    refine ⟨fun hnone => ?_, fun i hi => ?_⟩
    · rw [hrd] at hnone
      exfalso
      -- the first that is left waits for none
      cases hrem : (List.range op2.size).filter (fun i => !listed.getD i true) with
      | nil => rw [hrem] at hf; simp at hf
      | cons i r =>
        have hmem : i ∈ (List.range op2.size).filter (fun i => !listed.getD i true) := by rw [hrem]; exact List.mem_cons_self ..
        have hi0 := List.mem_filter.1 hmem
        have hlt : i < op2.size := List.mem_range.1 hi0.1
        have hui : listed.getD i true = false := by simpa using hi0.2
        have hfirst : ∀ j, j < i → listed.getD j true = true := by
          intro j hj
          cases hc : listed.getD j true with
          | true => rfl
          | false =>
            exfalso
            have hsplit := (filter_set hlt hs hui).1
            rw [hrem] at hsplit
            have hjm : j ∈ (List.range i).filter (fun j => !listed.getD j true) := List.mem_filter.2 ⟨List.mem_range.2 hj, by rw [hc]; rfl⟩
            cases hq : (List.range i).filter (fun j => !listed.getD j true) with
            | nil => rw [hq] at hjm; cases hjm
            | cons x y =>
              rw [hq] at hsplit
              simp only [List.cons_append, List.cons.injEq] at hsplit
              have hx : x ∈ (List.range i).filter (fun j => !listed.getD j true) := by rw [hq]; exact List.mem_cons_self ..
              have := List.mem_range.1 (List.mem_filter.1 hx).1
              omega
        have hready : i ∈ Region.ready .any op2 listed := by
          unfold Region.ready
          refine List.mem_filter.2 ⟨hi0.1, ?_⟩
          have hoi : op2[i]? = some op2[i] := Array.getElem?_eq_getElem hlt
          rw [hui, hoi]
          simp only [Bool.not_false, Option.map_some, Option.getD_some, Bool.true_and]
          rw [Array.all_eq_true_iff_forall_mem]
          intro e hem
          by_cases hb : Region.binds .any e = true
          · have := hback i _ hoi e hem hb
            have h2 := hfirst e.on this
            rw [hb]
            simp only [Bool.not_true, Bool.false_or]
            rw [Array.getD_eq_getD_getElem?, Array.getElem?_eq_getElem (by omega)] at h2 ⊢
            exact h2
          · simp [hb]
        rw [hnone] at hready
        cases hready
    · rw [hrd] at hi
      unfold Region.ready at hi
      obtain ⟨hir, hic⟩ := List.mem_filter.1 hi
      have hlt : i < op2.size := List.mem_range.1 hir
      simp only [Bool.and_eq_true] at hic
      obtain ⟨hun, hdeps⟩ := hic
      have hui : listed.getD i true = false := by simpa using hun
      have hoi : op2[i]? = some op2[i] := Array.getElem?_eq_getElem hlt
      rw [hoi] at hdeps
      simp only [Option.map_some, Option.getD_some] at hdeps
      rw [Array.all_eq_true_iff_forall_mem] at hdeps
      obtain ⟨f1, f2⟩ := filter_set hlt hs hui
      rw [f1] at he hf
      have hgood : Good N st := hG _ _ _ _ hr
      obtain ⟨s1, e1, e2⟩ := pull hΓ hoi _ st hgood (fun j hj oj hoj => by
        obtain ⟨hjr, hju⟩ := List.mem_filter.1 hj
        rcases hpair i _ hoi j (List.mem_range.1 hjr) oj hoj with hbit | hh
        · exfalso
          have := wait_listed hdown hback i _ hoi (fun e hem hb => by
            have := hdeps e hem
            rw [hb] at this
            simpa using this) hbit
          have hjlt : j < op2.size := by have := List.mem_range.1 hjr; omega
          rw [Array.getD_eq_getD_getElem?, Array.getElem?_eq_getElem (by omega)] at this hju
          simp only [Option.getD_some] at this hju
          rw [this] at hju
          cases hju
        · exact hh) he
      have hdown' : Down op2 (listed.setIfInBounds i true) := by
        have hmono : ∀ k, listed.getD k false = true → (listed.setIfInBounds i true).getD k false = true := by
          intro k hk
          rw [Array.getD_eq_getD_getElem?] at hk ⊢
          by_cases hki : i = k
          · subst hki
            rw [Array.getElem?_setIfInBounds_self_of_lt (by omega)]
            rfl
          · rw [Array.getElem?_setIfInBounds_ne hki]; exact hk
        intro k o hk hl e he hb
        by_cases hki : k = i
        · subst hki
          rw [hoi] at hk
          cases hk
          refine hmono _ ?_
          have := hdeps e he
          rw [hb] at this
          simpa using this
        · refine hmono _ (hdown k o hk ?_ e he hb)
          rw [Array.getD_eq_getD_getElem?] at hl ⊢
          rw [Array.getElem?_setIfInBounds_ne (fun e => hki e.symm)] at hl
          exact hl
      have hlt0 : i < ops.size := by rw [hsz]; exact hlt
      have hoi0 : ops[i]? = some ops[i] := Array.getElem?_eq_getElem hlt0
      have hstep := hS listed st a w i ops[i] op2[i] s1 hr hoi0 hoi hui (fun e hem hb => by
        have := hdeps e hem
        rw [hb] at this
        simpa using this) hs e1
      have hnext : ∀ a' w', Inv (listed.setIfInBounds i true) s1 a' w' → wpAny P .any ops Q fuel (listed.setIfInBounds i true) a' w' := by
        intro a' w' hr'
        refine ih _ s1 a' w' (by simpa using hs) hdown' ?_ hr' (by rw [f2]; exact e2)
        rw [f2]
        simp only [List.length_append, List.length_cons] at hf ⊢
        omega
      unfold wpOp
      rw [hoi0]
      simp only
      unfold wpStep at hstep
      split
      · rename_i hw
        rw [if_pos hw] at hstep
        exact .inl (Oper.wp_mono hnext hstep)
      · rename_i hw
        rw [if_neg hw] at hstep
        exact hnext _ _ hstep

end
end Caw
namespace Caw
open Go Go.RowKit
/-! ### A row's mark -/
theorem PV.mark {w w' : World} {pr : Pr} (hc : ∀ ad, w'.cell? ad = w.cell? ad) {x : AV} {y : Value} (h : PV w pr x y) : PV w' pr x y := by
  induction h with
  | v x => exact .v x
  | agg hl _ ih => exact .agg hl ih
  | tup hl _ ih => exact .tup hl ih
  | nil a cap => exact .nil a cap
  | sl cells hle hs hpr _ hc' ih => exact .sl cells hle hs hpr ih (fun i hi j hj => (hc _).trans (hc' i hi j hj))
theorem V.mark {E : Env} {st : St} {w w' : World} {b : Nat} (hc : ∀ ad, w'.cell? ad = w.cell? ad) (hh : ∀ c, c ≠ b → w'.heap[c]? = w.heap[c]?) (ht : ∀ n q, E.τ n ≠ some (b, q)) {x : AV} {y : Value} (h : V E st w x y) : V E st w' x y := by
  induction h with
  | dead y => exact .dead y
  | v x => exact .v x
  | agg hl _ ih => exact .agg hl ih
  | tup hl _ ih => exact .tup hl ih
  | @sl sz es tg y h hg =>
    refine .sl (h.mark hc) (fun n g hn => ⟨(hg n g hn).1, fun he => ?_⟩)
    have := (hg n g hn).2 he
    cases y with
    | slice a len cap =>
      rcases this with h1 | ⟨c, off, vs, e, h1, h2, h3, h4, h5⟩
      · exact .inl h1
      · exact .inr ⟨c, off, vs, e, h1, h2, h3, (hh c (fun hcb => ht n _ (by rw [h3, hcb]))).trans h4, h5⟩
    | _ => exact this
  | fn hl _ ih => exact .fn hl ih
  | ptr h => exact .ptr h
  | osl h => exact .osl h
  | rptr cells hp h hc' => exact .rptr cells hp (fun j hj => (h j hj).mark hc) (fun j hj => (hc _).trans (hc' j hj))
/-- A frame that began elsewhere: in a world where a row was laid out. -/
def Base.from (B : Base) (pr : Pr) (b : Nat) (w : World) : Base := ⟨pr, fun x => B.mine x ∧ x ≠ b, w, B.N, B.rb⟩
theorem Rel0.rebase {B : Base} {E : Env} {st : St} {a : Act} {w : World} (h : Rel0 B E st a w) {b : Nat} (hb : ∀ n, st.ob n ≠ none → E.ρ n ≠ b) (ht : ∀ n q, E.τ n ≠ some (b, q)) : Rel0 (B.from E.pr b w) E st a w where
  sl := h.sl
  ob := h.ob
  inj := h.inj
  obp := h.obp
  own := fun n hn => .inl ⟨h.own n hn, hb n hn⟩
  tau := fun n c e hc => by
    obtain ⟨t1, t2, t3, t4⟩ := h.tau n c e hc
    exact ⟨t1, .inl ⟨t2, fun he => ht n e (by rw [hc, he])⟩, t3, t4⟩
  tdis := h.tdis
  frame := Fr.refl _ _
  keep := fun _ _ => rfl
  prot := fun _ _ h => h
  prnew := fun _ _ h => .inl h
  prlt := h.prlt
  pin := h.pin
  defers := h.defers
  size := h.size
/-- The world where the row was laid out. -/
structure MidW (B : Base) (vs : Array Value) (e : TypeId) (b : Nat) (pr : Pr) (w0 : World) : Prop where
  f : Fr B.pr B.w w0
  k : ∀ x, ¬ B.mine x → w0.heap[x]? = B.w.heap[x]?
  p : ∀ x k, B.pr x k → pr x k
  pn : ∀ x k, pr x k → B.pr x k ∨ B.mine x
  lo : B.w.heap.size ≤ b
  lt : b < w0.heap.size
  row : w0.heap[b]? = some (.cells vs e (0, 0))
section
variable {B : Base} {vs : Array Value} {e : TypeId} {b : Nat} {pr : Pr} {w0 w w' : World} {E : Env} {st : St} {a : Act}
theorem MidW.not (hm : MidW B vs e b pr w0) : ¬ (B.from pr b w0).mine b := by
  rintro (⟨-, h⟩ | h)
  · exact h rfl
  · have := hm.lt
    have h2 : w0.heap.size ≤ b := h
    omega
theorem MidW.mine (hm : MidW B vs e b pr w0) {x : Nat} (h : (B.from pr b w0).mine x) : B.mine x := by
  rcases h with ⟨h, -⟩ | h
  · exact h
  · have h2 : w0.heap.size ≤ x := h
    exact .inr (Nat.le_trans hm.f.size h2)
theorem MidW.rowAt (hm : MidW B vs e b pr w0) (h : Rel0 (B.from pr b w0) E st a w) : w.heap[b]? = some (.cells vs e (0, 0)) := (h.keep b hm.not).trans hm.row
theorem Rel0.unmark (hm : MidW B vs e b pr w0) (h : Rel0 (B.from pr b w0) E st a w) {m : Nat × Nat} (hos : w'.os = w.os ∧ w'.tape = w.tape ∧ w'.output = w.output) (hsz : w'.heap.size = w.heap.size) (hh : ∀ c, c ≠ b → w'.heap[c]? = w.heap[c]?) (hb : w'.heap[b]? = some (.cells vs e m)) :
    Rel0 B E st a w' ∧ ∀ x y, V E st w x y → V E st w' x y := by
  have hrow := hm.rowAt h
  have hc : ∀ ad, w'.cell? ad = w.cell? ad := by
    intro ad
    unfold World.cell?
    by_cases h1 : ad.block = b
    · rw [h1, hb, hrow]
    · rw [hh _ h1]
  have ht : ∀ n q, E.τ n ≠ some (b, q) := fun n q hq => hm.not (h.tau n b q hq).2.1
  have hV : ∀ x y, V E st w x y → V E st w' x y := fun x y hv => hv.mark hc hh ht
  have hrn : ∀ n, st.ob n ≠ none → E.ρ n ≠ b := fun n hn he => hm.not (by have := h.own n hn; rw [he] at this; exact this)
  have hf : Fr B.pr B.w w := Fr.trans hm.f h.frame hm.p
  have hlo := hm.lo
  refine ⟨⟨fun i => hV _ _ (h.sl i), fun n cs hn => ?_, h.inj, h.obp, fun n hn => hm.mine (h.own n hn), fun n c q hq => ?_, h.tdis, ?_, fun x hx => ?_, fun x k hk => h.prot x k (hm.p x k hk), fun x k hk => ?_, fun x k hk => by rw [hsz]; exact h.prlt x k hk, h.pin, h.defers, h.size⟩, hV⟩
  · obtain ⟨us, e', r1, r2, r3⟩ := h.ob n cs hn
    exact ⟨us, e', (hh _ (hrn n (by rw [hn]; simp))).trans r1, r2, fun i hi => hV _ _ (r3 i hi)⟩
  · obtain ⟨t1, t2, t3, t4⟩ := h.tau n c q hq
    exact ⟨by rw [hsz]; exact t1, hm.mine t2, t3, t4⟩
  · refine ⟨hos.1.trans hf.os, hos.2.1.trans hf.tape, hos.2.2.trans hf.output, by rw [hsz]; exact hf.size, fun x k v hp hv => (hc _).trans (hf.cell x k v hp hv), fun x hx hp => ?_, fun x us e' m' hv => ?_⟩
    · exact (hh x (by omega)).trans (hf.whole x hx hp)
    · have hx : x < B.w.heap.size := (Array.getElem?_eq_some_iff.1 hv).1
      rw [hh x (by omega)]
      exact hf.rows x us e' m' hv
  · have hx1 : x ≠ b := fun he => hx (by rw [he]; exact .inr hlo)
    rw [hh x hx1, h.keep x (fun hq => hx (hm.mine hq))]
    exact hm.k x hx
  · rcases h.prnew x k hk with hq | hq
    · exact hm.pn x k hq
    · exact .inr (hm.mine hq)
end
end Caw
namespace Caw
open Go Go.RowKit
section
variable {P : Program} {Γ : Ctx1} {C : Cfg} {B : Base} {w w' : World} {E : Env} {st : St} {a : Act} {ops op2 : Array Oper}
theorem Rel0.row_any (h : Rel0 B E st a w) (vs : List Int) (e : TypeId) (m : Nat × Nat) :
    ∃ E' : Env, E'.τ = E.τ ∧ E'.ρ = E.ρ ∧ Rel0 B E' st a (w.alloc (.cells (vs.map (Value.int .u8)).toArray e m)) ∧
      PV (w.alloc (.cells (vs.map (Value.int .u8)).toArray e m)) E'.pr (.sl 1 (vs.map fun n => .v (.int .u8 n)) none) (.slice (some ⟨w.heap.size, 0, none⟩) vs.length vs.length) := by
  have hf := fr_alloc E.pr w (.cells (vs.map (Value.int .u8)).toArray e m)
  have h1 := h.fresh (w' := w.alloc (.cells (vs.map (Value.int .u8)).toArray e m)) hf (fun b hb => Below.heap_alloc _ _ _ hb)
    (pr' := fun b k => E.pr b k ∨ (b = w.heap.size ∧ k < vs.length)) (fun _ _ h => .inl h) (fun b k hp hq => by
      rcases hp with hp | ⟨rfl, _⟩
      · exact absurd hp hq
      · simp)
  refine ⟨{ E with pr := fun b k => E.pr b k ∨ b = w.heap.size ∧ k < vs.length }, rfl, rfl, h1, ?_⟩
  have hlen : (vs.map fun n => AV.v (.int .u8 n)).length = vs.length := by simp
  have hs : SlR (w.alloc (.cells (vs.map (Value.int .u8)).toArray e m)) (fun b k => E.pr b k ∨ (b = w.heap.size ∧ k < vs.length)) 1 (vs.map fun n => AV.v (.int .u8 n)) w.heap.size 0 (vs.map (Value.int .u8)) := by
    refine ⟨by simp, fun i hi => by simp [flat], fun k hk => .inr ⟨rfl, by simpa using hk⟩, fun i hi j hj => ?_, fun k v hk => ?_⟩
    · have hj0 : j = 0 := by simp [flat] at hj; omega
      subst hj0
      have hi' : i < vs.length := by simpa using hi
      have e1 : (flat (vs.map fun n => AV.v (.int .u8 n))[i])[0] = .v (.int .u8 vs[i]) := by simp [flat]
      rw [e1]
      have e2 : (vs.map (Value.int .u8)).getD (i * 1 + 0) undef = .int .u8 vs[i] := by simp [List.getD, hi']
      rw [e2]
      exact .v _
    · obtain ⟨hk1, hk2⟩ := List.getElem?_eq_some_iff.1 hk
      have : (w.alloc (.cells (vs.map (Value.int .u8)).toArray e m)).heap[w.heap.size]? = some (.cells (vs.map (Value.int .u8)).toArray e m) := by
        show (w.heap.push _)[w.heap.size]? = _
        simp
      simp only [World.cell?, Nat.zero_add, this]
      have hk1' : k < vs.length := by simpa using hk1
      simp at hk2
      simp [hk1', hk2]
  have hv := hs.pv none _ (Nat.le_refl _)
  rw [hlen] at hv
  exact hv

theorem run_conv {t e : TypeId} {vs : Array Value} {b n : Nat} (hr : w.heap[b]? = some (.cells vs e (0, 0))) (hu : P.underlying t = some (.slice e)) (he : P.underlying e = some (.int .u8)) :
    ∃ w', (convert t t (.slice (some ⟨b, 0, none⟩) n n)).run P w = .ok (.slice (some ⟨b, 0, none⟩) n n) w' ∧ (w'.os = w.os ∧ w'.tape = w.tape ∧ w'.output = w.output) ∧ w'.heap.size = w.heap.size ∧ (∀ c, c ≠ b → w'.heap[c]? = w.heap[c]?) ∧ ∃ m, w'.heap[b]? = some (.cells vs e m) := by
  have hsh : w.shape? b = some (e, vs.size) := by unfold World.shape?; rw [hr]
  refine ⟨w.freeze ⟨b, vs.size, none⟩ 1, ?_, ?_, ?_, ?_, ?_⟩
  · simp [convert, run_underlying hu, run_underlying he, markStringish, hsh]
  all_goals
    unfold World.freeze
    rw [if_neg (by decide)]
  · exact ⟨rfl, rfl, rfl⟩
  · exact Array.size_modify ..
  · intro c hc
    show (w.heap.modify b _)[c]? = _
    rw [Array.getElem?_modify, if_neg (Ne.symm hc)]
  · refine ⟨(vs.size, vs.size + 1), ?_⟩
    show (w.heap.modify b _)[b]? = _
    rw [Array.getElem?_modify, if_pos rfl, hr]
    rfl
theorem getB_set (l : Array Bool) (i j : Nat) (hi : i < l.size) (d : Bool) : (l.setIfInBounds i true).getD j d = if j = i then true else l.getD j d := by
  simp only [Array.getD_eq_getD_getElem?]
  by_cases h : j = i
  · subst h
    rw [if_pos rfl, Array.getElem?_setIfInBounds_self_of_lt hi]
    rfl
  · rw [if_neg h, Array.getElem?_setIfInBounds_ne (Ne.symm h)]
/-- What is known while the region runs. -/
def InvM (B : Base) (vs : Array Value) (e : TypeId) (n k d1 : Nat) (l : Array Bool) (st : St) (a : Act) (w : World) : Prop :=
  (l.getD k true = l.getD (k + 1) true ∧ Rel B st a w) ∨
  (l.getD k true = true ∧ l.getD (k + 1) true = false ∧ ∃ b pr w0, MidW B vs e b pr w0 ∧ Rel (B.from pr b w0) st a w ∧ a.tmps.getD d1 undef = .slice (some ⟨b, 0, none⟩) n n)
theorem tri_mark {N : Nat} {sf sz : St} {id : Nat} {Q : Exit → St → Prop} {o1 o2 : Oper} (L : List Nat) (M : List Nm) (hΓ : GOk1 P Γ) (hmx : P.follows .mixedOrders = true) (k d1 d2 : Nat) (t e : TypeId) (vs : List Int)
    (hk1 : ops[k]? = some o1) (hk2 : ops[k + 1]? = some o2) (g1 : o1.guard = none) (g2 : o2.guard = none) (hd1 : o1.dst = some d1) (hd2 : o2.dst = some d2) (ho2 : o2.op = .convert t t (.tmp d1))
    (haf : o2.after.toList.any (fun q => Region.binds .any q && q.on == k) = true) (hdst0 : (List.range ops.size).all (fun i => i == k || (ops[i]?).bind (fun o : Oper => o.dst) != some d1) = true)
    (hb1 : d1 < N) (hb2 : d2 < N) (hu : P.underlying t = some (.slice e)) (hu8 : P.underlying e = some (.int .u8))
    (hrun : ∀ (g : Operand → Value) (w : World), (∀ x, g (.const x) = x) → (execOp g o1).run P w = .ok (.value (.slice (some ⟨w.heap.size, 0, none⟩) vs.length vs.length)) (w.alloc (.cells (vs.map (Value.int .u8)).toArray e)))
    (heop : ∀ st, eop P Γ C st o1 = some (.sl 1 (vs.map fun n => .v (.int .u8 n)) (some (nmOf d1 0, st.G (nmOf d1 0) + 1)), bump st (nmOf d1 0)))
    (h2 : op2 = ops.setIfInBounds (k + 1) { o2 with op := .move (.tmp d1) }) (hreg : regOk C op2 = true)
    (he : Is (erunL P Γ C N op2 op2.toList st) sz) (he3 : Is (keep L M sz) sf) (hq : Q .normal sf) : Tri P N st (.region id ops true) Q := by
  have hdst : ∀ i o, ops[i]? = some o → i ≠ k → o.dst ≠ some d1 := by
    intro i o ho hi
    have hlt : i < ops.size := (Array.getElem?_eq_some_iff.1 ho).1
    have := List.all_eq_true.1 hdst0 i (List.mem_range.2 hlt)
    rw [ho] at this
    simp only [Option.bind_some, Bool.or_eq_true, beq_iff_eq, bne_iff_ne, ne_eq] at this
    rcases this with h | h
    · exact absurd h hi
    · exact h
  rintro B a w rfl hr
  have hk1l : k < ops.size := (Array.getElem?_eq_some_iff.1 hk1).1
  have hk2l : k + 1 < ops.size := (Array.getElem?_eq_some_iff.1 hk2).1
  have hsz : ops.size = op2.size := by rw [h2, Array.size_setIfInBounds]
  have hne : ∀ i, i ≠ k + 1 → op2[i]? = ops[i]? := fun i hi => by rw [h2, Array.getElem?_setIfInBounds_ne (Ne.symm hi)]
  have hat : op2[k + 1]? = some { o2 with op := .move (.tmp d1) } := by rw [h2, Array.getElem?_setIfInBounds_self_of_lt hk2l]
  have haft : ∀ i : Nat, (ops[i]?).map (fun o : Oper => o.after) = (op2[i]?).map (fun o : Oper => o.after) := by
    intro i
    by_cases hi : i = k + 1
    · rw [hi, hat, hk2]; rfl
    · rw [hne i hi]
  have hdst2 : ∀ i : Nat, (op2[i]?).bind (fun o : Oper => o.dst) = (ops[i]?).bind (fun o : Oper => o.dst) := by
    intro i
    by_cases hi : i = k + 1
    · rw [hi, hat, hk2]; rfl
    · rw [hne i hi]
  have hyl : ∀ tm, yielded op2 tm = yielded ops tm := by
    intro tm
    funext j
    have hj := hdst2 j
    unfold yielded
    rw [hj]
  have hbk : ∃ q ∈ o2.after, Region.binds .any q = true ∧ q.on = k := by
    rw [List.any_eq_true] at haf
    obtain ⟨q, q1, q2⟩ := haf
    simp only [Bool.and_eq_true, beq_iff_eq] at q2
    exact ⟨q, by simpa using q1, q2⟩
  have hw : ∀ (o : Oper) ys, o.guard = none → Region.wanted o ys = true := by intro o ys g; unfold Region.wanted; rw [g]
  have hgd : ∀ (o : Oper) sl, o.guard = none → gd op2 sl o = some true := by intro o sl g; unfold gd; rw [g]
  have hGood : ∀ l st a w, InvM B (vs.map (Value.int .u8)).toArray e vs.length k d1 l st a w → Good B.N st := by
    rintro l st a w (⟨-, h⟩ | ⟨-, -, b, pr, w0, -, h, -⟩)
    · exact ⟨B, a, w, rfl, h⟩
    · exact ⟨B.from pr b w0, a, w, rfl, h⟩
  refine wp_region_any hmx (any_inv (N := B.N) (C := C) hΓ hsz (ready_congr hsz haft) hreg (Inv := InvM B (vs.map (Value.int .u8)).toArray e vs.length k d1) (sf := sz) hGood ?_ ?_ ops.size _ st a _ (by simp [hsz]) (fun k o _ hl => by simp [Array.getD] at hl) ?_ (.inl ⟨by simp [Array.getD, hk1l, hk2l], hr.drew⟩) ?_)
  · intro l st a w i o o' s1 hinv ho ho' hli hdep hls hst
    have hil : i < l.size := by rw [hls, ← hsz]; exact (Array.getElem?_eq_some_iff.1 ho).1
    have hkl : k < l.size := by rw [hls, ← hsz]; exact hk1l
    have hkl2 : k + 1 < l.size := by rw [hls, ← hsz]; exact hk2l
    by_cases hik : i = k
    · -- the row is laid out
      subst hik
      rw [hk1] at ho; cases ho
      rw [hne i (by omega), hk1] at ho'; cases ho'
      rcases hinv with ⟨hl2, E, h⟩ | ⟨hl1, -⟩
      case inr => rw [hl1] at hli; cases hli
      rw [hli] at hl2
      unfold estep eff at hst
      rw [hgd _ _ g1] at hst
      simp only [heop] at hst
      split at hst
      case isFalse => cases hst
      cases hst
      unfold wpStep
      rw [if_pos (hw _ _ g1)]
      refine wp_value (hrun a.eval w (fun x => rfl)) ?_
      obtain ⟨E', eτ, eρ, h1, hv⟩ := h.row_any vs e (0, 0)
      have h3 := h1.tag (nmOf d1 0) none (fun b q hq => by cases hq)
      have hlast : ∀ n q, setF E'.τ (nmOf d1 0) none n ≠ some (w.heap.size, q) := by
        intro n q hn
        unfold setF at hn
        split at hn
        · cases hn
        · rw [eτ] at hn
          have := (h.tau n _ q hn).1
          omega
      have hput := h3.putSt (dst := o1.dst) (fun d hd => by rw [hd1] at hd; cases hd; exact hb1) (x := .sl 1 (vs.map fun n => .v (.int .u8 n)) (some (nmOf d1 0, st.G (nmOf d1 0) + 1))) (y := .slice (some ⟨w.heap.size, 0, none⟩) vs.length vs.length) (.sl (PV_tag _ hv) (fun n g hn => by
        cases hn
        exact ⟨by simp [setF], fun _ => .inl rfl⟩))
      have hasz : (w.alloc (.cells (vs.map (Value.int .u8)).toArray e (0, 0))).heap.size = w.heap.size + 1 := Array.size_push ..
      refine .inr ⟨by rw [getB_set _ _ _ hil, if_pos rfl], by rw [getB_set _ _ _ hil, if_neg (by omega)]; exact hl2.symm, w.heap.size, _, _, ⟨hput.frame, hput.keep, hput.prot, hput.prnew, h.frame.size, by rw [hasz]; omega, ?_⟩, ⟨_, hput.rebase (fun n hn => ?_) hlast⟩, ?_⟩
      · show (w.heap.push _)[w.heap.size]? = _
        simp
      · have h4 : E'.ρ n < w.heap.size := by
          rw [eρ]
          exact h.lt (by intro h0; exact hn (by rw [← h0]; cases o1.dst <;> rfl))
        show E'.ρ n ≠ _
        omega
      · have := h.size
        rw [hd1]
        simp [Act.put, Array.getD, this, hb1]
    · by_cases hik2 : i = k + 1
      · -- the row is marked
        subst hik2
        rw [hk2] at ho; cases ho
        rw [hat] at ho'; cases ho'
        obtain ⟨q, q1, q2, q3⟩ := hbk
        have hlk : l.getD k false = true := by have := hdep q q1 q2; rw [q3] at this; exact this
        have hlk2 : l.getD k true = true := by
          rw [Array.getD_eq_getD_getElem?, Array.getElem?_eq_getElem hkl] at hlk ⊢
          exact hlk
        rcases hinv with ⟨hl2, -⟩ | ⟨-, -, b, pr, w0, hm, ⟨E, h⟩, htm⟩
        · rw [hlk2, hli] at hl2; cases hl2
        unfold estep eff at hst
        rw [hgd _ _ (by exact g2)] at hst
        simp only [eop, ev] at hst
        split at hst
        case isFalse => cases hst
        cases hst
        unfold wpStep
        rw [if_pos (hw _ _ g2)]
        obtain ⟨w', r1, r2, r3, r4, m, r5⟩ := run_conv (P := P) (t := t) (n := vs.length) (hm.rowAt h) hu hu8
        have hev : a.eval (.tmp d1) = .slice (some ⟨b, 0, none⟩) vs.length vs.length := htm
        obtain ⟨h5, h6⟩ := h.unmark hm r2 r3 r4 r5
        refine wp_value (v := .slice (some ⟨b, 0, none⟩) vs.length vs.length) (w' := w') ?_ ?_
        · unfold execOp
          simp only [ho2, Sem.run_bind, hev, r1, Result.andThen_ok, Sem.run_pure]
        · have hv := h6 _ _ (h.sl d1)
          rw [htm] at hv
          have hput := h5.putSt (dst := o2.dst) (fun d hd => by rw [hd2] at hd; cases hd; exact hb2) hv
          exact .inl ⟨by rw [getB_set _ _ _ hil, getB_set _ _ _ hil, if_neg (by omega), if_pos rfl]; exact hlk2, _, hput⟩
      · -- any other operation
        rw [hne i hik2, ho] at ho'; cases ho'
        have e1 : (l.setIfInBounds i true).getD k true = l.getD k true := by rw [getB_set _ _ _ hil, if_neg (Ne.symm hik)]
        have e2 : (l.setIfInBounds i true).getD (k + 1) true = l.getD (k + 1) true := by rw [getB_set _ _ _ hil, if_neg (Ne.symm hik2)]
        rcases hinv with ⟨hl2, h⟩ | ⟨hl1, hl2, b, pr, w0, hm, h, htm⟩
        · have := estep_sound (B := B) hΓ h hst (fun e a w => ∃ s, Q e s ∧ Rel B s a w)
          unfold wpStep at this ⊢
          rw [hyl] at this
          split at this
          · rename_i hww
            rw [if_pos hww]
            exact Oper.wp_mono (fun a' w' hr' => .inl ⟨by rw [e1, e2]; exact hl2, hr'⟩) this
          · rename_i hww
            rw [if_neg hww]
            exact .inl ⟨by rw [e1, e2]; exact hl2, this⟩
        · have := wpStep_put (estep_sound (B := B.from pr b w0) hΓ h hst (fun e a w => ∃ s, Q e s ∧ Rel B s a w))
          unfold wpStep at this ⊢
          rw [hyl] at this
          have hkeep : ∀ (a' : Act), (∃ v, a'.tmps = (a.put o.dst v).tmps) → a'.tmps.getD d1 undef = .slice (some ⟨b, 0, none⟩) vs.length vs.length := by
            rintro a' ⟨v, hv⟩
            rw [hv]
            have hod := hdst i o ho hik
            cases hdo : o.dst with
            | none => exact htm
            | some d =>
              have hdd : d ≠ d1 := fun q => hod (by rw [hdo, q])
              rw [← htm]
              simp only [Act.put, Array.getD_eq_getD_getElem?]
              rw [Array.getElem?_setIfInBounds_ne hdd]
          split at this
          · rename_i hww
            rw [if_pos hww]
            exact Oper.wp_mono (fun a' w' hr' => .inr ⟨by rw [e1]; exact hl1, by rw [e2]; exact hl2, b, pr, w0, hm, hr'.1, hkeep a' hr'.2⟩) this
          · rename_i hww
            rw [if_neg hww]
            exact .inr ⟨by rw [e1]; exact hl1, by rw [e2]; exact hl2, b, pr, w0, hm, this.1, hkeep _ this.2⟩
  · intro l a w hinv hall
    rcases hinv with ⟨-, h⟩ | ⟨-, h2, -⟩
    · exact ⟨sf, hq, keep_le he3 B a w rfl h⟩
    · rw [hall (k + 1) (by rw [← hsz]; exact hk2l)] at h2; cases h2
  · rw [hsz, filter_all]; simp
  · rw [hsz, filter_all]
    have := eregion_eq (P := P) (Γ := Γ) (C := C) (N := B.N) (ops := op2) st
    unfold eregion at this
    rw [this]; exact he
end
end Caw

