import Derived.Test.YtljlhooodbfpiaaGreatDoorK3
set_option linter.all false
namespace Caw
open Go Go.RowKit

def flagL (st : St) : AV → AV
  | .sl sz es (some (n, g)) => .sl sz es (if g = st.G n then some ((0, 0, 0), 0) else none)
  | x => x
def tagsOf (st : St) : List AV → List Nm
  | [] => []
  | .sl _ _ (some (n, g)) :: r => if g = st.G n then n :: tagsOf st r else tagsOf st r
  | _ :: r => tagsOf st r
/-- The arguments, as a contract has them: the object that is handed in, the names of slices that may grow, the arguments. -/
def eargs (st : St) : List AV → Option (Option Nm × List Nm × List AV)
  | .ptr n k :: r => (match st.ob n with
    | some cs => if k = 0 ∧ cs.all leafH = true ∧ (tagsOf st cs).Nodup ∧ r.all isHand = true then some (some n, tagsOf st cs, .ref (cs.map (flagL st)) :: r.map stripA) else none
    | none => none)
  | xs => if xs.all isHand = true then some (none, [], xs.map stripA) else none

/-- The contracts at hand. -/
abbrev Ctx1 := FuncId → Option Fn1
def ecall (Γ : Ctx1) (hv : Bool) (st : St) (d : Nat) (f : FuncId) (xs : List AV) : Option (AV × St) :=
  match eargs st xs, Γ f with
  | some (n0, names, ys), some F => (match F ys with
    | some (r, o) => if isRes r = true ∧ (o.all (·.all leafH)) = true ∧ (isRef r = true → (st.ob (nmOf d 0)).isNone = true) ∧ (n0.isSome = true → o.isSome = true ∧ hv = true) then
        some (backAV st d names r, backSt st d n0 names r o) else none
    | none => none)
  | _, _ => none

def Enters (P : Program) (f : FuncId) : Prop := ∀ args w, (callFunc f args).run P w = .ok (.enter f args) w
def GOk1 (P : Program) (Γ : Ctx1) : Prop := ∀ f F, Γ f = some F → Spec1 P f F ∧ Enters P f
def GB (P : Program) (Γ : Ctx1) (B : Base) : Prop := GOk1 P Γ ∧ TabB P B

section
variable {P : Program} {Γ : Ctx1} {B : Base} {w w' : World} {E E' : Env} {st st' : St} {a a' : Act}

/-- The name of a cell's slice that may grow. -/
def tagNm (st : St) (cs : List AV) (k : Nat) : Option Nm :=
  match cs[k]? with
  | some (.sl _ _ (some (n, g))) => if g = st.G n then some n else none
  | _ => none

theorem tagNm_mem : ∀ {cs : List AV} {k : Nat} {n : Nm}, tagNm st cs k = some n → n ∈ tagsOf st cs
  | [], k, n, h => by simp [tagNm] at h
  | c :: r, 0, n, h => by
    unfold tagNm at h
    simp only [List.getElem?_cons_zero] at h
    split at h
    case h_2 => cases h
    rename_i sz es m g hc
    simp only [Option.some.injEq] at hc
    subst hc
    split at h
    case isFalse => cases h
    rename_i hg
    simp only [Option.some.injEq] at h
    subst h
    simp [tagsOf, hg]
  | c :: r, k + 1, n, h => by
    have h1 : tagNm st r k = some n := by unfold tagNm at h ⊢; simpa using h
    have h2 := tagNm_mem h1
    unfold tagsOf
    split
    · rename_i heq; cases heq
    · rename_i heq
      simp only [List.cons.injEq] at heq
      obtain ⟨-, rfl⟩ := heq
      split
      · exact List.mem_cons_of_mem _ h2
      · exact h2
    · rename_i heq
      simp only [List.cons.injEq] at heq
      obtain ⟨-, rfl⟩ := heq
      exact h2

theorem tagsOf_cons (c : AV) (r : List AV) : tagsOf st (c :: r) = (match tagNm st (c :: r) 0 with | some n => n :: tagsOf st r | none => tagsOf st r) := by
  unfold tagNm
  cases c with
  | sl sz es tg =>
    cases tg with
    | none => simp [tagsOf]
    | some t =>
      obtain ⟨n, g⟩ := t
      by_cases hg : g = st.G n <;> simp [tagsOf, hg]
  | _ => simp [tagsOf]

theorem tagNm_inj : ∀ {cs : List AV}, (tagsOf st cs).Nodup → ∀ {i j : Nat} {n : Nm}, tagNm st cs i = some n → tagNm st cs j = some n → i = j
  | [], _, i, j, n, h, _ => by simp [tagNm] at h
  | c :: r, hn, i, j, n, hi, hj => by
    rw [tagsOf_cons] at hn
    have shift : ∀ k m, tagNm st (c :: r) (k + 1) = some m → tagNm st r k = some m := fun k m h => by unfold tagNm at h ⊢; simpa using h
    cases i with
    | zero =>
      cases j with
      | zero => rfl
      | succ j =>
        rw [hi] at hn
        exact absurd (tagNm_mem (shift _ _ hj)) (List.nodup_cons.1 hn).1
    | succ i =>
      cases j with
      | zero =>
        rw [hj] at hn
        exact absurd (tagNm_mem (shift _ _ hi)) (List.nodup_cons.1 hn).1
      | succ j =>
        have hn' : (tagsOf st r).Nodup := by
          cases h0 : tagNm st (c :: r) 0 with
          | none => rw [h0] at hn; exact hn
          | some m => rw [h0] at hn; exact (List.nodup_cons.1 hn).2
        rw [tagNm_inj hn' (shift _ _ hi) (shift _ _ hj)]

theorem getD_app_left (xs ys : List Value) (i : Nat) (h : i < xs.length) : (xs ++ ys).getD i undef = xs.getD i undef := by
  simp [List.getD, List.getElem?_append_left h]

/-- The state in which a function begins whose arguments share nothing with what is written. -/
theorem enter_plain (h : Rel0 B E st a w) {xs : List AV} {vs : Array Value} (hv : All2 (V E st w) xs vs.toList) (hh : xs.all isHand = true) :
    ∃ E1, Rel0 ⟨E.pr, fun _ => False, w, vs.size, 0⟩ E1 (enterSt (xs.map stripA)) ⟨vs, []⟩ w := by
  have hnr : ∀ x ∈ xs.map stripA, isRef x = false := by
    intro x hx
    obtain ⟨y, hy, rfl⟩ := List.mem_map.1 hx
    have := List.all_eq_true.1 hh y hy
    cases y <;> first | rfl | cases this
  have he : enterSt (xs.map stripA) = ⟨fun i => (xs.map stripA).getD i (.v undef), fun _ => none, zg⟩ := by
    generalize xs.map stripA = ys at hnr
    cases ys with
    | nil => rfl
    | cons y r =>
      have := hnr y (by simp)
      cases y <;> first | rfl | cases this
  rw [he]
  refine ⟨⟨E.ρ, fun _ => none, E.pr⟩, ⟨fun i => ?_, fun n cs hn => (by cases hn), fun n m hn => absurd rfl hn, fun n hn => absurd rfl hn, fun n hn => absurd rfl hn, fun n b e ht => (by cases ht), fun n m b e e' ht => (by cases ht),
    Fr.refl _ _, fun b _ => rfl, fun b k h => h, fun b k h => .inl h, h.prlt, fun hn => absurd rfl hn, rfl, rfl⟩⟩
  by_cases hi : i < xs.length
  · have e1 : (xs.map stripA).getD i (.v undef) = stripA xs[i] := by simp [List.getD, hi]
    simp only [e1]
    have h1 := hv.2 i hi
    have h2 : vs.getD i undef = vs.toList.getD i undef := arr_getD vs i
    rw [h2]
    exact V_hand (E := E) (E' := ⟨E.ρ, fun _ => none, E.pr⟩) rfl h1 (List.all_eq_true.1 hh _ (List.getElem_mem hi))
  · have e1 : (xs.map stripA).getD i (.v undef) = .v undef := by simp [List.getD, Nat.le_of_not_lt hi]
    have hl : xs.length = vs.size := by simpa using hv.1
    have e2 : vs.getD i undef = undef := by
      simp only [Array.getD_eq_getD_getElem?]
      rw [Array.getElem?_eq_none (by omega)]
      rfl
    simp only [e1, e2]
    exact .v _

theorem V_flag (hp : E'.pr = E.pr) {cs : List AV} {k : Nat} {hk : k < cs.length} {y : Value} (h : V E st w cs[k] y) (hx : leafH cs[k] = true) {n : Nm}
    (ht : ∀ m, tagNm st cs k = some m → E'.τ n = E.τ m) : V E' st' w (nameL zg n (flagL st cs[k])) y := by
  have ht' : ∀ m, (match cs[k] with | .sl _ _ (some (n, g)) => if g = st.G n then some n else none | _ => none) = some m → E'.τ n = E.τ m := by
    intro m hm
    refine ht m ?_
    unfold tagNm
    rw [List.getElem?_eq_getElem hk]
    revert hm
    generalize cs[k] = c
    intro hm
    cases c with
    | sl sz es tg => cases tg with
      | none => cases hm
      | some t => exact hm
    | _ => cases hm
  generalize cs[k] = c at h hx ht'
  cases c with
  | v x => cases h; exact .v _
  | rptr x j => exact V_leafH (E := E) (st := st) (x := .rptr x j) hp h rfl
  | sl sz es tg =>
    cases tg with
    | none => exact V_leafH (E := E) (st := st) (x := .sl sz es none) hp h rfl
    | some t =>
      obtain ⟨m, g⟩ := t
      by_cases hgm : g = st.G m
      · have e : nameL zg n (flagL st (.sl sz es (some (m, g)))) = .sl sz es (some (n, 0)) := by simp [flagL, hgm, nameL, zg]
        rw [e]
        cases h with
        | sl h hh =>
          refine .sl (by rw [hp]; exact PV_tag _ h) (fun q r hq => ?_)
          simp only [Option.some.injEq, Prod.mk.injEq] at hq
          obtain ⟨rfl, rfl⟩ := hq
          exact ⟨Nat.zero_le _, fun _ => ((hh m g rfl).2 hgm).ren (ht' m (by simp [hgm]))⟩
      · have e : nameL zg n (flagL st (.sl sz es (some (m, g)))) = stripL (.sl sz es (some (m, g))) := by simp [flagL, hgm, nameL, stripL]
        rw [e]
        exact V_leafH hp h rfl
  | _ => cases hx

/-- The state in which a function begins to which an object is handed. -/
theorem enter_ref (h : Rel0 B E st a w) {n0 : Nm} {cs0 xs : List AV} {v0 : Value} {vs : List Value} (hn : st.ob n0 = some cs0) (h0 : v0 = .pointer (some ⟨E.ρ n0, 0, none⟩)) (hv : All2 (V E st w) xs vs) (hh : xs.all isHand = true)
    (hl : cs0.all leafH = true) (hnd : (tagsOf st cs0).Nodup) {wr1 : Nat → Prop} (hw : ∀ b, wr1 b ↔ (b = E.ρ n0 ∨ ∃ n e, n ∈ tagsOf st cs0 ∧ E.τ n = some (b, e))) :
    ∃ E1, Rel0 ⟨E.pr, wr1, w, (v0 :: vs).length, E.ρ n0⟩ E1 (enterSt (.ref (cs0.map (flagL st)) :: xs.map stripA)) ⟨(v0 :: vs).toArray, []⟩ w := by
  have hn' : st.ob n0 ≠ none := by rw [hn]; simp
  let E1 : Env := ⟨fun _ => E.ρ n0, fun n => if n.1 = 0 ∧ n.2.1 = 1 then (tagNm st cs0 n.2.2).bind E.τ else none, E.pr⟩
  have ht1 : ∀ n b e, E1.τ n = some (b, e) → n.1 = 0 ∧ n.2.1 = 1 ∧ ∃ m, tagNm st cs0 n.2.2 = some m ∧ E.τ m = some (b, e) := by
    intro n b e ht
    simp only [E1] at ht
    split at ht
    case isFalse => cases ht
    rename_i hc
    exact ⟨hc.1, hc.2, Option.bind_eq_some_iff.1 ht⟩
  have hob1 : ∀ n, (enterSt (.ref (cs0.map (flagL st)) :: xs.map stripA)).ob n ≠ none → n = (0, 1, 0) := by
    intro n hn
    simp only [enterSt] at hn
    by_cases e : n = (0, 1, 0)
    · exact e
    · simp [e] at hn
  have hlen : xs.length = vs.length := hv.1
  refine ⟨E1, ⟨fun i => ?_, fun n cs hc => ?_, fun n m hn hm _ => (hob1 n hn).trans (hob1 m hm).symm, fun n _ k => h.obp n0 hn' k, fun n _ => .inl ((hw _).2 (.inl rfl)), fun n b e ht => ?_, fun n m b e e' hn hm => ?_,
    Fr.refl _ _, fun b _ => rfl, fun b k h => h, fun b k h => .inl h, h.prlt, fun _ => rfl, rfl, by simp⟩⟩
  · cases i with
    | zero =>
      rw [h0]
      show V E1 _ w (.ptr (0, 1, 0) 0) _
      exact .ptr (E := E1) (by simp [enterSt])
    | succ i =>
      have e0 : (enterSt (.ref (cs0.map (flagL st)) :: xs.map stripA)).sl (i + 1) = (xs.map stripA).getD i (.v undef) := by simp [enterSt]
      have e1 : (v0 :: vs).toArray.getD (i + 1) undef = vs.getD i undef := by rw [arr_getD]; simp [List.getD]
      rw [e0, e1]
      by_cases hi : i < xs.length
      · have e2 : (xs.map stripA).getD i (.v undef) = stripA xs[i] := by simp [List.getD, hi]
        rw [e2]
        exact V_hand (E := E) (E' := E1) rfl (hv.2 i hi) (List.all_eq_true.1 hh _ (List.getElem_mem hi))
      · have e2 : (xs.map stripA).getD i (.v undef) = .v undef := by simp [List.getD, Nat.le_of_not_lt hi]
        have e3 : vs.getD i undef = undef := by simp only [List.getD]; rw [List.getElem?_eq_none (by omega)]; rfl
        rw [e2, e3]
        exact .v _
  · have e := hob1 n (by rw [hc]; simp)
    subst e
    simp only [enterSt, if_true, Option.some.injEq] at hc
    subst hc
    obtain ⟨us, e, hu, hle, hr⟩ := h.ob n0 cs0 hn
    refine ⟨us, e, hu, by rw [nameC_length]; simpa using hle, fun j hj => ?_⟩
    have hj' : j < (cs0.map (flagL st)).length := by rwa [nameC_length] at hj
    have hj2 : j < cs0.length := by simpa using hj'
    rw [nameC_get _ _ _ _ _ _ _ hj', List.getElem_map]
    refine V_flag (E := E) (E' := E1) rfl (hr j hj2) (List.all_eq_true.1 hl _ (List.getElem_mem hj2)) (fun m hm => ?_)
    simp only [Nat.zero_add, E1, and_self, if_true, hm, Option.bind_some]
  · obtain ⟨-, -, m, hm, hτ⟩ := ht1 n b e ht
    obtain ⟨t1, t2, t3, t4⟩ := h.tau m b e hτ
    refine ⟨t1, .inl ((hw b).2 (.inr ⟨m, e, tagNm_mem hm, hτ⟩)), t3, fun q hq => t4 n0 hn'⟩
  · obtain ⟨p1, p2, m1, hm1, hτ1⟩ := ht1 n b e hn
    obtain ⟨q1, q2, m2, hm2, hτ2⟩ := ht1 m b e' hm
    have := h.tdis m1 m2 b e e' hτ1 hτ2
    subst this
    have hk := tagNm_inj hnd hm1 hm2
    exact Prod.ext (p1.trans q1.symm) (Prod.ext (p2.trans q2.symm) hk)

/-- A call. -/
theorem call_sound (hΓ : GB P Γ B) (h : Rel0 B E st a w) {o : Oper} {d : Nat} {f : FuncId} {xs : List AV} {args : Array Value} (hv : All2 (V E st w) xs args.toList)
    (hrun : (execOp a.eval o).run P w = (callFunc f args).run P w) {x : AV} {st' : St} {hv' : Bool} (he : ecall Γ hv' st d f xs = some (x, st')) (hd : ∀ d, o.dst = some d → d < B.N) (Q : Exit → Act → World → Prop) :
    o.wp P a w (fun a' w' => Rel B (putSt st' o.dst x) a' w') Q := by
  unfold ecall at he
  split at he
  case h_2 => cases he
  rename_i n0 names ys F hargs hF
  split at he
  case h_2 => cases he
  rename_i r ou hFy
  split at he
  case isFalse => cases he
  rename_i hc
  obtain ⟨c1, c2, c3, c4⟩ := hc
  simp only [Option.some.injEq, Prod.mk.injEq] at he
  obtain ⟨rfl, rfl⟩ := he
  obtain ⟨hs, hent⟩ := hΓ.1 f F hF
  rw [hent] at hrun
  have hlen : xs.length = args.size := by simpa using hv.1
  have hall : ∀ cs, ou = some cs → cs.all leafH = true := by
    rintro cs rfl
    exact c2
  have hfr : ∀ cs, r = .ref cs → st.ob (nmOf d 0) = none := fun cs hr => by simpa using c3 (isRef_iff.2 ⟨cs, hr⟩)
  unfold eargs at hargs
  split at hargs
  · rename_i n k rest
    split at hargs
    case h_2 => cases hargs
    rename_i cs0 hn
    split at hargs
    case isFalse => cases hargs
    rename_i hc2
    obtain ⟨rfl, d1, d2, d3⟩ := hc2
    simp only [Option.some.injEq, Prod.mk.injEq] at hargs
    obtain ⟨rfl, rfl, rfl⟩ := hargs
    cases hal : args.toList with
    | nil =>
      have := hv.1
      rw [hal] at this
      simp at this
    | cons v0 vs =>
      rw [hal] at hv
      have hv0 := (V_ptr hv.head).1
      have hargsEq : args = (v0 :: vs).toArray := by rw [← hal]
      obtain ⟨E1, hE1⟩ := enter_ref h (wr1 := fun b => b = E.ρ n ∨ ∃ m e, m ∈ tagsOf st cs0 ∧ E.τ m = some (b, e)) hn hv0 hv.tail d3 d1 d2 (fun b => Iff.rfl)
      rw [← hargsEq] at hE1
      have hcall := hs _ _ _ hFy _ _ args w rfl (hΓ.2.next h _ _ _) hE1 (by simp [← hlen])
      unfold Oper.wp
      rw [hrun, Oper.upon_enter]
      refine hcall.mono ?_
      rintro e w2 ⟨y, E2, rfl, hL⟩
      have hn' : st.ob n ≠ none := by rw [hn]; simp
      have hsz : w.heap.size ≤ w2.heap.size := hL.frame.size
      obtain ⟨E3, h3, hv3⟩ := h.back (d := d) (n0 := some n) (names := tagsOf st cs0) (wr1 := fun b => b = E.ρ n ∨ ∃ m e, m ∈ tagsOf st cs0 ∧ E.τ m = some (b, e)) (fun b hb => by
          rcases hb with rfl | ⟨m, e, _, hτ⟩
          · exact h.own n hn'
          · exact (h.tau m b e hτ).2.1) (fun m hm hne hb => by
          rcases hb with hb | ⟨q, e, _, hτ⟩
          · exact hne (by rw [h.inj m n hm hn' hb])
          · exact (h.tau q _ e hτ).2.2.2 m hm rfl) (fun m b e hτ hm hb => by
          rcases hb with rfl | ⟨q, e', hq, hτ2⟩
          · exact (h.tau m _ e hτ).2.2.2 n hn' rfl
          · have := h.tdis m q b e e' hτ hτ2
            exact hm (this ▸ hq)) (fun m hm => by
          simp only [Option.some.injEq] at hm
          subst hm
          have ho : ou ≠ none := by
            intro e
            rw [e] at c4
            simp at c4
          refine ⟨hn', hL.pin ?_, ho⟩
          obtain ⟨cs, hcs⟩ := Option.ne_none_iff_exists'.1 ho
          simp [leaveSt, hcs]) c1 hall hfr hL hsz
      exact ⟨E3, h3.putSt hd hv3⟩
  · rename_i hnp
    split at hargs
    case isFalse => cases hargs
    rename_i hh
    simp only [Option.some.injEq, Prod.mk.injEq] at hargs
    obtain ⟨rfl, rfl, rfl⟩ := hargs
    obtain ⟨E1, hE1⟩ := enter_plain h hv hh
    have hcall := hs _ _ _ hFy _ _ args w rfl (hΓ.2.next h _ _ _) hE1 (by simp [← hlen])
    unfold Oper.wp
    rw [hrun, Oper.upon_enter]
    refine hcall.mono ?_
    rintro e w2 ⟨y, E2, rfl, hL⟩
    obtain ⟨E3, h3, hv3⟩ := h.back (d := d) (n0 := none) (names := []) (wr1 := fun _ => False) (fun b hb => hb.elim) (fun m _ _ hb => hb) (fun m b e _ _ hb => hb) (fun m hm => by cases hm) c1 hall hfr hL hL.frame.size
    exact ⟨E3, h3.putSt hd hv3⟩

end
end Caw

namespace Caw
open Go Go.RowKit

/-! ## An operation -/
def calleeA : AV → Option (FuncId × List AV)
  | .v (.func (.func g) fs cs) => if fs.isEmpty && cs.isEmpty then some (g, []) else none
  | .fn g cs => some (g, cs)
  | _ => none

/-- A slice that holds something, beside nil. -/
def enil (P : Program) (b : BinOp) (t : TypeId) : AV → AV → Option Value
  | .sl _ (_ :: _) _, .v (.slice none 0 0) => (match P.underlying t, b with
    | some (.slice _), .eql => some (.bool false)
    | some (.slice _), .neq => some (.bool true)
    | _, _ => none)
  | _, _ => none

/-- What a walk is told: the variables that are never written; the functions to which an object is handed; of slots that hold pointers, to which object. -/
structure Cfg where
  fz : List Nat
  hv : List FuncId
  rt : List (Nat × Nm) := []
def hvy (C : Cfg) : Operand → Bool
  | .func g => C.hv.contains g
  | _ => true

def lkR : List (Nat × Nm) → Nat → Option Nm
  | [], _ => none
  | p :: r, i => if i = p.1 then some p.2 else lkR r i
def rootOf (C : Cfg) : Operand → Option Nm
  | .tmp p => lkR C.rt p
  | _ => none
/-- Is the pointer what was told of it? -/
def rootOk (C : Cfg) (st : St) (x : Operand) : Bool :=
  match rootOf C x with
  | none => true
  | some n => match ev st x with
    | .ptr m _ => decide (m = n)
    | .rptr _ _ => true
    | _ => false

noncomputable def eop (P : Program) (Γ : Ctx1) (C : Cfg) (st : St) (o : Oper) : Option (AV × St) :=
  match o.op with
  | .move x => some (ev st x, st)
  | .assign x => some (ev st x, st)
  | .pick c x y => (match ev st c with
    | .v (.bool t) => some (if t then ev st x else ev st y, st)
    | _ => none)
  | .alloc t => (match o.dst, zeroT P t with
    | some d, some z => if (st.ob (nmOf d 0)).isNone then some (.ptr (nmOf d 0) 0, { st with ob := setF st.ob (nmOf d 0) (some (flat (.v z))) }) else none
    | _, _ => none)
  | .box _ x => (match o.dst with
    | some d => if C.fz.contains d then (if isPure (ev st x) then some (.rptr (ev st x) 0, st) else none)
      else if (st.ob (nmOf d 0)).isNone && live (ev st x) then some (.ptr (nmOf d 0) 0, { st with ob := setF st.ob (nmOf d 0) (some (flat (ev st x))) }) else none
    | none => none)
  | .build t ps => (ebuild P t (ps.toList.map fun p => (p.1, ev st p.2))).map (·, st)
  | .buildSlice t len ps => (match o.dst with
    | some d => ebuildS P st d t len (ps.toList.map fun p => (p.1, ev st p.2))
    | none => none)
  | .load t x => if rootOk C st x then (eload P st t (ev st x)).map (·, st) else none
  | .store t x y => if rootOk C st x then (match ev st x with
    | .ptr n k => (match st.ob n, sizeT P t with
      | some cs, some sz => if (flat (ev st y)).length = sz ∧ k + sz ≤ cs.length ∧ (flat (ev st y)).all leafOk = true then
          some (.v undef, { st with ob := setF st.ob n (some (splice cs k (flat (ev st y)) sz)) }) else none
      | _, _ => none)
    | _ => none) else none
  | .nilCheck x => (echeck (ev st x)).map (·, st)
  | .makeSlice t x y => (match o.dst, ev st x, ev st y with
    | some d, .v (.int _ n), .v (.int _ m) => if n = m then emake P st d t n else if n = 0 then emakeR P st d t m else none
    | _, _, _ => none)
  | .slice t x lo hi mx => (match o.dst, optI st lo, optI st hi, optI st mx with
    | some d, some l, some h, some m => eslice P st d t l h m (ev st x)
    | _, _, _, _ => none)
  | .fieldAddr s x f => (efield P s f (ev st x)).map (·, st)
  | .indexAddr t x i => (match ev st i with
    | .v (.int _ n) => (eindex P t n (ev st x)).map (·, st)
    | _ => none)
  | .extract x i => (eextract i (ev st x)).map (·, st)
  | .makeFunc fn first cs => (match fn with
    | .func g => if first.isEmpty then some (.fn g (cs.toList.map (ev st)), st) else none
    | _ => none)
  | .convert s d x => (match ebytes P s d (ev st x) with
    | some r => some (r, st)
    | none => dflt P st o)
  | .binOp b t x y _ => (match enil P b t (ev st x) (ev st y) with
    | some v => some (.v v, st)
    | none => dflt P st o)
  | .call c => (match c.callee with
    | .value f => (match o.dst, calleeA (ev st f) with
      | some d, some (g, caps) => ecall Γ (hvy C f) st d g (c.args.toList.map (ev st) ++ caps)
      | _, _ => none)
    | .builtin b => (match b, c.args.toList, c.argTypes.toList with
      | .append, [x, y], [t, t'] => (match o.dst with
        | some d => if t = t' then eappend P st d t (ev st x) (ev st y) else none
        | none => none)
      | .copy, [x, y], [t, _] => ecopy P st t (ev st x) (ev st y)
      | b, xs, ts => (match slLen P b (xs.map (ev st)) ts with
        | some n => some (.v (.int .i64 (n : Nat)), st)
        | none => dflt P st o))
    | .invoke _ _ => none)
  | .select _ _ => none
  | _ => dflt P st o

section
variable {P : Program} {Γ : Ctx1} {C : Cfg} {B : Base} {w w' : World} {E E' : Env} {st st' : St} {a a' : Act}

theorem run_equal_some {t e : TypeId} (hu : P.underlying t = some (.slice e)) (ad : Addr) (n c n' c' : Nat) (w : World) : (Op.equal t (.slice (some ad) n c) (.slice none n' c')).run P w = .ok false w := by
  have h : ∀ d, (Op.equalIn (d + 1) t (.slice (some ad) n c) (.slice none n' c')).run P w = .ok false w := by
    intro d
    simp only [Op.equalIn, Sem.run_bind, run_underlying hu w, Result.andThen_ok]
    rfl
  exact h 9999

theorem enil_sound (h : Rel0 B E st a w) {o : Oper} {b : BinOp} {t : TypeId} {x y : Operand} {t' : TypeId} (ho : o.op = .binOp b t x y t') {v : Value} (he : enil P b t (ev st x) (ev st y) = some v) (hd : ∀ d, o.dst = some d → d < B.N) (Q : Exit → Act → World → Prop) :
    o.wp P a w (fun a' w' => Rel B (putSt st o.dst (.v v)) a' w') Q := by
  have hx := ev_rel h x
  have hy := ev_rel h y
  unfold enil at he
  split at he
  case h_2 => cases he
  rename_i sz e r tg hx' hy'
  rw [hx'] at hx
  rw [hy'] at hy
  obtain ⟨ao, cap, hxe, hle⟩ := V_sl_inv hx
  have hyv := V_v hy
  have hsome : ∃ ad, ao = some ad := by
    rw [hxe] at hx
    cases hx with
    | sl h _ =>
      cases h with
      | sl => exact ⟨_, rfl⟩
  obtain ⟨ad, rfl⟩ := hsome
  split at he
  · rename_i e' hu
    cases he
    refine wp_yield h (y := .bool false) ?_ (.v _) hd Q
    unfold execOp
    simp [ho, hxe, hyv, eqGuard, binOp, run_equal_some hu]
  · rename_i e' hu
    cases he
    refine wp_yield h (y := .bool true) ?_ (.v _) hd Q
    unfold execOp
    simp [ho, hxe, hyv, eqGuard, binOp, run_equal_some hu]
  · cases he

theorem len_sound (h : Rel0 B E st a w) {o : Oper} {c : Call} {b : Builtin} (ho : o.op = .call c) (hc : c.callee = .builtin b) {n : Nat} (he : slLen P b (c.args.toList.map (ev st)) c.argTypes.toList = some n) (hd : ∀ d, o.dst = some d → d < B.N) (Q : Exit → Act → World → Prop) :
    o.wp P a w (fun a' w' => Rel B (putSt st o.dst (.v (.int .i64 (n : Nat)))) a' w') Q := by
  obtain ⟨callee, args, tys⟩ := c
  simp only at hc he
  subst hc
  unfold slLen at he
  split at he
  · rename_i sz es tg t hargs htys
    split at he
    case h_2 => cases he
    rename_i s hT
    cases he
    obtain ⟨e, hu, hs⟩ := sliceT_of hT
    obtain ⟨z, hz⟩ : ∃ z, args.toList = [z] := by
      have := congrArg List.length hargs
      simp only [List.length_map, List.length_cons, List.length_nil] at this
      exact List.length_eq_one_iff.1 this
    rw [hz] at hargs
    simp only [List.map_cons, List.map_nil, List.cons.injEq, and_true] at hargs
    have hx := ev_rel h z
    rw [hargs] at hx
    obtain ⟨ao, cap, hxe, -⟩ := V_sl_inv hx
    obtain rfl : args = #[z] := by rw [← Array.toArray_toList (xs := args), hz]
    obtain rfl : tys = #[t] := by rw [← Array.toArray_toList (xs := tys), htys]
    refine wp_yield h (y := .int .i64 (es.length : Nat)) ?_ (.v _) hd Q
    unfold execOp
    simp [ho, resolve, invoke, builtin, Builtin.len_, hxe, run_underlying hu]
    rfl
  · rename_i m off k cap t hargs htys
    split at he
    case h_2 => cases he
    rename_i s hT
    cases he
    obtain ⟨e, hu, hs⟩ := sliceT_of hT
    obtain ⟨z, hz⟩ : ∃ z, args.toList = [z] := by
      have := congrArg List.length hargs
      simp only [List.length_map, List.length_cons, List.length_nil] at this
      exact List.length_eq_one_iff.1 this
    rw [hz] at hargs
    simp only [List.map_cons, List.map_nil, List.cons.injEq, and_true] at hargs
    have hx := ev_rel h z
    rw [hargs] at hx
    obtain rfl : args = #[z] := by rw [← Array.toArray_toList (xs := args), hz]
    obtain rfl : tys = #[t] := by rw [← Array.toArray_toList (xs := tys), htys]
    generalize hval : a.eval z = val at hx
    cases hx with
    | osl hn =>
      refine wp_yield h (y := .int .i64 (n : Nat)) ?_ (.v _) hd Q
      unfold execOp
      simp [ho, resolve, invoke, builtin, Builtin.len_, hval, run_underlying hu]
      rfl
  · rename_i m off k cap t hargs htys
    split at he
    case h_2 => cases he
    rename_i s hT
    cases he
    obtain ⟨e, hu, hs⟩ := sliceT_of hT
    obtain ⟨z, hz⟩ : ∃ z, args.toList = [z] := by
      have := congrArg List.length hargs
      simp only [List.length_map, List.length_cons, List.length_nil] at this
      exact List.length_eq_one_iff.1 this
    rw [hz] at hargs
    simp only [List.map_cons, List.map_nil, List.cons.injEq, and_true] at hargs
    have hx := ev_rel h z
    rw [hargs] at hx
    obtain rfl : args = #[z] := by rw [← Array.toArray_toList (xs := args), hz]
    obtain rfl : tys = #[t] := by rw [← Array.toArray_toList (xs := tys), htys]
    generalize hval : a.eval z = val at hx
    cases hx with
    | own hn hle hr =>
      refine wp_yield h (y := .int .i64 (n : Nat)) ?_ (.v _) hd Q
      unfold execOp
      simp [ho, resolve, invoke, builtin, Builtin.len_, hval, run_underlying hu]
      rfl
  · rename_i x t hargs htys
    split at he
    case h_2 => cases he
    rename_i hu
    cases he
    obtain ⟨z, hz⟩ : ∃ z, args.toList = [z] := by
      have := congrArg List.length hargs
      simp only [List.length_map, List.length_cons, List.length_nil] at this
      exact List.length_eq_one_iff.1 this
    rw [hz] at hargs
    simp only [List.map_cons, List.map_nil, List.cons.injEq, and_true] at hargs
    have hx := ev_rel h z
    rw [hargs] at hx
    have hxe := V_v hx
    obtain rfl : args = #[z] := by rw [← Array.toArray_toList (xs := args), hz]
    obtain rfl : tys = #[t] := by rw [← Array.toArray_toList (xs := tys), htys]
    refine wp_yield h (y := .int .i64 (x.size : Nat)) ?_ (.v _) hd Q
    unfold execOp
    simp [ho, resolve, invoke, builtin, Builtin.len_, hxe, run_underlying hu]
    rfl
  · cases he

theorem append_op (h : Rel0 B E st a w) {o : Oper} {x y : Operand} {t : TypeId} (ho : o.op = .call ⟨.builtin .append, #[x, y], #[t, t]⟩) {r : AV} {st' : St} {d : Nat} (he : eappend P st d t (ev st x) (ev st y) = some (r, st')) (hd : ∀ d, o.dst = some d → d < B.N) (Q : Exit → Act → World → Prop) :
    o.wp P a w (fun a' w' => Rel B (putSt st' o.dst r) a' w') Q := by
  obtain ⟨v', w1, E', hr, h1, hv⟩ := append_sound (P := P) (ty := o.type) h (ev_rel h x) (ev_rel h y) he
  refine wp_value (v := v') (w' := w1) ?_ ⟨E', h1.putSt hd hv⟩
  unfold execOp
  simp only [ho, resolve, invoke, builtin, Sem.run_bind, Sem.run_pure, Result.andThen_ok, List.map_toArray, List.map_cons, List.map_nil, hr]

theorem copy_op (h : Rel0 B E st a w) {o : Oper} {x y : Operand} {t t' : TypeId} (ho : o.op = .call ⟨.builtin .copy, #[x, y], #[t, t']⟩) {r : AV} {st' : St} (he : ecopy P st t (ev st x) (ev st y) = some (r, st')) (hd : ∀ d, o.dst = some d → d < B.N) (Q : Exit → Act → World → Prop) :
    o.wp P a w (fun a' w' => Rel B (putSt st' o.dst r) a' w') Q := by
  obtain ⟨v', w1, hr, h1, hv⟩ := copy_sound (P := P) (sT := t') (ty := o.type) h (ev_rel h x) (ev_rel h y) he
  refine wp_value (v := v') (w' := w1) ?_ ⟨E, h1.putSt hd hv⟩
  unfold execOp
  simp only [ho, resolve, invoke, builtin, Sem.run_bind, Sem.run_pure, Result.andThen_ok, List.map_toArray, List.map_cons, List.map_nil, hr]

theorem call_op (hΓ : GB P Γ B) (h : Rel0 B E st a w) {o : Oper} {f : Operand} {args : Array Operand} {tys : Array TypeId} (ho : o.op = .call ⟨.value f, args, tys⟩) {g : FuncId} {caps : List AV} (hf : calleeA (ev st f) = some (g, caps)) {d : Nat} {r : AV} {st' : St}
    {hv' : Bool} (he : ecall Γ hv' st d g (args.toList.map (ev st) ++ caps) = some (r, st')) (hd : ∀ d, o.dst = some d → d < B.N) (Q : Exit → Act → World → Prop) :
    o.wp P a w (fun a' w' => Rel B (putSt st' o.dst r) a' w') Q := by
  have hx := ev_rel h f
  have hargs : All2 (V E st w) (args.toList.map (ev st)) (args.toList.map a.eval) := ⟨by simp, fun i hi => by
    have hi' : i < args.size := by simpa using hi
    simpa [List.getD, hi'] using ev_rel h args[i]⟩
  unfold calleeA at hf
  split at hf
  · rename_i g' fs cs hfe
    split at hf
    case isFalse => cases hf
    rename_i hemp
    simp only [Bool.and_eq_true, Array.isEmpty_iff] at hemp
    obtain ⟨rfl, rfl⟩ := hemp
    simp only [Option.some.injEq, Prod.mk.injEq] at hf
    obtain ⟨rfl, rfl⟩ := hf
    rw [hfe] at hx
    have hfv := V_v hx
    refine call_sound (args := args.map a.eval) hΓ h (xs := args.toList.map (ev st) ++ []) (by simpa using hargs) ?_ he hd Q
    unfold execOp
    simp only [ho, Sem.run_bind, resolve, hfv, Deferred.ofValue, Sem.run_pure, Result.andThen_ok, invoke]
    simp
  · rename_i g' cs hfe
    simp only [Option.some.injEq, Prod.mk.injEq] at hf
    obtain ⟨rfl, rfl⟩ := hf
    rw [hfe] at hx
    generalize hval : a.eval f = val at hx
    cases hx with
    | fn hl hc =>
      rename_i vs
      have hcaps : All2 (V E st w) cs vs.toList := ⟨by simpa using hl, fun i hi => by rw [← arr_getD]; exact hc i hi⟩
      refine call_sound (args := args.map a.eval ++ vs) hΓ h (by simpa using hargs.append hcaps) ?_ he hd Q
      unfold execOp
      simp only [ho, Sem.run_bind, resolve, hval, Deferred.ofValue, Sem.run_pure, Result.andThen_ok, invoke]
      simp
  · cases hf

theorem eop_sound (hΓ : GB P Γ B) (h : Rel0 B E st a w) {o : Oper} {x : AV} {st' : St} (he : eop P Γ C st o = some (x, st')) (hd : ∀ d, o.dst = some d → d < B.N) (Q : Exit → Act → World → Prop) :
    o.wp P a w (fun a' w' => Rel B (putSt st' o.dst x) a' w') Q := by
  cases hop : o.op
  all_goals (unfold eop at he; rw [hop] at he; simp only at he)
  case move y =>
    cases he
    exact move_sound h (.inl hop) hd Q
  case assign y =>
    cases he
    exact move_sound h (.inr hop) hd Q
  case pick c y z =>
    split at he
    case h_2 => cases he
    rename_i t hc
    cases he
    exact pick_sound h hop hc hd Q
  case alloc t =>
    split at he
    case h_2 => cases he
    rename_i d z hdst hz
    split at he
    case isFalse => cases he
    rename_i hn
    cases he
    exact alloc_sound h hop hdst (hd d hdst) hz (by simpa using hn) Q
  case box t y =>
    split at he
    case h_2 => cases he
    rename_i d hdst
    split at he
    · split at he
      case isFalse => cases he
      rename_i hp
      cases he
      exact frozen_sound h hop hd hp Q
    · split at he
      case isFalse => cases he
      rename_i hn
      simp only [Bool.and_eq_true] at hn
      cases he
      exact box_sound h hop hdst (hd d hdst) hn.2 (by simpa using hn.1) Q
  case build t ps =>
    simp only [Option.map_eq_some_iff, Prod.mk.injEq] at he
    obtain ⟨y, hy, rfl, rfl⟩ := he
    exact build_sound h hop hy hd Q
  case buildSlice t len ps =>
    split at he
    case h_2 => cases he
    rename_i d hdst
    exact buildSlice_sound h hop hdst he hd Q
  case load t y =>
    split at he
    case isFalse => cases he
    simp only [Option.map_eq_some_iff, Prod.mk.injEq] at he
    obtain ⟨z, hz, rfl, rfl⟩ := he
    exact load_sound h hop hz hd Q
  case store t p y =>
    split at he
    case isFalse => cases he
    split at he
    case h_2 => cases he
    rename_i n k hp
    split at he
    case h_2 => cases he
    rename_i cs sz hn hsz
    split at he
    case isFalse => cases he
    rename_i hc
    cases he
    exact store_sound h hop hp hn hsz hc.1 hc.2.1 hc.2.2 hd Q
  case nilCheck y =>
    simp only [Option.map_eq_some_iff, Prod.mk.injEq] at he
    obtain ⟨z, hz, rfl, rfl⟩ := he
    exact nilCheck_sound h hop hz hd Q
  case makeSlice t y z =>
    split at he
    case h_2 => cases he
    rename_i d k1 n k2 m hdst h1 h2
    split at he
    · rename_i hnm
      subst hnm
      exact make_sound h hop h1 h2 he hd Q
    · split at he
      case isFalse => cases he
      rename_i hn0
      subst hn0
      exact makeR_sound h hop h1 h2 he hd Q
  case slice t y lo hi mx =>
    split at he
    case h_2 => cases he
    rename_i d l hh m _ h1 h2 h3
    exact slice_sound h hop h1 h2 h3 he hd Q
  case fieldAddr s y f =>
    simp only [Option.map_eq_some_iff, Prod.mk.injEq] at he
    obtain ⟨z, hz, rfl, rfl⟩ := he
    exact fieldAddr_sound h hop hz hd Q
  case indexAddr t y i =>
    split at he
    case h_2 => cases he
    rename_i k n hi
    simp only [Option.map_eq_some_iff, Prod.mk.injEq] at he
    obtain ⟨z, hz, rfl, rfl⟩ := he
    exact indexAddr_sound h hop hi hz hd Q
  case extract y i =>
    simp only [Option.map_eq_some_iff, Prod.mk.injEq] at he
    obtain ⟨z, hz, rfl, rfl⟩ := he
    exact extract_sound h hop hz hd Q
  case makeFunc fn first cs =>
    split at he
    case h_2 => cases he
    rename_i g
    split at he
    case isFalse => cases he
    rename_i hf
    simp only [Array.isEmpty_iff] at hf
    subst hf
    cases he
    exact makeFunc_sound h hop hd Q
  case convert s d y =>
    split at he
    · rename_i r hb
      cases he
      exact bytes_sound h hop hb hd Q
    · exact dflt_sound h (by rw [hop]; simp) he hd Q
  case binOp b t y z t' =>
    split at he
    · rename_i v hn
      cases he
      exact enil_sound h hop hn hd Q
    · exact dflt_sound h (by rw [hop]; simp) he hd Q
  case call c =>
    obtain ⟨callee, args, tys⟩ := c
    simp only at he
    cases callee with
    | value f =>
      simp only at he
      split at he
      case h_2 => cases he
      rename_i d g caps _ hf
      exact call_op hΓ h hop hf he hd Q
    | builtin b =>
      simp only at he
      split at he
      · rename_i y z t t' hargs htys
        split at he
        case h_2 => cases he
        split at he
        case isFalse => cases he
        rename_i htt
        subst htt
        obtain rfl : args = #[y, z] := by rw [← Array.toArray_toList (xs := args), hargs]
        obtain rfl : tys = #[t, t] := by rw [← Array.toArray_toList (xs := tys), htys]
        exact append_op h hop he hd Q
      · rename_i y z t t' hargs htys
        obtain rfl : args = #[y, z] := by rw [← Array.toArray_toList (xs := args), hargs]
        obtain rfl : tys = #[t, t'] := by rw [← Array.toArray_toList (xs := tys), htys]
        exact copy_op h hop he hd Q
      · split at he
        · rename_i n hn
          cases he
          exact len_sound h hop rfl hn hd Q
        · exact dflt_sound h (by rw [hop]; simp) he hd Q
    | invoke r m => cases he
  case select => cases he
  all_goals exact dflt_sound h (by rw [hop]; simp) he hd Q

end
end Caw

namespace Caw
open Go Go.RowKit

/-! ### What an operation looks at -/
def cls (C : Cfg) : Op → Nat
  | .load .. => 1
  | .alloc _ => 2
  | .box .. => 2
  | .buildSlice .. => 2
  | .makeSlice .. => 2
  | .slice _ _ _ _ mx => if mx.isSome then 2 else 0
  | .store .. => 3
  | .call c => (match c.callee with
    | .value f => if hvy C f then 3 else 2
    | .builtin .append => 3
    | .builtin .copy => 3
    | _ => 0)
  | _ => 0

/-- The same, with other slots. -/
def reSl (sl : Nat → AV) (r : AV × St) : AV × St := (r.1, ⟨sl, r.2.ob, r.2.G⟩)

section
variable {P : Program} {Γ : Ctx1} {C : Cfg} {sl sl' : Nat → AV} {ob ob' : Obs} {G G' : Nm → Nat} {st st' : St}

theorem evs (x : Operand) : ev ⟨sl, ob, G⟩ x = ev ⟨sl, ob', G'⟩ x := by cases x <;> rfl

theorem sop_congr {g g' : Operand → Option Value} {op : Op} (h : ∀ x ∈ op.operands, g x = g' x) : sop P g op = sop P g' op := by
  cases op
  case binOp b t x y z => simp only [sop]; rw [h x (by simp [Op.operands]), h y (by simp [Op.operands])]
  case unOp u t x => simp only [sop]; rw [h x (by simp [Op.operands])]
  case convert s d x => simp only [sop]; rw [h x (by simp [Op.operands])]
  case call c =>
    obtain ⟨callee, args, tys⟩ := c
    have ha : ∀ x ∈ args.toList, g x = g' x := fun x hx => h x (by simp only [Op.operands, Call.operands]; exact Array.mem_append_right _ (by simpa using hx))
    simp only [sop]
    split
    · rename_i x y hargs
      rw [ha x (by rw [hargs]; simp), ha y (by rw [hargs]; simp)]
    · rename_i x y z hargs
      rw [ha x (by rw [hargs]; simp), ha y (by rw [hargs]; simp), ha z (by rw [hargs]; simp)]
    · rename_i x y hargs
      rw [ha x (by rw [hargs]; simp), ha y (by rw [hargs]; simp)]
    · rfl
  all_goals rfl

theorem dflt_congr {o : Oper} (hs : ∀ cs b, o.op ≠ .select cs b) (h : ∀ x ∈ o.op.operands, ev ⟨sl, ob, G⟩ x = ev ⟨sl', ob', G'⟩ x) :
    (dflt P ⟨sl, ob, G⟩ o).map (·.1) = (dflt P ⟨sl', ob', G'⟩ o).map (·.1) ∧ (∀ x r, dflt P ⟨sl, ob, G⟩ o = some (x, r) → r = ⟨sl, ob, G⟩) := by
  have e0 : sop P (fun x => toV (ev ⟨sl, ob, G⟩ x)) o.op = sop P (fun x => toV (ev ⟨sl', ob', G'⟩ x)) o.op := sop_congr (fun x hx => by rw [h x hx])
  have e1 : o.op.operands.all (fun x => (toV (ev ⟨sl, ob, G⟩ x)).isSome) = o.op.operands.all (fun x => (toV (ev ⟨sl', ob', G'⟩ x)).isSome) := by
    rw [Bool.eq_iff_iff, Array.all_eq_true_iff_forall_mem, Array.all_eq_true_iff_forall_mem]
    exact ⟨fun hh x hx => by rw [← h x hx]; exact hh x hx, fun hh x hx => by rw [h x hx]; exact hh x hx⟩
  have e2 : execOp (fun x => (toV (ev ⟨sl, ob, G⟩ x)).getD undef) o = execOp (fun x => (toV (ev ⟨sl', ob', G'⟩ x)).getD undef) o := execOp_congr o hs (fun x hx => by rw [h x hx])
  constructor
  · unfold dflt
    rw [e0, e1, e2]
    split
    · rfl
    · split
      · split <;> rfl
      · rfl
  · intro x r hr
    unfold dflt at hr
    split at hr
    · cases hr; rfl
    · split at hr
      · split at hr
        · cases hr; rfl
        · cases hr
      · cases hr

theorem ebuildS_sl {d t len xs x r} (h : ebuildS P st d t len xs = some (x, r)) : r.sl = st.sl := by
  unfold ebuildS at h; (repeat' (split at h)) <;> first | (cases h; done) | (cases h; rfl)
theorem emakeR_sl {d t n x r} (h : emakeR P st d t n = some (x, r)) : r.sl = st.sl := by
  unfold emakeR at h; (repeat' (split at h)) <;> first | (cases h; done) | (cases h; rfl)
theorem emake_sl {d t n x r} (h : emake P st d t n = some (x, r)) : r.sl = st.sl := by
  unfold emake at h; (repeat' (split at h)) <;> first | (cases h; done) | (cases h; rfl)
theorem eslice_sl {d t l hh m y x r} (h : eslice P st d t l hh m y = some (x, r)) : r.sl = st.sl := by
  unfold eslice at h; (repeat' (split at h)) <;> first | (cases h; done) | (cases h; rfl)
theorem bumpO_sl (n : Option Nm) : (bumpO st n).sl = st.sl := by cases n <;> rfl
theorem eappend_sl {d t s y x r} (h : eappend P st d t s y = some (x, r)) : r.sl = st.sl := by
  unfold eappend at h; (repeat' (split at h)) <;> first | (cases h; done) | (cases h; exact bumpO_sl _)
theorem ecopy_sl {t s y x r} (h : ecopy P st t s y = some (x, r)) : r.sl = st.sl := by
  unfold ecopy at h; (repeat' (split at h)) <;> first | (cases h; done) | (cases h; rfl)
theorem ecall_sl {hv d f xs x r} (h : ecall Γ hv st d f xs = some (x, r)) : r.sl = st.sl := by
  unfold ecall at h; (repeat' (split at h)) <;> first | (cases h; done) | (cases h; rfl)
theorem dflt_sl {o x r} (h : dflt P st o = some (x, r)) : r = st := by
  unfold dflt at h; (repeat' (split at h)) <;> first | (cases h; done) | (cases h; rfl)
theorem map_sl {f : Option AV} {x : AV} {r : St} (h : f.map (·, st) = some (x, r)) : r = st := by
  simp only [Option.map_eq_some_iff, Prod.mk.injEq] at h
  obtain ⟨_, _, _, rfl⟩ := h
  rfl

/-- The state's slots are handed through. -/
theorem eop_sl {o : Oper} {x : AV} {r : St} (h : eop P Γ C st o = some (x, r)) : r.sl = st.sl := by
  unfold eop at h
  (repeat' (split at h)) <;> first
    | (cases h; done)
    | (cases h; rfl)
    | (rw [map_sl h]; done)
    | (rw [dflt_sl h]; done)
    | exact ebuildS_sl h
    | exact emake_sl h
    | exact emakeR_sl h
    | exact eslice_sl h
    | exact eappend_sl h
    | exact ecopy_sl h
    | exact ecall_sl h

/-- Class 0: objects and names do not matter, and stay. -/
theorem eslice_zero {d : Nat} {t : TypeId} {l hh : Option Int} {y x : AV} {r : St} (h : eslice P ⟨sl, ob, G⟩ d t l hh none y = some (x, r)) : r = ⟨sl, ob, G⟩ ∧ eslice P ⟨sl, ob', G'⟩ d t l hh none y = some (x, ⟨sl, ob', G'⟩) := by
  unfold eslice at h ⊢
  split at h
  · split at h
    · rename_i hc; rw [if_pos hc]; cases h; exact ⟨rfl, rfl⟩
    · cases h
  · split at h
    · rename_i hc; simp only; rw [if_pos ⟨hc.1, hc.2.1, hc.2.2.1, trivial⟩]; cases h; exact ⟨rfl, rfl⟩
    · cases h
  · split at h
    · split at h
      · rename_i hc; simp only; rw [if_pos ⟨hc.1, hc.2.1, hc.2.2.1, hc.2.2.2.1, trivial⟩]; cases h; exact ⟨rfl, rfl⟩
      · cases h
    · cases h
  · split at h
    · split at h
      · rename_i hc; simp only; rw [if_pos ⟨hc.1, hc.2.1, hc.2.2.1, trivial⟩]; cases h; exact ⟨rfl, rfl⟩
      · cases h
    · cases h
  · split at h
    · split at h
      · rename_i hA hc; simp only [hA]; rw [if_pos ⟨hc.1, hc.2.1, hc.2.2.1, trivial, hc.2.2.2.2⟩]; cases h; exact ⟨rfl, rfl⟩
      · cases h
    · cases h
  · cases h

theorem map_zero {f : Option AV} {st st' : St} {x : AV} {r : St} (h : f.map (·, st) = some (x, r)) : r = st ∧ f.map (·, st') = some (x, st') := by
  simp only [Option.map_eq_some_iff, Prod.mk.injEq] at h ⊢
  obtain ⟨y, hy, rfl, rfl⟩ := h
  exact ⟨rfl, y, hy, rfl, trivial⟩

theorem dflt_zero {o : Oper} (hs : ∀ cs b, o.op ≠ .select cs b) {x : AV} {r : St} (h : dflt P ⟨sl, ob, G⟩ o = some (x, r)) : r = ⟨sl, ob, G⟩ ∧ dflt P ⟨sl, ob', G'⟩ o = some (x, ⟨sl, ob', G'⟩) := by
  obtain ⟨h1, h2⟩ := dflt_congr (P := P) (sl := sl) (sl' := sl) (ob := ob) (ob' := ob') (G := G) (G' := G') hs (fun x _ => evs x)
  refine ⟨h2 _ _ h, ?_⟩
  rw [h] at h1
  cases hd : dflt P ⟨sl, ob', G'⟩ o with
  | none => rw [hd] at h1; cases h1
  | some y =>
    rw [hd] at h1
    simp only [Option.map_some, Option.some.injEq] at h1
    obtain ⟨y1, y2⟩ := y
    have := dflt_sl hd
    simp only at h1
    rw [h1, this]

theorem map_evs (l : List Operand) : l.map (ev ⟨sl, ob, G⟩) = l.map (ev ⟨sl, ob', G'⟩) := List.map_congr_left (fun x _ => evs x)

theorem optI_evs (x : Option Operand) : optI ⟨sl, ob, G⟩ x = optI ⟨sl, ob', G'⟩ x := by
  cases x with
  | none => rfl
  | some y => simp only [optI]; rw [evs (ob' := ob') (G' := G')]

theorem eop_zero {o : Oper} {x : AV} {r : St} (hc : cls C o.op = 0) (h : eop P Γ C ⟨sl, ob, G⟩ o = some (x, r)) : r = ⟨sl, ob, G⟩ ∧ eop P Γ C ⟨sl, ob', G'⟩ o = some (x, ⟨sl, ob', G'⟩) := by
  have hev : ev ⟨sl, ob, G⟩ = ev ⟨sl, ob', G'⟩ := funext fun y => evs y
  obtain ⟨dst, op, type, pos, after, guard⟩ := o
  cases op
  case load => cases hc
  case alloc => cases hc
  case box => cases hc
  case buildSlice => cases hc
  case makeSlice => cases hc
  case store => cases hc
  case select => simp only [eop] at h; cases h
  case move y => simp only [eop] at h ⊢; rw [← hev]; cases h; exact ⟨rfl, rfl⟩
  case assign y => simp only [eop] at h ⊢; rw [← hev]; cases h; exact ⟨rfl, rfl⟩
  case pick c y z =>
    simp only [eop] at h ⊢
    rw [← hev]
    split at h
    · cases h; exact ⟨rfl, rfl⟩
    · cases h
  case build t ps => simp only [eop] at h ⊢; rw [← hev]; exact map_zero h
  case nilCheck y => simp only [eop] at h ⊢; rw [← hev]; exact map_zero h
  case fieldAddr s y f => simp only [eop] at h ⊢; rw [← hev]; exact map_zero h
  case extract y i => simp only [eop] at h ⊢; rw [← hev]; exact map_zero h
  case indexAddr t y i =>
    simp only [eop] at h ⊢
    rw [← hev]
    split at h
    · exact map_zero h
    · cases h
  case makeFunc fn first cs =>
    simp only [eop] at h ⊢
    rw [← hev]
    split at h
    · split at h
      · rename_i hf; rw [if_pos hf]; cases h; exact ⟨rfl, rfl⟩
      · cases h
    · cases h
  case slice t y lo hi mx =>
    cases mx with
    | some m => simp [cls] at hc
    | none =>
      simp only [eop] at h ⊢
      rw [← hev, optI_evs (ob' := ob) (G' := G) lo, optI_evs (ob' := ob) (G' := G) hi, optI_evs (ob' := ob) (G' := G) none]
      split at h
      · rename_i d l hh m h1 h2 h3
        have : m = none := by simpa [optI] using h3.symm
        subst this
        exact eslice_zero h
      · cases h
  case convert s d y =>
    simp only [eop] at h ⊢
    rw [← hev]
    split at h
    · cases h; exact ⟨rfl, rfl⟩
    · exact dflt_zero (by simp) h
  case binOp b t y z t' =>
    simp only [eop] at h ⊢
    rw [← hev]
    split at h
    · cases h; exact ⟨rfl, rfl⟩
    · exact dflt_zero (by simp) h
  case call c =>
    obtain ⟨callee, args, tys⟩ := c
    cases callee with
    | value f => simp only [cls] at hc; split at hc <;> cases hc
    | invoke r m => simp only [eop] at h; cases h
    | builtin b =>
      simp only [eop] at h ⊢
      rw [← hev]
      split at h
      · cases hc
      · cases hc
      · split at h
        · cases h; exact ⟨rfl, rfl⟩
        · exact dflt_zero (by simp) h
  all_goals
    simp only [eop] at h ⊢
    exact dflt_zero (by simp) h

/-- A load hangs on the one object. -/
theorem eop_load {o : Oper} {x : AV} {r : St} {t : TypeId} {y : Operand} (ho : o.op = .load t y) (h : eop P Γ C ⟨sl, ob, G⟩ o = some (x, r)) (hm : ∀ m k, ev ⟨sl, ob, G⟩ y = .ptr m k → ob' m = ob m) :
    r = ⟨sl, ob, G⟩ ∧ eop P Γ C ⟨sl, ob', G'⟩ o = some (x, ⟨sl, ob', G'⟩) := by
  have hev : ev ⟨sl, ob, G⟩ = ev ⟨sl, ob', G'⟩ := funext fun y => evs y
  unfold eop at h ⊢
  simp only [ho] at h ⊢
  rw [← hev]
  have hro : rootOk C ⟨sl, ob', G'⟩ y = rootOk C ⟨sl, ob, G⟩ y := by unfold rootOk; rw [hev]
  rw [hro]
  split at h
  case isFalse => cases h
  rename_i hr
  rw [if_pos hr]
  have he : eload P ⟨sl, ob', G'⟩ t (ev ⟨sl, ob, G⟩ y) = eload P ⟨sl, ob, G⟩ t (ev ⟨sl, ob, G⟩ y) := by
    cases hy : ev ⟨sl, ob, G⟩ y with
    | ptr m k => simp only [eload]; rw [hm m k hy]
    | _ => rfl
  rw [he]
  exact map_zero h

/-- The pointer of what is loaded, by what was told of it. -/
theorem eop_load_root {o : Oper} {x : AV} {r : St} {t : TypeId} {y : Operand} (ho : o.op = .load t y) (h : eop P Γ C ⟨sl, ob, G⟩ o = some (x, r)) {n : Nm} (hn : rootOf C y = some n) : ∀ m k, ev ⟨sl, ob, G⟩ y = .ptr m k → m = n := by
  intro m0 k0 e0
  unfold eop at h
  simp only [ho] at h
  split at h
  case isFalse => cases h
  rename_i hr
  unfold rootOk at hr
  rw [hn] at hr
  simp only at hr
  split at hr
  · rename_i m k he
    simp only [decide_eq_true_eq] at hr
    subst hr
    rw [he] at e0
    cases e0
    rfl
  · rename_i he
    rw [he] at e0
    cases e0
  · cases hr

/-- A store hangs on its object, and writes it alone. -/
theorem eop_store {o : Oper} {x : AV} {r : St} {t : TypeId} {p y : Operand} (ho : o.op = .store t p y) (h : eop P Γ C ⟨sl, ob, G⟩ o = some (x, r)) :
    ∃ n k c, ev ⟨sl, ob, G⟩ p = .ptr n k ∧ r = ⟨sl, setF ob n (some c), G⟩ ∧ (∀ m, rootOf C p = some m → n = m) ∧
      ∀ ob' G', ob' n = ob n → eop P Γ C ⟨sl, ob', G'⟩ o = some (x, ⟨sl, setF ob' n (some c), G'⟩) := by
  have hev : ∀ ob' G', ev ⟨sl, ob', G'⟩ = ev ⟨sl, ob, G⟩ := fun ob' G' => funext fun y => evs y
  have hro : ∀ ob' G', rootOk C ⟨sl, ob', G'⟩ p = rootOk C ⟨sl, ob, G⟩ p := fun ob' G' => by unfold rootOk; rw [hev]
  unfold eop at h
  simp only [ho] at h
  split at h
  case isFalse => cases h
  rename_i hr
  split at h
  case h_2 => cases h
  rename_i n k hp
  split at h
  case h_2 => cases h
  rename_i cs sz hn hsz
  split at h
  case isFalse => cases h
  rename_i hc
  cases h
  refine ⟨n, k, _, hp, rfl, fun m hm => ?_, fun ob' G' hob => ?_⟩
  · unfold rootOk at hr
    rw [hm] at hr
    simp only [hp, decide_eq_true_eq] at hr
    exact hr
  · unfold eop
    simp only [ho, hro, hr, if_true, hev, hp]
    have hn' : ob' n = some cs := by rw [hob]; exact hn
    rw [hn', hsz]
    simp only
    rw [if_pos hc]

/-- What is made of one's own names: locally. -/
structure Local (d : Nat) (o0 o1 : Obs) (G0 G1 : Nm → Nat) : Prop where
  lob : ∀ n : Nm, n.1 ≠ d + 1 → o1 n = o0 n
  lold : ∀ n, o0 n ≠ none → o1 n = o0 n
  lG : ∀ n : Nm, n.1 ≠ d + 1 → G1 n = G0 n
def mix {α : Type} (d : Nat) (f g : Nm → α) : Nm → α := fun n => if n.1 = d + 1 then f n else g n

theorem mix_set {α : Type} {d : Nat} {n : Nm} (hn : n.1 = d + 1) (f g : Nm → α) (x : α) (hfg : ∀ n : Nm, n.1 = d + 1 → g n = f n) : mix d (setF f n x) g = setF g n x := by
  funext m
  simp only [mix, setF]
  by_cases h1 : m.1 = d + 1
  · by_cases h2 : m = n
    · simp [h2, hn]
    · simp only [h1, h2, if_true, if_false]; exact (hfg m h1).symm
  · have h2 : m ≠ n := fun e => h1 (e ▸ hn)
    simp only [h1, h2, if_false]
theorem mix_same {α : Type} {d : Nat} (f g : Nm → α) (hfg : ∀ n : Nm, n.1 = d + 1 → g n = f n) : mix d f g = g := by
  funext m
  simp only [mix]
  split
  · rename_i h; exact (hfg m h).symm
  · rfl

def LocalR (f : St → Option (AV × St)) (d : Nat) (sl : Nat → AV) (ob : Obs) (G : Nm → Nat) (x : AV) (r : St) : Prop :=
  Local d ob r.ob G r.G ∧ ∀ ob' G', (∀ n : Nm, n.1 = d + 1 → ob' n = ob n ∧ G' n = G n) → f ⟨sl, ob', G'⟩ = some (x, ⟨sl, mix d r.ob ob', mix d r.G G'⟩)

theorem local_bump {d : Nat} : Local d ob ob G (setF G (nmOf d 0) (G (nmOf d 0) + 1)) :=
  ⟨fun _ _ => rfl, fun _ _ => rfl, fun n hn => by
    have : n ≠ nmOf d 0 := fun e => hn (by rw [e]; rfl)
    simp [setF, this]⟩
theorem local_new {d : Nat} {c : Option (List AV)} (hn : ob (nmOf d 0) = none) : Local d ob (setF ob (nmOf d 0) c) G G :=
  ⟨fun n hn => by
    have : n ≠ nmOf d 0 := fun e => hn (by rw [e]; rfl)
    simp [setF, this], fun n hn' => by
    have : n ≠ nmOf d 0 := fun e => hn' (by rw [e]; exact hn)
    simp [setF, this], fun _ _ => rfl⟩

theorem eop_new {o : Oper} {x : AV} {r : St} (hc : cls C o.op = 2) (h : eop P Γ C ⟨sl, ob, G⟩ o = some (x, r)) : ∃ d : Nat, o.dst = some d ∧ LocalR (fun s => eop P Γ C s o) d sl ob G x r := by
  have hev : ∀ ob' G', ev ⟨sl, ob', G'⟩ = ev ⟨sl, ob, G⟩ := fun ob' G' => funext fun y => evs y
  cases hop : o.op
  all_goals (rw [hop] at hc; unfold eop at h; simp only [hop] at h)
  case alloc t =>
    split at h
    case h_2 => cases h
    rename_i d z hdst hz
    split at h
    case isFalse => cases h
    rename_i hn
    cases h
    have hn' : ob (nmOf d 0) = none := by simpa using hn
    refine ⟨d, hdst, local_new hn', fun ob' G' hl => ?_⟩
    have h1 : ob' (nmOf d 0) = none := by rw [(hl _ rfl).1]; exact hn'
    simp only [eop, hop, hdst, hz, h1, Option.isNone_none, if_true]
    rw [mix_set rfl _ _ _ (fun n hn => (hl n hn).1), mix_same _ _ (fun n hn => (hl n hn).2)]
  case box t y =>
    split at h
    case h_2 => cases h
    rename_i d hdst
    split at h
    · rename_i hf
      split at h
      case isFalse => cases h
      rename_i hp
      cases h
      refine ⟨d, hdst, ⟨fun _ _ => rfl, fun _ _ => rfl, fun _ _ => rfl⟩, fun ob' G' hl => ?_⟩
      simp only [eop, hop, hdst, hf, hev ob' G', hp, if_true]
      rw [mix_same _ _ (fun n hn => (hl n hn).1), mix_same _ _ (fun n hn => (hl n hn).2)]
    · rename_i hf
      split at h
      case isFalse => cases h
      rename_i hn
      cases h
      simp only [Bool.and_eq_true] at hn
      have hn' : ob (nmOf d 0) = none := by simpa using hn.1
      refine ⟨d, hdst, local_new hn', fun ob' G' hl => ?_⟩
      have h1 : ob' (nmOf d 0) = none := by rw [(hl _ rfl).1]; exact hn'
      simp only [eop, hop, hdst, hf, hev ob' G', h1, Option.isNone_none, hn.2, Bool.and_self, if_true]
      rw [mix_set rfl _ _ _ (fun n hn => (hl n hn).1), mix_same _ _ (fun n hn => (hl n hn).2)]
      rfl
  case buildSlice t len ps =>
    split at h
    case h_2 => cases h
    rename_i d hdst
    unfold ebuildS at h
    split at h
    case h_2 => cases h
    rename_i sz hT
    split at h
    case isFalse => cases h
    rename_i hcnd
    cases h
    refine ⟨d, hdst, local_bump, fun ob' G' hl => ?_⟩
    simp only [eop, hop, hdst, hev ob' G', ebuildS, hT, hcnd, bump]
    simp only [and_self, if_true]
    rw [mix_same _ _ (fun n hn => (hl n hn).1), mix_set rfl _ _ _ (fun n hn => (hl n hn).2), (hl (nmOf d 0) rfl).2]
  case makeSlice t y z =>
    split at h
    case h_2 => cases h
    rename_i d k1 n k2 m hdst h1 h2
    split at h
    · rename_i hnm
      unfold emake at h
      split at h
      case h_2 => cases h
      rename_i e hu
      split at h
      case h_2 => cases h
      rename_i i hi
      split at h
      case h_2 => cases h
      rename_i zz hz
      split at h
      case isFalse => cases h
      rename_i hcnd
      cases h
      have hn' : ob (nmOf d 0) = none := by simpa using hcnd.2.2
      refine ⟨d, hdst, local_new hn', fun ob' G' hl => ?_⟩
      have h5 : ob' (nmOf d 0) = none := by rw [(hl _ rfl).1]; exact hn'
      simp only [eop, hop, hdst, hev ob' G', h1, h2, hnm, emake, hu, hi, hz, h5, Option.isNone_none, if_true]
      rw [if_pos ⟨hnm ▸ hcnd.1, hnm ▸ hcnd.2.1, trivial⟩]
      rw [mix_set rfl _ _ _ (fun n hn => (hl n hn).1), mix_same _ _ (fun n hn => (hl n hn).2)]
    · rename_i hnm
      split at h
      case isFalse => cases h
      rename_i hn0
      unfold emakeR at h
      split at h
      case h_2 => cases h
      rename_i e hu
      split at h
      case h_2 => cases h
      rename_i i hi
      split at h
      case h_2 => cases h
      rename_i zz hz
      split at h
      case isFalse => cases h
      rename_i hcnd
      cases h
      refine ⟨d, hdst, local_bump, fun ob' G' hl => ?_⟩
      simp only [eop, hop, hdst, hev ob' G', h1, h2]
      rw [if_neg hnm, if_pos hn0]
      simp only [emakeR, hu, hi, hz]
      rw [if_pos hcnd]
      simp only [bump]
      rw [mix_same _ _ (fun n hn => (hl n hn).1), mix_set rfl _ _ _ (fun n hn => (hl n hn).2), (hl (nmOf d 0) rfl).2]
  case slice t y lo hi mx =>
    cases mx with
    | none => cases hc
    | some mxo =>
      split at h
      case h_2 => cases h
      rename_i d l hh m hdst h1 h2 h3
      have hm : ∃ q, m = some q := by
        unfold optI at h3
        simp only at h3
        split at h3
        · cases h3; exact ⟨_, rfl⟩
        · cases h3
      obtain ⟨q, rfl⟩ := hm
      unfold eslice at h
      split at h
      · rename_i sz es tg hy
        split at h
        case isFalse => cases h
        rename_i hcnd
        simp only at h
        split at h
        case isFalse => cases h
        rename_i hq
        cases h
        refine ⟨d, hdst, local_bump, fun ob' G' hl => ?_⟩
        simp only [eop, hop, hdst, hev ob' G', optI_evs (ob := ob') (G := G') (ob' := ob) (G' := G), h1, h2, h3, eslice, hy]
        rw [if_pos hcnd, if_pos hq]
        simp only [bump]
        rw [mix_same _ _ (fun n hn => (hl n hn).1), mix_set rfl _ _ _ (fun n hn => (hl n hn).2), (hl (nmOf d 0) rfl).2]
      · split at h
        · rename_i hcnd; exact absurd hcnd.2.2.2 (by simp)
        · cases h
      · split at h
        · split at h
          · rename_i hcnd; exact absurd hcnd.2.2.2.2 (by simp)
          · cases h
        · cases h
      · split at h
        · split at h
          · rename_i hcnd; exact absurd hcnd.2.2.2 (by simp)
          · cases h
        · cases h
      · split at h
        · split at h
          · rename_i hcnd; exact absurd hcnd.2.2.2.1 (by simp)
          · cases h
        · cases h
      · cases h
  case call c =>
    obtain ⟨callee, args, tys⟩ := c
    cases callee with
    | invoke r m => cases hc
    | builtin b => cases b <;> cases hc
    | value f =>
      have hv : hvy C f = false := by
        simp only [cls] at hc
        split at hc
        · cases hc
        · rename_i h; simpa using h
      simp only at h
      split at h
      case h_2 => cases h
      rename_i d g caps hdst hf
      rw [hv] at h
      have hcall := h
      unfold ecall at h
      split at h
      case h_2 => cases h
      rename_i n0 names ys F hargs hF
      split at h
      case h_2 => cases h
      rename_i rr ou hFy
      split at h
      case isFalse => cases h
      rename_i hcnd
      obtain ⟨c1, c2, c3, c4⟩ := hcnd
      have hn0 : n0 = none := by
        cases n0 with
        | none => rfl
        | some n => exact absurd (c4 rfl).2 (by simp)
      subst hn0
      have hpl : ∀ ob' G', eargs ⟨sl, ob', G'⟩ (args.toList.map (ev ⟨sl, ob, G⟩) ++ caps) = some (none, [], ys) ∧ names = [] := by
        intro ob' G'
        clear h
        generalize args.toList.map (ev ⟨sl, ob, G⟩) ++ caps = xs at hargs ⊢
        unfold eargs at hargs ⊢
        split at hargs
        · split at hargs
          · split at hargs <;> cases hargs
          · cases hargs
        · rename_i hnp
          split at hargs
          · rename_i hh
            cases hargs
            refine ⟨?_, rfl⟩
            first
              | rw [if_pos hh]
              | (split <;> first | (rename_i n k rest; exact absurd rfl (hnp n k rest)) | rw [if_pos hh])
          · cases hargs
      obtain ⟨-, rfl⟩ := hpl ob G
      cases h
      have hG1 : ∀ n, (backSt ⟨sl, ob, G⟩ d none [] rr ou).G n = if n.1 = d + 1 then G n + 1 else G n := by
        intro n; simp [backSt]
      have hobr : (backSt ⟨sl, ob, G⟩ d none [] rr ou).ob = ob ∨ (∃ cs, rr = .ref cs) ∧ ob (nmOf d 0) = none ∧ ∃ q, (backSt ⟨sl, ob, G⟩ d none [] rr ou).ob = setF ob (nmOf d 0) q := by
        by_cases hr : isRef rr = true
        · right
          have := c3 hr
          obtain ⟨cs, rfl⟩ := isRef_iff.1 hr
          exact ⟨⟨cs, rfl⟩, by simpa using this, _, rfl⟩
        · left
          cases rr <;> first | rfl | exact absurd rfl hr
      refine ⟨d, hdst, ⟨fun n hn => ?_, fun n hn => ?_, fun n hn => ?_⟩, fun ob' G' hl => ?_⟩
      · rcases hobr with e | ⟨_, _, q, e⟩
        · rw [e]
        · rw [e]
          have : n ≠ nmOf d 0 := fun e => hn (by rw [e]; rfl)
          simp [setF, this]
      · rcases hobr with e | ⟨_, hnn, q, e⟩
        · rw [e]
        · rw [e]
          have : n ≠ nmOf d 0 := fun e => hn (by rw [e]; exact hnn)
          simp [setF, this]
      · rw [hG1, if_neg hn]
      · simp only [eop, hop, hdst, hev ob' G', hf, hv, ecall, (hpl ob' G').1, hF, hFy]
        have hob' : isRef rr = true → (ob' (nmOf d 0)).isNone = true := fun hr => by rw [(hl _ rfl).1]; exact c3 hr
        rw [if_pos ⟨c1, c2, hob', fun e => by cases e⟩]
        have hgg : (fun n : Nm => if n.1 = d + 1 ∨ n ∈ ([] : List Nm) then G' n + 1 else G' n) = (fun n : Nm => if n.1 = d + 1 ∨ n ∈ ([] : List Nm) then G n + 1 else G' n) := by
          funext n
          by_cases hn : n.1 = d + 1
          · simp [hn, (hl n hn).2]
          · simp [hn]
        have hnL : ∀ (n : Nm) (y : AV), n.1 = d + 1 → nameL (fun n => if n.1 = d + 1 ∨ n ∈ ([] : List Nm) then G' n + 1 else G' n) n y = nameL (fun n => if n.1 = d + 1 ∨ n ∈ ([] : List Nm) then G n + 1 else G n) n y := by
          intro n y hn
          have : G' n = G n := (hl n hn).2
          cases y with
          | sl sz es tg => cases tg <;> simp [nameL, hn, this]
          | _ => rfl
        have hnC : ∀ (i k : Nat) (cs : List AV), nameC (fun n => if n.1 = d + 1 ∨ n ∈ ([] : List Nm) then G' n + 1 else G' n) (d + 1) i k cs = nameC (fun n => if n.1 = d + 1 ∨ n ∈ ([] : List Nm) then G n + 1 else G n) (d + 1) i k cs := by
          intro i k cs
          induction cs generalizing k with
          | nil => rfl
          | cons c r ih => simp only [nameC]; rw [hnL _ _ rfl, ih]
        have hnX : ∀ (k : Nat) (y : AV), nameX (fun n => if n.1 = d + 1 ∨ n ∈ ([] : List Nm) then G' n + 1 else G' n) (d + 1) k y = nameX (fun n => if n.1 = d + 1 ∨ n ∈ ([] : List Nm) then G n + 1 else G n) (d + 1) k y := by
          intro k y
          cases y with
          | agg cs => simp only [nameX]; rw [hnC]
          | fn f cs => rfl
          | dead => exact hnL (d + 1, 0, k) .dead rfl
          | v x => exact hnL (d + 1, 0, k) (.v x) rfl
          | tup xs => exact hnL (d + 1, 0, k) (.tup xs) rfl
          | sl s e g => exact hnL (d + 1, 0, k) (.sl s e g) rfl
          | ptr n q => exact hnL (d + 1, 0, k) (.ptr n q) rfl
          | rptr z q => exact hnL (d + 1, 0, k) (.rptr z q) rfl
          | osl n q l c => exact hnL (d + 1, 0, k) (.osl n q l c) rfl
          | own n q l => exact hnL (d + 1, 0, k) (.own n q l) rfl
          | ref xs => exact hnL (d + 1, 0, k) (.ref xs) rfl
        have hnT : ∀ (k : Nat) (ys : List AV), nameT (fun n => if n.1 = d + 1 ∨ n ∈ ([] : List Nm) then G' n + 1 else G' n) (d + 1) k ys = nameT (fun n => if n.1 = d + 1 ∨ n ∈ ([] : List Nm) then G n + 1 else G n) (d + 1) k ys := by
          intro k ys
          induction ys generalizing k with
          | nil => rfl
          | cons c r ih => simp only [nameT]; rw [hnX, ih]
        have hav : backAV ⟨sl, ob', G'⟩ d [] rr = backAV ⟨sl, ob, G⟩ d [] rr := by
          cases rr with
          | ref cs => rfl
          | tup ys => simp only [backAV, nameR]; rw [hnT]
          | dead => exact hnX 0 .dead
          | v x => exact hnX 0 (.v x)
          | agg xs => exact hnX 0 (.agg xs)
          | fn q xs => exact hnX 0 (.fn q xs)
          | sl s e g => exact hnX 0 (.sl s e g)
          | ptr n q => exact hnX 0 (.ptr n q)
          | rptr z q => exact hnX 0 (.rptr z q)
          | osl n q l c => exact hnX 0 (.osl n q l c)
          | own n q l => exact hnX 0 (.own n q l)
        have hst : backSt ⟨sl, ob', G'⟩ d none [] rr ou = ⟨sl, mix d (backSt ⟨sl, ob, G⟩ d none [] rr ou).ob ob', mix d (backSt ⟨sl, ob, G⟩ d none [] rr ou).G G'⟩ := by
          have e1 : (backSt ⟨sl, ob', G'⟩ d none [] rr ou).G = mix d (backSt ⟨sl, ob, G⟩ d none [] rr ou).G G' := by
            funext n
            simp only [mix, hG1]
            by_cases hn : n.1 = d + 1
            · simp [backSt, hn, (hl n hn).2]
            · simp [backSt, hn]
          have e2 : (backSt ⟨sl, ob', G'⟩ d none [] rr ou).ob = mix d (backSt ⟨sl, ob, G⟩ d none [] rr ou).ob ob' := by
            by_cases hr : isRef rr = true
            · obtain ⟨cs, rfl⟩ := isRef_iff.1 hr
              simp only [backSt]
              rw [mix_set rfl _ _ _ (fun n hn => (hl n hn).1), hnC]
            · have e3 : ∀ s : St, (backSt s d none [] rr ou).ob = s.ob := by
                intro s
                cases rr <;> first | rfl | exact absurd rfl hr
              rw [e3, e3, mix_same _ _ (fun n hn => (hl n hn).1)]
          rw [← e1, ← e2]
          rfl
        rw [hav, hst]
  all_goals cases hc

end
end Caw

