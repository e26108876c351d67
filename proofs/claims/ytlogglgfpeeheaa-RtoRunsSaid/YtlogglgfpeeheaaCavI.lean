import Derived.Test.YtlogglgfpeeheaaCavH
namespace Cav
open Go Go.RowKit

section
variable {P : Program} {Γ : Ctx} {fo : Nat → Prop} {w0 w w' : World} {N : Nat} {ρ : Nat → Nat} {st : St} {a : Act} {ops : Array Oper}

theorem cls_le (o : Op) : cls o = 0 ∨ cls o = 1 ∨ cls o = 2 ∨ cls o = 3 := by cases o <;> simp [cls]
theorem cls_load {o : Op} (h : cls o = 1) : ∃ t y, o = .load t y := by cases o <;> simp [cls] at h ⊢

/-- The two effects, one behind the other, in the other order. -/
theorem swap_core {sl : Nat → AV} {ob obj obi : Obs} {oj oi : Oper} {xj xi : AV} (hgood : ∀ t m k, sl t = .ptr m k → ob m ≠ none) (hd : ∀ t, oj.dst = some t → oi.dst ≠ some t) (hm : memOk oj.op oi.op = true)
    (h1 : eff P Γ ops ⟨sl, ob⟩ oj = some (xj, obj)) (h2 : eff P Γ ops ⟨sl, obj⟩ oi = some (xi, obi)) :
    ∃ obi', eff P Γ ops ⟨sl, ob⟩ oi = some (xi, obi') ∧ eff P Γ ops ⟨sl, obi'⟩ oj = some (xj, obi) := by
  by_cases ci : cls oi.op = 0 ∨ gd ops sl oi = some false
  · obtain ⟨rfl, hall⟩ := calm_of h2 ci
    exact ⟨ob, hall ob, h1⟩
  by_cases cj : cls oj.op = 0 ∨ gd ops sl oj = some false
  · obtain ⟨rfl, hall⟩ := calm_of h1 cj
    exact ⟨obi, h2, hall obi⟩
  obtain ⟨ci0, ci1⟩ := not_or.1 ci
  obtain ⟨cj0, cj1⟩ := not_or.1 cj
  rcases eff_cases h1 with ⟨gj, ej⟩ | ⟨gj, _, _⟩
  case inr => exact absurd gj cj1
  rcases eff_cases h2 with ⟨gi, ei⟩ | ⟨gi, _, _⟩
  case inr => exact absurd gi ci1
  simp only at gj gi
  have c3 : cls oj.op ≠ 3 ∧ cls oi.op ≠ 3 := by
    simp only [memOk, Bool.or_eq_true, Bool.and_eq_true, bne_iff_ne, beq_iff_eq] at hm
    omega
  rcases cls_le oj.op with h | hj | hj | h
  · exact absurd h cj0
  · obtain ⟨tj, yj, hoj⟩ := cls_load hj
    obtain ⟨e1, _, hpres⟩ := eop_load (ob' := ob) hoj ej (fun _ _ _ => rfl)
    subst e1
    rcases cls_le oi.op with h | hi | hi | h
    · exact absurd h ci0
    · obtain ⟨ti, yi, hoi⟩ := cls_load hi
      obtain ⟨e2, _, _⟩ := eop_load (ob' := obj) hoi ei (fun _ _ _ => rfl)
      subst e2
      exact ⟨obi, h2, h1⟩
    · obtain ⟨d, c, hdst, hn, rfl, hall⟩ := eop_new hi ei
      refine ⟨_, h2, eff_of_true (st := ⟨sl, _⟩) gj ?_⟩
      exact (eop_load (ob' := setF obj d (some c)) hoj ej (fun m k e => by
        have hmd : m ≠ d := fun e2 => hpres m k e (by rw [e2]; exact hn)
        simp only [setF]
        rw [if_neg hmd])).2.1
    · exact absurd h c3.2
  · obtain ⟨d, c, hdst, hn, rfl, hall⟩ := eop_new hj ej
    rcases cls_le oi.op with h | hi | hi | h
    · exact absurd h ci0
    · obtain ⟨ti, yi, hoi⟩ := cls_load hi
      have key := eop_load (ob' := ob) hoi ei (fun m k e => by
        have hp : ob m ≠ none := by
          cases yi with
          | tmp t => exact hgood t m k e
          | const v => cases e
          | global g => cases e
          | func f => cases e
        have hmd : m ≠ d := fun e2 => hp (by rw [e2]; exact hn)
        simp only [setF]
        rw [if_neg hmd])
      obtain ⟨rfl, e2, _⟩ := key
      exact ⟨ob, eff_of_true (st := ⟨sl, ob⟩) gi e2, h1⟩
    · obtain ⟨d2, c2, hdst2, hn2, rfl, hall2⟩ := eop_new hi ei
      have hne : d2 ≠ d := fun e => hd d hdst (by rw [hdst2, e])
      have hn2' : ob d2 = none := by simpa [setF, hne] using hn2
      refine ⟨setF ob d2 (some c2), eff_of_true (st := ⟨sl, ob⟩) gi (hall2 ob hn2'), eff_of_true (st := ⟨sl, _⟩) gj ?_⟩
      rw [hall (setF ob d2 (some c2)) (by simp [setF, Ne.symm hne, hn]), setF_comm hne]
    · exact absurd h c3.2
  · exact absurd h c3.1

theorem swap {oj oi : Oper} {s1 s2 : St} (hgood : Good N st) (hind : indep ops oj oi = true) (h1 : estep P Γ N ops st oj = some s1) (h2 : estep P Γ N ops s1 oi = some s2) :
    ∃ s1', estep P Γ N ops st oi = some s1' ∧ estep P Γ N ops s1' oj = some s2 := by
  simp only [indep, Bool.and_eq_true] at hind
  obtain ⟨hap, hm⟩ := hind
  obtain ⟨a1, a2, a3⟩ := Oper.apart_spec hap
  unfold estep at h1 h2
  split at h1
  case isFalse => cases h1
  rename_i dj
  split at h2
  case isFalse => cases h2
  rename_i di
  split at h1
  case h_2 => cases h1
  rename_i rj ej
  obtain ⟨xj, obj⟩ := rj
  cases h1
  split at h2
  case h_2 => cases h2
  rename_i ri ei
  obtain ⟨xi, obi⟩ := ri
  cases h2
  simp only at ej ei ⊢
  have ei' : eff P Γ ops ⟨st.sl, obj⟩ oi = some (xi, obi) := by
    rw [← ei]
    exact eff_congr (fun t ht => (sl_put (fun d hd e => a1 d hd (e ▸ ht))).symm) rfl
  obtain ⟨obi', f1, f2⟩ := swap_core (sl := st.sl) (ob := st.ob) (fun t m k e => hgood.ptr e) a2 hm ej ei'
  refine ⟨putSt st oi.dst xi obi', by unfold estep; rw [if_pos di, f1], ?_⟩
  have f3 : eff P Γ ops (putSt st oi.dst xi obi') oj = some (xj, obi) := by
    rw [← f2]
    exact eff_congr (fun t ht => sl_put (fun d hd e => a3 d hd (e ▸ ht))) rfl
  unfold estep
  rw [if_pos dj, f3]
  simp only
  rw [putSt_comm (fun t ht => fun e => a2 t e ht) xi xj obi' obi obj]

/-- An operation that waits for none of those ahead of it may be taken first. -/
theorem pull (hΓ : GOk P Γ) {i : Nat} {oi : Oper} (hi : ops[i]? = some oi) {post : List Nat} {sf : St} : ∀ (pre : List Nat) (st : St), Good N st →
    (∀ j ∈ pre, ∀ oj, ops[j]? = some oj → indep ops oj oi = true) → erun P Γ N ops (pre ++ i :: post) st = some sf →
    ∃ s1, estep P Γ N ops st oi = some s1 ∧ erun P Γ N ops (pre ++ post) s1 = some sf
  | [], st, _, _, h => by
    simp only [List.nil_append, erun, hi] at h
    cases he : estep P Γ N ops st oi with
    | none => rw [he] at h; cases h
    | some s1 => rw [he] at h; exact ⟨s1, rfl, h⟩
  | j :: pre, st, hg, hind, h => by
    simp only [List.cons_append, erun] at h ⊢
    cases hj : ops[j]? with
    | none =>
      rw [hj] at h
      exact pull hΓ hi pre st hg (fun k hk => hind k (List.mem_cons_of_mem _ hk)) h
    | some oj =>
      rw [hj] at h
      simp only at h ⊢
      cases he : estep P Γ N ops st oj with
      | none => rw [he] at h; cases h
      | some sj =>
        rw [he] at h
        obtain ⟨s1, h1, h2⟩ := pull hΓ hi pre sj (hg.step hΓ he) (fun k hk => hind k (List.mem_cons_of_mem _ hk)) h
        obtain ⟨s1', h3, h4⟩ := swap hg (hind j (List.mem_cons_self ..) oj hj) he h1
        exact ⟨s1', h3, by rw [h4]; exact h2⟩

/-- Which operations one waits for, at last: a bit each. -/
def waitF (acc : List Nat) (s : Nat) (e : Edge) : Nat := if Region.binds .any e then (s ||| 2 ^ e.on) ||| acc.getD e.on 0 else s
def waitOf (ops : Array Oper) (acc : List Nat) (i : Nat) : Nat :=
  match ops[i]? with
  | some o => o.after.toList.foldl (waitF acc) 0
  | none => 0
def masks (ops : Array Oper) : Nat → List Nat
  | 0 => []
  | n + 1 => masks ops n ++ [waitOf ops (masks ops n) n]

theorem masks_length : ∀ n, (masks ops n).length = n
  | 0 => rfl
  | n + 1 => by simp [masks, masks_length n]
theorem masks_get : ∀ (n k : Nat), k < n → (masks ops n).getD k 0 = waitOf ops (masks ops k) k
  | n + 1, k, h => by
    simp only [masks, List.getD_eq_getElem?_getD]
    by_cases hk : k < n
    · rw [List.getElem?_append_left (by rw [masks_length]; exact hk), ← List.getD_eq_getElem?_getD, masks_get n k hk]
    · obtain rfl : k = n := by omega
      rw [List.getElem?_append_right (by rw [masks_length]; exact Nat.le_refl _), masks_length]
      simp

theorem foldl_wait (acc : List Nat) (j : Nat) : ∀ (l : List Edge) (s : Nat), (l.foldl (waitF acc) s).testBit j = true →
    s.testBit j = true ∨ ∃ e ∈ l, Region.binds .any e = true ∧ (e.on = j ∨ (acc.getD e.on 0).testBit j = true)
  | [], s, h => .inl h
  | e :: l, s, h => by
    rcases foldl_wait acc j l _ h with h1 | ⟨e', he, hb, hh⟩
    · unfold waitF at h1
      split at h1
      · rename_i hb
        rw [Nat.testBit_or, Nat.testBit_or, Bool.or_eq_true, Bool.or_eq_true] at h1
        rcases h1 with (h1 | h1) | h1
        · exact .inl h1
        · refine .inr ⟨e, List.mem_cons_self .., hb, .inl ?_⟩
          rw [Nat.testBit_two_pow] at h1
          simpa using h1
        · exact .inr ⟨e, List.mem_cons_self .., hb, .inr h1⟩
      · exact .inl h1
    · exact .inr ⟨e', List.mem_cons_of_mem _ he, hb, hh⟩

/-- What has come up has all come up that it waits for. -/
def Down (ops : Array Oper) (listed : Array Bool) : Prop := ∀ k o, ops[k]? = some o → listed.getD k false = true → ∀ e ∈ o.after, Region.binds .any e = true → listed.getD e.on false = true

theorem wait_listed {listed : Array Bool} (hdown : Down ops listed) (hback : ∀ i o, ops[i]? = some o → ∀ e ∈ o.after, Region.binds .any e = true → e.on < i) {j : Nat} :
    ∀ (i : Nat) (o : Oper), ops[i]? = some o → (∀ e ∈ o.after, Region.binds .any e = true → listed.getD e.on false = true) → (waitOf ops (masks ops i) i).testBit j = true → listed.getD j false = true := by
  intro i
  induction i using Nat.strongRecOn with
  | _ i ih =>
    intro o ho hd hbit
    unfold waitOf at hbit
    rw [ho] at hbit
    rcases foldl_wait _ j _ _ hbit with h | ⟨e, he, hb, h⟩
    · simp at h
    · have hem : e ∈ o.after := by simpa using he
      have hlt := hback i o ho e hem hb
      have hl := hd e hem hb
      rcases h with rfl | h
      · exact hl
      · rw [masks_get i e.on hlt] at h
        cases hoe : ops[e.on]? with
        | none => unfold waitOf at h; rw [hoe] at h; simp at h
        | some oe => exact ih e.on hlt oe hoe (hdown e.on oe hoe hl) h

/-- The region's own order is none that matters. -/
def regOk (ops : Array Oper) : Bool :=
  let ms := masks ops ops.size
  (List.range ops.size).all fun i => match ops[i]? with
    | some o => o.after.toList.all (fun e => !Region.binds .any e || decide (e.on < i)) &&
        (List.range i).all (fun j => match ops[j]? with
          | some oj => (ms.getD i 0).testBit j || indep ops oj o
          | none => true)
    | none => true

theorem range_split {n i : Nat} (h : i < n) : List.range n = List.range i ++ i :: (List.range n).drop (i + 1) := by
  have h1 : (List.range n).take i = List.range i := by rw [List.take_range]; congr 1; omega
  have h2 : (List.range n).drop i = i :: (List.range n).drop (i + 1) := by
    rw [List.drop_eq_getElem_cons (by simpa using h)]
    simp
  conv => lhs; rw [← List.take_append_drop i (List.range n), h1, h2]

theorem mem_drop_range {n i j : Nat} (h : j ∈ (List.range n).drop i) : i ≤ j := by
  obtain ⟨k, hk, rfl⟩ := List.getElem_of_mem h
  simp only [List.getElem_drop, List.getElem_range]
  omega

theorem filter_set {n i : Nat} (h : i < n) {listed : Array Bool} (hs : listed.size = n) (hu : listed.getD i true = false) :
    (List.range n).filter (fun j => !listed.getD j true) = (List.range i).filter (fun j => !listed.getD j true) ++ i :: ((List.range n).drop (i + 1)).filter (fun j => !listed.getD j true) ∧
    (List.range n).filter (fun j => !(listed.setIfInBounds i true).getD j true) = (List.range i).filter (fun j => !listed.getD j true) ++ ((List.range n).drop (i + 1)).filter (fun j => !listed.getD j true) := by
  have hget : ∀ j, j ≠ i → (listed.setIfInBounds i true).getD j true = listed.getD j true := by
    intro j hj
    simp only [Array.getD_eq_getD_getElem?]
    rw [Array.getElem?_setIfInBounds_ne (Ne.symm hj)]
  have hgi : (listed.setIfInBounds i true).getD i true = true := by
    simp only [Array.getD_eq_getD_getElem?]
    rw [Array.getElem?_setIfInBounds_self_of_lt (by omega)]
    rfl
  constructor
  · conv => lhs; rw [range_split h]
    rw [List.filter_append, List.filter_cons, if_pos (by simp [hu])]
  · conv => lhs; rw [range_split h]
    rw [List.filter_append, List.filter_cons, if_neg (by simp [hgi])]
    congr 1
    · exact List.filter_congr (fun j hj => by rw [hget j (by have := List.mem_range.1 hj; omega)])
    · exact List.filter_congr (fun j hj => by rw [hget j (by have := mem_drop_range hj; omega)])

theorem any_sound (hΓ : GOk P Γ) (hreg : regOk ops = true) {sf : St} {Q : Exit → Act → World → Prop} (hQ : ∀ a w, Rel fo w0 N sf a w → Q .normal a w) :
    ∀ (fuel : Nat) (listed : Array Bool) (st : St) (a : Act) (w : World), listed.size = ops.size → Down ops listed →
    ((List.range ops.size).filter (fun i => !listed.getD i true)).length = fuel → Rel fo w0 N st a w →
    erun P Γ N ops ((List.range ops.size).filter (fun i => !listed.getD i true)) st = some sf → wpAny P .any ops Q fuel listed a w := by
  have hback : ∀ i o, ops[i]? = some o → ∀ e ∈ o.after, Region.binds .any e = true → e.on < i := by
    intro i o hi e he hb
    have hlt : i < ops.size := (Array.getElem?_eq_some_iff.1 hi).1
    have h1 := List.all_eq_true.1 hreg i (List.mem_range.2 hlt)
    rw [hi] at h1
    simp only [Bool.and_eq_true] at h1
    have := List.all_eq_true.1 h1.1 e (by simpa using he)
    rw [hb] at this
    simpa using this
  have hpair : ∀ i o, ops[i]? = some o → ∀ j, j < i → ∀ oj, ops[j]? = some oj → (waitOf ops (masks ops i) i).testBit j = true ∨ indep ops oj o = true := by
    intro i o hi j hj oj hoj
    have hlt : i < ops.size := (Array.getElem?_eq_some_iff.1 hi).1
    have h1 := List.all_eq_true.1 hreg i (List.mem_range.2 hlt)
    rw [hi] at h1
    simp only [Bool.and_eq_true] at h1
    have := List.all_eq_true.1 h1.2 j (List.mem_range.2 hj)
    rw [hoj] at this
    simp only [Bool.or_eq_true] at this
    rw [masks_get _ _ hlt] at this
    exact this
  intro fuel
  induction fuel with
  | zero =>
    intro listed st a w hs _ hf hr he
    have hnil := List.length_eq_zero_iff.1 hf
    refine ⟨?_, ?_⟩
    · unfold Region.ready
      rw [List.filter_eq_nil_iff] at hnil ⊢
      intro i hi hh
      simp only [Bool.and_eq_true] at hh
      exact hnil i hi hh.1
    · rw [hnil] at he
      simp only [erun, Option.some.injEq] at he
      subst he
      exact hQ a w hr
  | succ fuel ih =>
    intro listed st a w hs hdown hf hr he
    refine ⟨fun hnone => ?_, fun i hi => ?_⟩
    · exfalso
      -- the first that is left waits for none
      cases hrem : (List.range ops.size).filter (fun i => !listed.getD i true) with
      | nil => rw [hrem] at hf; simp at hf
      | cons i r =>
        have hmem : i ∈ (List.range ops.size).filter (fun i => !listed.getD i true) := by rw [hrem]; exact List.mem_cons_self ..
        have hi0 := List.mem_filter.1 hmem
        have hlt : i < ops.size := List.mem_range.1 hi0.1
        have hui : listed.getD i true = false := by simpa using hi0.2
        have hfirst : ∀ j, j < i → listed.getD j true = true := by
          intro j hj
          cases hc : listed.getD j true with
          | true => rfl
          | false =>
            exfalso
            have hsplit := (filter_set hlt hs hui).1
            rw [hrem] at hsplit
            have hjm : j ∈ (List.range i).filter (fun j => !listed.getD j true) := List.mem_filter.2 ⟨List.mem_range.2 hj, by rw [hc]; rfl⟩
            cases hq : (List.range i).filter (fun j => !listed.getD j true) with
            | nil => rw [hq] at hjm; cases hjm
            | cons x y =>
              rw [hq] at hsplit
              simp only [List.cons_append, List.cons.injEq] at hsplit
              have hx : x ∈ (List.range i).filter (fun j => !listed.getD j true) := by rw [hq]; exact List.mem_cons_self ..
              have := List.mem_range.1 (List.mem_filter.1 hx).1
              omega
        have hready : i ∈ Region.ready .any ops listed := by
          unfold Region.ready
          refine List.mem_filter.2 ⟨hi0.1, ?_⟩
          have hoi : ops[i]? = some ops[i] := Array.getElem?_eq_getElem hlt
          rw [hui, hoi]
          simp only [Bool.not_false, Option.map_some, Option.getD_some, Bool.true_and]
          rw [Array.all_eq_true_iff_forall_mem]
          intro e hem
          by_cases hb : Region.binds .any e = true
          · have := hback i _ hoi e hem hb
            have h2 := hfirst e.on this
            rw [hb]
            simp only [Bool.not_true, Bool.false_or]
            rw [Array.getD_eq_getD_getElem?, Array.getElem?_eq_getElem (by omega)] at h2 ⊢
            exact h2
          · simp [hb]
        rw [hnone] at hready
        cases hready
    · unfold Region.ready at hi
      obtain ⟨hir, hic⟩ := List.mem_filter.1 hi
      have hlt : i < ops.size := List.mem_range.1 hir
      simp only [Bool.and_eq_true] at hic
      obtain ⟨hun, hdeps⟩ := hic
      have hui : listed.getD i true = false := by simpa using hun
      have hoi : ops[i]? = some ops[i] := Array.getElem?_eq_getElem hlt
      rw [hoi] at hdeps
      simp only [Option.map_some, Option.getD_some] at hdeps
      rw [Array.all_eq_true_iff_forall_mem] at hdeps
      obtain ⟨f1, f2⟩ := filter_set hlt hs hui
      rw [f1] at he hf
      have hgood : Good N st := ⟨fo, w0, a, w, hr⟩
      obtain ⟨s1, e1, e2⟩ := pull hΓ hoi _ st hgood (fun j hj oj hoj => by
        obtain ⟨hjr, hju⟩ := List.mem_filter.1 hj
        rcases hpair i _ hoi j (List.mem_range.1 hjr) oj hoj with hbit | hh
        · exfalso
          have := wait_listed hdown hback i _ hoi (fun e hem hb => by
            have := hdeps e hem
            rw [hb] at this
            simpa using this) hbit
          have hjlt : j < ops.size := by have := List.mem_range.1 hjr; omega
          rw [Array.getD_eq_getD_getElem?, Array.getElem?_eq_getElem (by omega)] at this hju
          simp only [Option.getD_some] at this hju
          rw [this] at hju
          cases hju
        · exact hh) he
      have hdown' : Down ops (listed.setIfInBounds i true) := by
        have hmono : ∀ k, listed.getD k false = true → (listed.setIfInBounds i true).getD k false = true := by
          intro k hk
          rw [Array.getD_eq_getD_getElem?] at hk ⊢
          by_cases hki : i = k
          · subst hki
            rw [Array.getElem?_setIfInBounds_self_of_lt (by omega)]
            rfl
          · rw [Array.getElem?_setIfInBounds_ne hki]; exact hk
        intro k o hk hl e he hb
        by_cases hki : k = i
        · subst hki
          rw [hoi] at hk
          cases hk
          refine hmono _ ?_
          have := hdeps e he
          rw [hb] at this
          simpa using this
        · refine hmono _ (hdown k o hk ?_ e he hb)
          rw [Array.getD_eq_getD_getElem?] at hl ⊢
          rw [Array.getElem?_setIfInBounds_ne (fun e => hki e.symm)] at hl
          exact hl
      have hstep := estep_sound hΓ hr e1 Q
      have hnext : ∀ a' w', Rel fo w0 N s1 a' w' → wpAny P .any ops Q fuel (listed.setIfInBounds i true) a' w' := by
        intro a' w' hr'
        refine ih _ s1 a' w' (by simpa using hs) hdown' ?_ hr' (by rw [f2]; exact e2)
        rw [f2]
        simp only [List.length_append, List.length_cons] at hf ⊢
        omega
      unfold wpOp
      rw [hoi]
      simp only
      unfold wpStep at hstep
      split
      · rename_i hw
        rw [if_pos hw] at hstep
        exact .inl (Oper.wp_mono hnext hstep)
      · rename_i hw
        rw [if_neg hw] at hstep
        exact hnext _ _ hstep

end
end Cav
