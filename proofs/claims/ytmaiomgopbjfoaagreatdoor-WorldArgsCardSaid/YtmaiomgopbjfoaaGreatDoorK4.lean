import Derived.Test.YtmaiomgopbjfoaaGreatDoorK3
set_option linter.all false
namespace Mir
open Go

/-! ## Code is sound: what is not drawn -/
structure Ext (ρ : Ren) (W : Tw) (ρ2 : Ren) (W2 : Tw) : Prop where
  le : ρ.le ρ2
  dom : ∀ k, ρ2.dom k → ρ.dom k ∨ (W.nx ≤ k ∧ k < W2.nx)
  nx : W.nx ≤ W2.nx
  lim : W2.lim = W.lim
theorem Ext.refl (ρ : Ren) (W : Tw) : Ext ρ W ρ W := ⟨.rfl', fun _ h => .inl h, Nat.le_refl _, rfl⟩
theorem Ext.trans {ρ ρ2 ρ3 : Ren} {W W2 W3 : Tw} (h : Ext ρ W ρ2 W2) (k : Ext ρ2 W2 ρ3 W3) : Ext ρ W ρ3 W3 := by
  refine ⟨h.le.trans k.le, fun n hn => ?_, Nat.le_trans h.nx k.nx, k.lim.trans h.lim⟩
  have := h.nx; have := k.nx
  rcases k.dom n hn with h1 | ⟨h1, h2⟩
  · rcases h.dom n h1 with h3 | ⟨h3, h4⟩
    · exact .inl h3
    · exact .inr ⟨h3, by omega⟩
  · exact .inr ⟨by omega, h2⟩

/-- The fence: all functions; within a round, or not. -/
def FF (fr : Option Nat) : Fence := { Fence.wide with round := fr }
/-- The blocks that are to be shut. -/
structure MkR (ρ : Ren) (ms : List Nat) (ds : List Deferred) : Prop where
  eq : ds = ms.map fun D => { target := .collected (ρ.b D), args := #[] }
  dom : ∀ D ∈ ms, ρ.dom D
theorem MkR.le {ρ ρ' : Ren} (hl : ρ.le ρ') {ms : List Nat} {ds : List Deferred} (h : MkR ρ ms ds) : MkR ρ' ms ds :=
  ⟨by rw [h.eq]; exact List.map_congr_left fun D hD => by rw [hl.b _ (h.dom D hD)], fun D hD => hl.dom _ (h.dom D hD)⟩
/-- The evaluator's state and the world's. -/
structure ER (w0 : Bs) (N : Nat) (ρ : Ren) (s : St) (W : Tw) (a : Act) (w : World) : Prop where
  W : WR w0 ρ W w
  sl : SR ρ (getS s.1) a
  df : MkR ρ s.2 a.defers
  N : a.tmps.size = N
def CallS (P : Program) (w0 : Bs) (call : CallT) : Prop := ∀ ρ W w f args args' r W', WR w0 ρ W w → AR ρ args args' → call f args W = some (r, W') →
  Calls P f args' w fun e w' => ∃ ρ2 y, e = .returned y ∧ Ext ρ W ρ2 W' ∧ WR w0 ρ2 W' w' ∧ VR ρ2 r y
def RndS (P : Program) (w0 : Bs) (rnd : RndT) : Prop := ∀ ρ W w l fn ts ts' as bd r W' n, WR w0 ρ W w → ρ.dom l → AR ρ ts ts' → codeOk as = true → codeOk bd = true → rnd l ts as bd W = some (r, W') →
  RoundIn Fence.wide n P (ρ.b l) fn ts' as bd w fun e w' => ∃ ρ2 y, e = .returned y ∧ Ext ρ W ρ2 W' ∧ WR w0 ρ2 W' w' ∧ VR ρ2 r y
def exm : Ex → Exit → Prop
  | .normal, .normal => True
  | .exit i, .exit j => i = j
  | .ret, .ret => True
  | _, _ => False

section
variable {P : Program} {sy : SyT} {w0 : Bs} {N : Nat} {ρ : Ren} {call : CallT} {rnd : RndT} {fr : Option Nat} {rm : Nat}
theorem SR.le {ρ' : Ren} (hl : ρ.le ρ') {f : Nat → Value} {a : Act} (h : SR ρ f a) : SR ρ' f a := ⟨fun t => (h.at' t).le hl⟩

theorem putS_some {N : Nat} {d : Option Nat} {v : Value} {sl sl' : Tr Value} (h : putS N d v sl = some sl') : (∀ t, d = some t → t < N) ∧ ∀ i, getS sl' i = if d = some i then v else getS sl i := by
  cases d with
  | none => cases h; exact ⟨fun _ h => (by cases h), fun i => by simp⟩
  | some t =>
    simp only [putS] at h
    split at h
    · rename_i hc
      simp only [Bool.and_eq_true, Nat.blt_eq] at hc
      rw [fT_eq] at h
      cases h
      refine ⟨fun _ h => (by cases h; exact hc.1), fun i => ?_⟩
      simp only [getS]
      rw [Tr.get_put _ 30 _ _ (by omega)]
      by_cases he : i = t
      · subst he; simp
      · rw [if_neg he, if_neg (by simpa using Ne.symm he)]
    · cases h
theorem SR.put {f f' : Nat → Value} {a : Act} (h : SR ρ f a) {d : Option Nat} {v y : Value} (hv : VR ρ v y) (hd : ∀ t, d = some t → t < a.tmps.size) (hf : ∀ i, f' i = if d = some i then v else f i) : SR ρ f' (a.put d y) := by
  refine ⟨fun i => ?_⟩
  rw [hf]
  cases d with
  | none => rw [if_neg (by simp)]; exact h.at' i
  | some t =>
    have ht := hd t rfl
    simp only [Act.put]
    rw [Array.getD_eq_getD_getElem?, Array.getElem?_setIfInBounds]
    by_cases he : t = i
    · subst he
      rw [if_pos rfl, if_pos rfl, if_pos ht]
      exact hv
    · rw [if_neg (by simpa using he), if_neg he, ← Array.getD_eq_getD_getElem?]
      exact h.at' i
theorem ER.put {sl sl' : Tr Value} {ms : List Nat} {W : Tw} {a : Act} {w : World} (h : ER w0 N ρ (sl, ms) W a w) {d : Option Nat} {v y : Value} (hv : VR ρ v y) (hp : putS N d v sl = some sl') : ER w0 N ρ (sl', ms) W (a.put d y) w := by
  obtain ⟨h1, h2⟩ := putS_some hp
  refine ⟨h.W, h.sl.put hv (fun t ht => by rw [h.N]; exact h1 t ht) h2, ?_, ?_⟩
  · cases d <;> exact h.df
  · cases d with
    | none => exact h.N
    | some t => simp only [Act.put, Array.size_setIfInBounds]; exact h.N

theorem want_sound {f : Nat → Value} {a : Act} {ops : Array Oper} {o : Oper} {b : Bool} (h : ∀ t ∈ o.looksAt ops, VR ρ (f t) (a.tmps.getD t undef)) (hw : wantT ops f o = some b) : Region.wanted o (yielded ops a.tmps) = b := by
  unfold wantT at hw
  unfold Region.wanted
  split at hw
  · rename_i hg
    cases hw
    rw [hg]
  · rename_i j c hg
    rw [hg]
    split at hw
    · rename_i d hd
      split at hw
      · rename_i v hv
        cases hw
        have := h d (by simp [Oper.looksAt, hg, hd])
        rw [hv] at this
        have e : a.tmps.getD d undef = .bool v := by
          generalize a.tmps.getD d undef = z at this
          cases this; rfl
        have e2 : a.tmps[d]? = some (.bool v) := by
          rw [Array.getD_eq_getD_getElem?] at e
          cases hq : a.tmps[d]? with
          | none => rw [hq] at e; cases e
          | some z => rw [hq] at e; simp only [Option.getD_some] at e; rw [e]
        simp only [yielded, hd, Option.bind_some, e2]
        cases v <;> cases c <;> rfl
      · rename_i xs hv
        cases hw
        have := h d (by simp [Oper.looksAt, hg, hd])
        rw [hv] at this
        have e : ∃ ys, a.tmps.getD d undef = .tuple ys := by
          generalize a.tmps.getD d undef = z at this
          cases this; exact ⟨_, rfl⟩
        obtain ⟨ys, e⟩ := e
        have e2 : a.tmps[d]? = none ∨ a.tmps[d]? = some (.tuple ys) := by
          rw [Array.getD_eq_getD_getElem?] at e
          cases hq : a.tmps[d]? with
          | none => exact .inl rfl
          | some z => rw [hq] at e; simp only [Option.getD_some] at e; exact .inr (by rw [e])
        rcases e2 with e2 | e2 <;> simp only [yielded, hd, Option.bind_some, Option.bind_none, e2] <;> rfl
      · cases hw
    · cases hw

theorem VR_undef : VR ρ undef undef := plain_VR ρ 2 undef (by decide)

/-- One operation of a region, guard and all: what it yields is put into its slot. -/
theorem opV_sound (hz : SOk P w0 sy) (hzs : ZSz P) (hc : CallS P w0 call) (hr : RndS P w0 rnd) {ops : Array Oper} {o : Oper} {f : Nat → Value} {W W' : Tw} {v : Value} {a : Act} {w : World} (hW : WR w0 ρ W w) (hs : ∀ t ∈ o.looksAt ops, VR ρ (f t) (a.tmps.getD t undef)) (he : opV (opT P sy) call rnd ops o f W = some (v, W')) (Q : Exit → Act → World → Prop) :
    if Region.wanted o (yielded ops a.tmps) then o.wpIn (FF fr) rm P a w (fun a' w' => ∃ ρ2 y, Ext ρ W ρ2 W' ∧ WR w0 ρ2 W' w' ∧ VR ρ2 v y ∧ a' = a.put o.dst y) Q else v = undef ∧ W' = W := by
  unfold opV at he
  split at he
  · rename_i hw
    rw [if_pos (want_sound hs hw)]
    obtain ⟨n, W1, ho, hf⟩ := bind_some he
    obtain ⟨ρ2, m, w', e1, e2, e3, e4, e5, e6, e7⟩ := op_sound hz hzs hW (fun t ht => hs t (List.mem_append_left _ (List.mem_filterMap.2 ⟨.tmp t, by simpa using ht, rfl⟩))) ho
    have ex : Ext ρ W ρ2 W1 := ⟨e1, e2, e6, e7⟩
    have hnd : ∀ c, o.op ≠ .defer c := by
      intro c hc0
      have e : execOp a.eval o = (do pure (.defer (← resolve a.eval c o.type)) : Sem Next) := by
        unfold execOp; rw [hc0]
      rw [e] at e4
      have e4' : (Sem.bind _ _).run P w = _ := e4
      rw [run_bind] at e4'
      split at e4'
      · simp only [Pure.pure, Sem.run, Result.ok.injEq] at e4'
        rw [← e4'.1] at e5
        cases e5
      · cases e4'
    unfold Oper.wpIn
    refine ⟨fun _ _ => trivial, ?_⟩
    rw [Oper.semAt_eq _ _ _ hnd, e4]
    cases e5 with
    | value hv =>
      cases hf
      exact ⟨ρ2, _, ex, e3, hv, rfl⟩
    | skip =>
      cases hf
      exact ⟨ρ2, _, ex, e3, VR_undef, rfl⟩
    | enter g hA =>
      refine ⟨fun h => (by cases h), ?_⟩
      have h0 := (callsIn_wide (n := rm - 1)).2 (hc ρ2 W1 w' g _ _ v W' e3 hA hf)
      have h1 : CallsIn (FF fr) (rm - 1) P g _ w' _ := h0
      refine CallsIn.mono h1 ?_
      rintro e w2 ⟨ρ3, y, rfl, g1, g2, g3⟩
      exact ⟨ρ3, y, ex.trans g1, g2, g3, rfl⟩
    | round l f1 g hl hA ha hb =>
      refine ⟨fun h => (by cases h), ?_⟩
      have h0 := hr ρ2 W1 w' l g _ _ _ _ v W' (rm - 1) e3 hl hA ha hb hf
      have h1 : RoundIn (FF fr) (rm - 1) P (ρ2.b l) g _ _ _ w' _ := h0
      refine RoundIn.mono h1 ?_
      rintro e w2 ⟨ρ3, y, rfl, g1, g2, g3⟩
      exact ⟨ρ3, y, ex.trans g1, g2, g3, rfl⟩
  · rename_i hw
    rw [if_neg (by rw [want_sound hs hw]; exact Bool.false_ne_true)]
    cases he
    exact ⟨rfl, rfl⟩
  · cases he

theorem evL_sound (hz : SOk P w0 sy) (hzs : ZSz P) (hc : CallS P w0 call) (hrn : RndS P w0 rnd) {ops : Array Oper} {slf : Tr Value} {ms : List Nat} {Wf : Tw} {Q : Exit → Act → World → Prop} : ∀ (l : List Oper) (k : Nat) (ρ : Ren) (sl : Tr Value) (W : Tw) (a : Act) (w : World),
    (∀ a' w' ρ2, Ext ρ W ρ2 Wf → ER w0 N ρ2 (slf, ms) Wf a' w' → Q .normal a' w') → (∀ i, i < l.length → ops[k + i]? = l[i]?) → ER w0 N ρ (sl, ms) W a w → evL (opT P sy) call rnd N ops l sl W = some (slf, Wf) → wpOpsIn (FF fr) rm P ops Q (List.range' k l.length) a w
  | [], k, ρ, sl, W, a, w, hQ, _, hr, he => by
    simp only [evL, Option.some.injEq, Prod.mk.injEq] at he
    obtain ⟨rfl, rfl⟩ := he
    exact hQ a w ρ (.refl _ _) hr
  | o :: r, k, ρ, sl, W, a, w, hQ, hi, hr, he => by
    have h0 : ops[k]? = some o := hi 0 (Nat.zero_lt_succ _)
    simp only [evL] at he
    simp only [List.length_cons, List.range'_succ, wpOpsIn, h0]
    have hn : ∀ i, i < r.length → ops[k + 1 + i]? = r[i]? := fun i h => by have := hi (i + 1) (Nat.succ_lt_succ h); rw [show k + 1 + i = k + (i + 1) by omega]; exact this
    obtain ⟨v, W1, h1, h2⟩ := bind_some he
    simp only [forV_eq] at h2
    cases hp : putS N o.dst v sl with
    | none => rw [hp] at h2; cases h2
    | some sl1 =>
      rw [hp] at h2
      have hstep := opV_sound (fr := fr) (rm := rm) hz hzs hc hrn hr.W (fun t _ => hr.sl.at' t) h1 Q
      split
      · rename_i hw
        rw [if_pos hw] at hstep
        refine Oper.wpIn_mono (fun a' w' hr' => ?_) hstep
        obtain ⟨ρ2, y, x1, x2, x3, rfl⟩ := hr'
        have hE : ER w0 N ρ2 (sl, ms) W1 a w' := ⟨x2, hr.sl.le x1.le, hr.df.le x1.le, hr.N⟩
        exact evL_sound hz hzs hc hrn r (k + 1) ρ2 sl1 W1 _ w' (fun a2 w2 ρ3 y1 y2 => hQ a2 w2 ρ3 (x1.trans y1) y2) hn (hE.put x3 hp) h2
      · rename_i hw
        rw [if_neg hw] at hstep
        obtain ⟨rfl, rfl⟩ := hstep
        exact ⟨fun _ _ => trivial, evL_sound hz hzs hc hrn r (k + 1) ρ sl1 W1 _ w hQ hn (hr.put VR_undef hp) h2⟩
end
end Mir

namespace Mir
open Go

/-! ## Drawn regions -/
section
/-! ### The last writer -/
variable {K : Type} {A : Type} {val : Nat → K → A} {D : Nat → K → Prop}
open Classical in
noncomputable def cont (val : Nat → K → A) (D : Nat → K → Prop) (S : Nat → Prop) : Nat → K → A
  | 0, x => val 0 x
  | m + 1, x => if S m ∧ D m x then val (m + 1) x else cont val D S m x
theorem cont_congr {S S' : Nat → Prop} {x : K} : ∀ {n : Nat}, (∀ j, j < n → ((S j ∧ D j x) ↔ (S' j ∧ D j x))) → cont val D S n x = cont val D S' n x
  | 0, _ => rfl
  | n + 1, h => by
    unfold cont
    have ih := cont_congr (n := n) fun j hj => h j (by omega)
    have h0 := h n (Nat.lt_succ_self n)
    by_cases h1 : S n ∧ D n x
    · rw [if_pos h1, if_pos (h0.1 h1)]
    · rw [if_neg h1, if_neg (fun h2 => h1 (h0.2 h2)), ih]
theorem cont_pre {S : Nat → Prop} {x : K} (hfr : ∀ k, ¬ D k x → val (k + 1) x = val k x) : ∀ {n : Nat}, (∀ j, j < n → S j) → cont val D S n x = val n x
  | 0, _ => rfl
  | n + 1, h => by
    unfold cont
    by_cases h1 : S n ∧ D n x
    · rw [if_pos h1]
    · rw [if_neg h1, cont_pre hfr fun j hj => h j (by omega), hfr n fun hd => h1 ⟨h n (Nat.lt_succ_self n), hd⟩]
theorem cont_skip {S : Nat → Prop} {x : K} {i : Nat} : ∀ {n : Nat}, i ≤ n → (∀ j, i ≤ j → j < n → ¬ (S j ∧ D j x)) → cont val D S n x = cont val D S i x
  | 0, h, _ => by have : i = 0 := by omega
                  subst this; rfl
  | n + 1, h, hs => by
    by_cases hi : i = n + 1
    · subst hi; rfl
    · have e : cont val D S (n + 1) x = cont val D S n x := by
        rw [cont]
        exact if_neg (hs n (by omega) (by omega))
      rw [e]
      exact cont_skip (by omega) fun j h1 h2 => hs j h1 (by omega)
/-- What `i` finds, where it is not hindered. -/
theorem cont_at {S : Nat → Prop} {x : K} {i n : Nat} (hfr : ∀ k, ¬ D k x → val (k + 1) x = val k x) (hi : i ≤ n) (h1 : ∀ j, j < i → D j x → S j) (h2 : ∀ j, i ≤ j → j < n → ¬ (S j ∧ D j x)) : cont val D S n x = val i x := by
  rw [cont_skip hi h2, cont_congr (S' := fun j => j < i) fun j hj => ⟨fun h => ⟨hj, h.2⟩, fun h => ⟨h1 j hj h.2, h.2⟩⟩, cont_pre hfr fun j hj => hj]
/-- What is found behind `i`. -/
theorem cont_add {S S' : Nat → Prop} {x : K} {i n : Nat} (hi : i < n) (hS : ∀ j, S' j ↔ S j ∨ j = i) (hD : D i x) (h2 : ∀ j, i < j → j < n → ¬ (S j ∧ D j x)) : cont val D S' n x = val (i + 1) x := by
  rw [cont_skip (i := i + 1) (by omega) fun j h3 h4 h5 => ?_]
  · rw [cont, if_pos ⟨(hS i).2 (.inr rfl), hD⟩]
  · rcases (hS j).1 h5.1 with h6 | h6
    · exact h2 j (by omega) h4 ⟨h6, h5.2⟩
    · omega
theorem cont_keep {S S' : Nat → Prop} {x : K} {i n : Nat} (hS : ∀ j, S' j ↔ S j ∨ j = i) (hD : ¬ D i x) : cont val D S' n x = cont val D S n x :=
  cont_congr fun j _ => ⟨fun h => ⟨((hS j).1 h.1).resolve_right fun e => hD (e ▸ h.2), h.2⟩, fun h => ⟨(hS j).2 (.inl h.1), h.2⟩⟩
end

/-! ### Who waits for whom -/
theorem masks_length {ops : Array Oper} : ∀ n, (masks ops n).length = n
  | 0 => rfl
  | n + 1 => by simp [masks, masks_length n]
theorem masks_get {ops : Array Oper} : ∀ (n k : Nat), k < n → (masks ops n).getD k 0 = waitOf ops (masks ops k) k
  | n + 1, k, h => by
    simp only [masks, List.getD_eq_getElem?_getD]
    by_cases hk : k < n
    · rw [List.getElem?_append_left (by rw [masks_length]; exact hk), ← List.getD_eq_getElem?_getD, masks_get n k hk]
    · obtain rfl : k = n := by omega
      rw [List.getElem?_append_right (by rw [masks_length]; exact Nat.le_refl _), masks_length]
      simp
theorem foldl_wait (acc : List Nat) (j : Nat) : ∀ (l : List Edge) (s : Nat), (l.foldl (waitF acc) s).testBit j = true →
    s.testBit j = true ∨ ∃ e ∈ l, Region.binds .any e = true ∧ (e.on = j ∨ (acc.getD e.on 0).testBit j = true)
  | [], s, h => .inl h
  | e :: l, s, h => by
    rcases foldl_wait acc j l _ h with h1 | ⟨e', he, hb, hh⟩
    · unfold waitF at h1
      split at h1
      · rename_i hb
        rw [Nat.testBit_or, Nat.testBit_or, Bool.or_eq_true, Bool.or_eq_true] at h1
        rcases h1 with (h1 | h1) | h1
        · exact .inl h1
        · refine .inr ⟨e, List.mem_cons_self .., hb, .inl ?_⟩
          rw [Nat.testBit_two_pow] at h1
          simpa using h1
        · exact .inr ⟨e, List.mem_cons_self .., hb, .inr h1⟩
      · exact .inl h1
    · exact .inr ⟨e', List.mem_cons_of_mem _ he, hb, hh⟩
/-- What has come up has all come up that it waits for. -/
def Down (ops : Array Oper) (listed : Array Bool) : Prop := ∀ k o, ops[k]? = some o → listed.getD k false = true → ∀ e ∈ o.after, Region.binds .any e = true → listed.getD e.on false = true
theorem wait_listed {ops : Array Oper} {listed : Array Bool} (hdown : Down ops listed) (hback : ∀ i o, ops[i]? = some o → ∀ e ∈ o.after, Region.binds .any e = true → e.on < i) {j : Nat} :
    ∀ (i : Nat) (o : Oper), ops[i]? = some o → (∀ e ∈ o.after, Region.binds .any e = true → listed.getD e.on false = true) → (waitOf ops (masks ops i) i).testBit j = true → listed.getD j false = true := by
  intro i
  induction i using Nat.strongRecOn with
  | _ i ih =>
    intro o ho hd hbit
    unfold waitOf at hbit
    rw [ho] at hbit
    rcases foldl_wait _ j _ _ hbit with h | ⟨e, he, hb, h⟩
    · simp at h
    · have hem : e ∈ o.after := by simpa using he
      have hlt := hback i o ho e hem hb
      have hl := hd e hem hb
      rcases h with rfl | h
      · exact hl
      · rw [masks_get i e.on hlt] at h
        cases hoe : ops[e.on]? with
        | none => unfold waitOf at h; rw [hoe] at h; simp at h
        | some oe => exact ih e.on hlt oe hoe (hdown e.on oe hoe hl) h

/-! ### What the check says -/
/-- `i` waits for `j`. -/
def Waits (ops : Array Oper) (i j : Nat) : Prop := ((masks ops ops.size).getD i 0).testBit j = true
def Lone (a b : Lg × Lg) : Prop := ∀ n, ¬ (a.2.has n = true ∧ (b.1.has n = true ∨ b.2.has n = true)) ∧ ¬ (b.2.has n = true ∧ a.1.has n = true)
theorem lf_lone1 (b : Lg × Lg) : Lone ([], []) b := fun n => ⟨fun h => by simp [Lg.has] at h, fun h => by simp [Lg.has] at h⟩
theorem lf_lone2 (a : Lg × Lg) : Lone a ([], []) := fun n => ⟨fun h => by simp [Lg.has] at h, fun h => by simp [Lg.has] at h⟩
theorem memAll_spec {ops : Array Oper} {i : Nat} {b : Lg × Lg} : ∀ (l : List (Lg × Lg)) (k : Nat), memAll ((masks ops ops.size).getD i 0) b l k = true → ∀ j (h : j < l.length), Waits ops i (k + j) ∨ Lone l[j] b
  | [], _, _, j, h => absurd h (by simp)
  | a :: r, k, hm, j, h => by
    unfold memAll at hm
    rw [Bool.and_eq_true] at hm
    cases j with
    | succ j =>
      have := memAll_spec r (k + 1) hm.2 j (by simpa using h)
      rw [show k + (j + 1) = k + 1 + j by omega]
      simpa using this
    | zero =>
      have h1 := hm.1
      simp only [List.getElem_cons_zero, Nat.add_zero]
      split at h1
      · exact .inr (lf_lone1 _)
      · exact .inr (lf_lone2 _)
      · rename_i r1 w1 r2 w2 _ _
        rw [Bool.or_eq_true, Bool.and_eq_true, Bool.and_eq_true] at h1
        rcases h1.symm with h1 | h1
        · refine .inr fun n => ⟨fun h2 => ?_, fun h2 => ?_⟩
          · rcases h2.2 with h3 | h3
            · exact Lg.disj_spec h1.1.1 n ⟨h2.1, h3⟩
            · exact Lg.disj_spec h1.1.2 n ⟨h2.1, h3⟩
          · exact Lg.disj_spec h1.2 n ⟨h2.2, h2.1⟩
        · exact .inl h1
theorem memOk_spec {ops : Array Oper} {all : List (Lg × Lg)} : ∀ (l : List (Lg × Lg)) (k : Nat), memOk (masks ops ops.size) all l k = true → ∀ i (h : i < l.length) j (hj : j < k + i) (hj2 : j < all.length), Waits ops (k + i) j ∨ Lone all[j] l[i]
  | [], _, _, i, h, _, _, _ => absurd h (by simp)
  | b :: r, k, hm, i, h, j, hj, hj2 => by
    unfold memOk at hm
    rw [Bool.and_eq_true] at hm
    cases i with
    | succ i =>
      have := memOk_spec r (k + 1) hm.2 i (by simpa using h) j (by omega) hj2
      rw [show k + (i + 1) = k + 1 + i by omega]
      simpa using this
    | zero =>
      have h1 := hm.1
      simp only [List.getElem_cons_zero, Nat.add_zero] at hj ⊢
      split at h1
      · exact .inr (lf_lone2 _)
      · have := memAll_spec _ 0 h1 j (by simp; omega)
        rw [Nat.zero_add] at this
        rcases this with h2 | h2
        · exact .inl h2
        · rw [List.getElem_take] at h2
          exact .inr h2
end Mir

namespace Mir
open Go

section
variable {P : Program} {sy : SyT} {w0 : Bs} {N : Nat} {ρ : Ren} {call : CallT} {rnd : RndT} {fr : Option Nat} {rm : Nat} {ops : Array Oper}
theorem WR.span {W : Tw} {w : World} (h : WR w0 ρ W w) {nx lim : Nat} {rd wr : Lg} (hf : ∀ n, nx ≤ n → n < lim → ¬ ρ.dom n) (hl : lim ≤ 2 ^ 63) : WR w0 ρ { W with nx := nx, lim := lim, rd := rd, wr := wr } w :=
  ⟨h.row, h.dom, h.mine, h.sep, hf, hl, h.small, h.os, h.tape, h.output, h.size, h.old, h.r0⟩

/-- The list's own order, step by step. -/
structure Trace (P : Program) (sy : SyT) (call : CallT) (rnd : RndT) (N : Nat) (ops : Array Oper) (l : List Oper) (T : Nat → Tr Value × Tw) (v : Nat → Value) (U : Nat → Tw) : Prop where
  run : ∀ k (h : k < l.length), opV (opT P sy) call rnd ops l[k] (getS (T k).1) { (T k).2 with rd := [], wr := [] } = some (v k, U k)
  put : ∀ k (h : k < l.length), putS N l[k].dst (v k) (T k).1 = some (T (k + 1)).1
  get : ∀ k, k < l.length → ∀ n, (T (k + 1)).2.get n = (U k).get n
  nx : ∀ k, k < l.length → (T (k + 1)).2.nx = (U k).nx
  lim : ∀ k, k < l.length → (T (k + 1)).2.lim = (U k).lim
theorem evD_trace : ∀ (l : List Oper) (sl : Tr Value) (W : Tw) {slf : Tr Value} {ls : List (Lg × Lg)} {Wf : Tw}, evD (opT P sy) call rnd N ops l sl W = some ((slf, ls), Wf) →
    ∃ T v U, Trace P sy call rnd N ops l T v U ∧ T 0 = (sl, W) ∧ T l.length = (slf, Wf) ∧ ls.length = l.length ∧ ∀ k (h : k < ls.length), ls[k] = ((U k).rd, (U k).wr)
  | [], sl, W, slf, ls, Wf, h => by
    simp only [evD, Option.some.injEq, Prod.mk.injEq] at h
    obtain ⟨⟨rfl, rfl⟩, rfl⟩ := h
    exact ⟨fun _ => (sl, W), fun _ => undef, fun _ => W, ⟨fun k h => absurd h (by simp), fun k h => absurd h (by simp), fun k h => absurd h (by simp), fun k h => absurd h (by simp), fun k h => absurd h (by simp)⟩, rfl, rfl, rfl, fun k h => absurd h (by simp)⟩
  | o :: r, sl, W, slf, ls, Wf, h => by
    simp only [evD] at h
    obtain ⟨p, W1, h1, h2⟩ := bind_some h
    simp only [forV_eq] at h2
    cases hp : putS N o.dst p.1 sl with
    | none => rw [hp] at h2; cases h2
    | some sl1 =>
      rw [hp] at h2
      obtain ⟨q, W2, h3, h4⟩ := bind_some h2
      simp only [Option.some.injEq, Prod.mk.injEq] at h4
      obtain ⟨⟨e1, e2⟩, e3⟩ := h4
      obtain ⟨T, v, U, t, t0, t1, t2, t3⟩ := evD_trace r sl1 W1 h3
      rw [subT_eq] at h1
      cases hf : opV (opT P sy) call rnd ops o (getS sl) { W with rd := [], wr := [] } with
      | none => rw [hf] at h1; cases h1
      | some u =>
        obtain ⟨v0, U0⟩ := u
        rw [hf] at h1
        simp only [Option.map_some, Option.some.injEq, Prod.mk.injEq] at h1
        obtain ⟨rfl, rfl⟩ := h1
        refine ⟨fun k => match k with
          | 0 => (sl, W)
          | k + 1 => T k, fun k => match k with
          | 0 => v0
          | k + 1 => v k, fun k => match k with
          | 0 => U0
          | k + 1 => U k, ⟨fun k hk => ?_, fun k hk => ?_, fun k hk n => ?_, fun k hk => ?_, fun k hk => ?_⟩, rfl, ?_, ?_, fun k hk => ?_⟩
        · cases k with
          | zero => exact hf
          | succ k => exact t.run k (by simpa using hk)
        · cases k with
          | zero => show putS N o.dst v0 sl = some (T 0).1; rw [t0]; exact hp
          | succ k => exact t.put k (by simpa using hk)
        · cases k with
          | zero => show (T 0).2.get n = U0.get n; rw [t0]; rfl
          | succ k => exact t.get k (by simpa using hk) n
        · cases k with
          | zero => show (T 0).2.nx = U0.nx; rw [t0]
          | succ k => exact t.nx k (by simpa using hk)
        · cases k with
          | zero => show (T 0).2.lim = U0.lim; rw [t0]
          | succ k => exact t.lim k (by simpa using hk)
        · show T r.length = _
          rw [t1, e1, e3]
        · rw [← e2]; simp [t2]
        · subst e2
          cases k with
          | zero => rfl
          | succ k => exact t3 k (by simpa using hk)

theorem slotsOk_spec (h : slotsOk ops = true) : (∀ i o, ops[i]? = some o → ∀ e ∈ o.after, Region.binds .any e = true → e.on < i) ∧
    (∀ i o j oj, ops[i]? = some o → ops[j]? = some oj → j < i → Waits ops i j ∨ oj.apart ops o = true) := by
  constructor
  · intro i o hi e he hb
    have hlt : i < ops.size := (Array.getElem?_eq_some_iff.1 hi).1
    have h1 := List.all_eq_true.1 h i (List.mem_range.2 hlt)
    rw [hi] at h1
    simp only [Bool.and_eq_true] at h1
    have := List.all_eq_true.1 h1.1 e (by simpa using he)
    rw [hb] at this
    simpa using this
  · intro i o j oj hi hj hji
    have hlt : i < ops.size := (Array.getElem?_eq_some_iff.1 hi).1
    have h1 := List.all_eq_true.1 h i (List.mem_range.2 hlt)
    rw [hi] at h1
    simp only [Bool.and_eq_true] at h1
    have := List.all_eq_true.1 h1.2 j (List.mem_range.2 hji)
    rw [hj] at this
    unfold Waits
    simpa only [Bool.or_eq_true] using this

/-- Where a drawn region stands: `listed` is done. -/
structure At (w0 : Bs) (N : Nat) (ρ : Ren) (ops : Array Oper) (T : Nat → Tr Value × Tw) (U : Nat → Tw) (df : List Deferred) (listed : Array Bool) (ρ' : Ren) (a : Act) (w : World) : Prop where
  mem : ∃ V : Tw, WR w0 ρ' V w ∧ V.nx = (T ops.size).2.nx ∧ V.lim = (T 0).2.lim ∧ ∀ m, V.get m = cont (fun k n => (T k).2.get n) (fun k n => (U k).wr.has n = true) (fun j => listed.getD j false = true) ops.size m
  le : ρ.le ρ'
  dom : ∀ m, ρ'.dom m → ρ.dom m ∨ ∃ j, j < ops.size ∧ listed.getD j false = true ∧ (T j).2.nx ≤ m ∧ m < (T (j + 1)).2.nx
  sl : SR ρ' (fun t => cont (fun k t => getS (T k).1 t) (fun k t => (ops[k]?).bind (·.dst) = some t) (fun j => listed.getD j false = true) ops.size t) a
  df : a.defers = df
  N : a.tmps.size = N

theorem getD_set {listed : Array Bool} {i : Nat} (hi : i < listed.size) (j : Nat) : (listed.setIfInBounds i true).getD j false = true ↔ listed.getD j false = true ∨ j = i := by
  rw [Array.getD_eq_getD_getElem?, Array.getD_eq_getD_getElem?]
  by_cases hj : i = j
  · subst hj
    rw [Array.getElem?_setIfInBounds_self_of_lt hi]
    simp
  · rw [Array.getElem?_setIfInBounds_ne hj]
    constructor
    · exact .inl
    · rintro (h | h)
      · exact h
      · exact absurd h.symm hj

/-- One operation that is ready, in whatever order. -/
theorem at_step (hz : SOk P w0 sy) (hzs : ZSz P) (hc : CallS P w0 call) (hrn : RndS P w0 rnd) (hcl : CallL call rnd) {T : Nat → Tr Value × Tw} {v : Nat → Value} {U : Nat → Tw} (ht : Trace P sy call rnd N ops ops.toList T v U) (hs : slotsOk ops = true)
    (hlone : ∀ i j, j < i → i < ops.size → Waits ops i j ∨ Lone ((U j).rd, (U j).wr) ((U i).rd, (U i).wr)) (hroom : (T 0).2.nx ≤ (T 0).2.lim) {w1 : World} (hW0 : WR w0 ρ (T 0).2 w1)
    {listed : Array Bool} (hsz : listed.size = ops.size) (hdown : Down ops listed) {i : Nat} {o : Oper} (hi : ops[i]? = some o) (hu : listed.getD i false = false) (hdep : ∀ e ∈ o.after, Region.binds .any e = true → listed.getD e.on false = true)
    {df : List Deferred} {ρ' : Ren} {a : Act} {w : World} (h : At w0 N ρ ops T U df listed ρ' a w) (Q : Exit → Act → World → Prop) :
    if Region.wanted o (yielded ops a.tmps) then o.wpIn (FF fr) rm P a w (fun a' w' => ∃ ρ2, At w0 N ρ ops T U df (listed.setIfInBounds i true) ρ2 a' w') Q else At w0 N ρ ops T U df (listed.setIfInBounds i true) ρ' (a.put o.dst undef) w := by
  obtain ⟨hback, hpair⟩ := slotsOk_spec hs
  have hlt : i < ops.size := (Array.getElem?_eq_some_iff.1 hi).1
  have hll : ops.toList.length = ops.size := by simp
  have hget : ∀ k (hk : k < ops.size), ops.toList[k]'(by simpa using hk) = ops[k] := fun k hk => by simp
  have hoi : ops.toList[i]'(by simpa using hlt) = o := by rw [hget i hlt]; exact (Array.getElem?_eq_some_iff.1 hi).2
  have hmono : ∀ k, k < ops.size → (T k).2.nx ≤ (T (k + 1)).2.nx ∧ (T (k + 1)).2.lim = (T k).2.lim ∧ ((T k).2.nx ≤ (T k).2.lim → (T (k + 1)).2.nx ≤ (T (k + 1)).2.lim) := fun k hk => by
    have hk' : k < ops.toList.length := by simpa using hk
    have m := (Local.opV (P := P) (sy := sy) hcl ops ops.toList[k] (getS (T k).1)).mono (ht.run k hk')
    rw [ht.nx k hk', ht.lim k hk']
    exact ⟨m.nx, m.lim, m.room⟩
  have hlims : ∀ k, k ≤ ops.size → (T k).2.lim = (T 0).2.lim ∧ (T k).2.nx ≤ (T k).2.lim := by
    intro k
    induction k with
    | zero => intro _; exact ⟨rfl, hroom⟩
    | succ k ih =>
      intro hk
      obtain ⟨i1, i2⟩ := ih (by omega)
      obtain ⟨_, j2, j3⟩ := hmono k (by omega)
      exact ⟨j2.trans i1, j3 i2⟩
  have hnx : ∀ d k, k + d ≤ ops.size → (T k).2.nx ≤ (T (k + d)).2.nx := by
    intro d
    induction d with
    | zero => intro k _; exact Nat.le_refl _
    | succ d ih =>
      intro k hk
      exact Nat.le_trans (ih k (by omega)) (hmono (k + d) (by omega)).1
  have hnx' : ∀ j k, j ≤ k → k ≤ ops.size → (T j).2.nx ≤ (T k).2.nx := fun j k h1 h2 => by
    have := hnx (k - j) j (by omega)
    rwa [show j + (k - j) = k by omega] at this
  -- what isn't written stays
  have hfm : ∀ k, k < ops.size → ∀ m, ¬ (U k).wr.has m = true → (T (k + 1)).2.get m = (T k).2.get m := fun k hk m hm => by
    have hk' : k < ops.toList.length := by simpa using hk
    have L := Local.opV (P := P) (sy := sy) hcl ops ops.toList[k] (getS (T k).1)
    have hr := ht.run k hk'
    obtain ⟨V', _, hl⟩ := L.loc hr (V := { (T k).2 with rd := [], wr := [] }) ⟨rfl, rfl, rfl, by
      have := (hlims (k + 1) (by omega)).2
      rw [ht.nx k hk', ht.lim k hk'] at this
      rw [(L.mono hr).lim] at this
      exact this, fun _ _ => rfl, fun _ _ => rfl⟩
    rw [ht.get k hk' m]
    exact hl.keptW m hm
  have hfs : ∀ k, k < ops.size → ∀ t, ¬ (ops[k]?).bind (·.dst) = some t → getS (T (k + 1)).1 t = getS (T k).1 t := fun k hk t hd => by
    have hk' : k < ops.toList.length := by simpa using hk
    obtain ⟨_, h2⟩ := putS_some (ht.put k hk')
    rw [h2, if_neg]
    intro he
    refine hd ?_
    rw [Array.getElem?_eq_getElem hk]
    rw [hget k hk] at he
    exact he
  -- who waits
  have hS1 : ∀ j, Waits ops i j → listed.getD j false = true := fun j hj => by
    unfold Waits at hj
    rw [masks_get _ _ hlt] at hj
    exact wait_listed hdown hback i o hi hdep hj
  have hS2 : ∀ j, j < ops.size → listed.getD j false = true → ¬ Waits ops j i := fun j hj hl hw => by
    unfold Waits at hw
    rw [masks_get _ _ hj] at hw
    have hoj : ops[j]? = some ops[j] := Array.getElem?_eq_getElem hj
    have := wait_listed hdown hback j _ hoj (fun e he hb => hdown j _ hoj hl e he hb) hw
    rw [hu] at this
    cases this
  obtain ⟨V, v1, v2, v3, v4⟩ := h.mem
  -- memory that is touched is as in the list's order
  have hmem : ∀ m, (U i).touched m → V.get m = (T i).2.get m := by
    intro m hm
    rw [v4]
    have hfr' : ∀ k, ¬ ((U k).wr.has m = true ∧ k < ops.size) → k < ops.size → (T (k + 1)).2.get m = (T k).2.get m := fun k h1 h2 => hfm k h2 m fun h3 => h1 ⟨h3, h2⟩
    have key : ∀ S : Nat → Prop, (∀ j, j < i → (U j).wr.has m = true → S j) → (∀ j, i ≤ j → j < ops.size → ¬ (S j ∧ (U j).wr.has m = true)) → cont (fun k n => (T k).2.get n) (fun k n => (U k).wr.has n = true) S ops.size m = (T i).2.get m := by
      intro S h1 h2
      rw [cont_skip (x := m) (D := fun k n => (U k).wr.has n = true) (Nat.le_of_lt hlt) h2]
      have : ∀ k, k ≤ i → cont (fun k n => (T k).2.get n) (fun k n => (U k).wr.has n = true) S k m = (T k).2.get m := by
        intro k
        induction k with
        | zero => intro _; rfl
        | succ k ih =>
          intro hk
          rw [cont]
          by_cases hd : S k ∧ (U k).wr.has m = true
          · rw [if_pos hd]
          · rw [if_neg hd, ih (by omega)]
            exact (hfm k (by omega) m fun h3 => hd ⟨h1 k (by omega) h3, h3⟩).symm
      exact this i (Nat.le_refl _)
    refine key _ (fun j hj hw => ?_) (fun j hj hj2 hw => ?_)
    · rcases hlone i j hj hlt with h1 | h1
      · exact hS1 j h1
      · exact absurd ⟨hw, hm⟩ (h1 m).1
    · rcases Nat.lt_or_eq_of_le hj with h1 | h1
      · rcases hlone j i h1 hj2 with h2 | h2
        · exact hS2 j hj2 hw.1 h2
        · rcases hm with h3 | h3
          · exact (h2 m).2 ⟨hw.2, h3⟩
          · exact (h2 m).1 ⟨h3, .inr hw.2⟩
      · subst h1
        rw [hu] at hw
        cases hw.1
  -- slots that are looked at, too
  have hslot : ∀ t, (∀ j, j < i → (ops[j]?).bind (·.dst) = some t → listed.getD j false = true) → (∀ j, i ≤ j → j < ops.size → ¬ (listed.getD j false = true ∧ (ops[j]?).bind (·.dst) = some t)) →
      cont (fun k t => getS (T k).1 t) (fun k t => (ops[k]?).bind (·.dst) = some t) (fun j => listed.getD j false = true) ops.size t = getS (T i).1 t := by
    intro t h1 h2
    rw [cont_skip (x := t) (D := fun k t => (ops[k]?).bind (·.dst) = some t) (Nat.le_of_lt hlt) h2]
    have : ∀ k, k ≤ i → cont (fun k t => getS (T k).1 t) (fun k t => (ops[k]?).bind (·.dst) = some t) (fun j => listed.getD j false = true) k t = getS (T k).1 t := by
      intro k
      induction k with
      | zero => intro _; rfl
      | succ k ih =>
        intro hk
        rw [cont]
        by_cases hd : listed.getD k false = true ∧ (ops[k]?).bind (·.dst) = some t
        · rw [if_pos hd]
        · rw [if_neg hd, ih (by omega)]
          exact (hfs k (by omega) t fun h3 => hd ⟨h1 k (by omega) h3, h3⟩).symm
    exact this i (Nat.le_refl _)
  have hdst : ∀ (j t : Nat), (ops[j]?).bind (fun (x : Oper) => x.dst) = some t → ∃ oj : Oper, ops[j]? = some oj ∧ oj.dst = some t := fun j t h1 => by
    cases hj : ops[j]? with
    | none => rw [hj] at h1; cases h1
    | some oj => rw [hj] at h1; exact ⟨oj, rfl, h1⟩
  have hlook : ∀ t ∈ o.looksAt ops, VR ρ' (getS (T i).1 t) (a.tmps.getD t undef) := by
    intro t htl
    have := h.sl.at' t
    rw [hslot t ?_ ?_] at this
    · exact this
    · intro j hj hd
      obtain ⟨oj, e1, e2⟩ := hdst j t hd
      rcases hpair i o j oj hi e1 hj with h1 | h1
      · exact hS1 j h1
      · exact absurd htl ((Oper.apart_spec h1).1 t e2)
    · intro j hj hj2 hd
      obtain ⟨oj, e1, e2⟩ := hdst j t hd.2
      rcases Nat.lt_or_eq_of_le hj with h1 | h1
      · rcases hpair j oj i o e1 hi h1 with h2 | h2
        · exact hS2 j hj2 hd.1 h2
        · exact (Oper.apart_spec h2).2.2 t e2 htl
      · subst h1
        rw [hu] at hd
        cases hd.1
  -- the run
  have hi' : i < ops.toList.length := by simpa using hlt
  have hrun := ht.run i hi'
  rw [hoi] at hrun
  have hnxi : (U i).nx = (T (i + 1)).2.nx := (ht.nx i hi').symm
  have hlim0 := hW0.lim
  have hVi : WR w0 ρ' { V with nx := (T i).2.nx, lim := (T (i + 1)).2.nx, rd := [], wr := [] } w := by
    refine v1.span (fun m h1 h2 hd => ?_) ?_
    · rcases h.dom m hd with h3 | ⟨j, j1, j2, j3, j4⟩
      · refine hW0.free m ?_ ?_ h3
        · exact Nat.le_trans (hnx' 0 i (by omega) (by omega)) h1
        · have := (hlims (i + 1) (by omega))
          omega
      · rcases Nat.lt_trichotomy j i with h5 | h5 | h5
        · have := hnx' (j + 1) i (by omega) (by omega); omega
        · subst h5; rw [hu] at j2; cases j2
        · have := hnx' (i + 1) j (by omega) (by omega); omega
    · have := (hlims (i + 1) (by omega)); omega
  have hlike : Like { (T i).2 with rd := [], wr := [] } (U i) { V with nx := (T i).2.nx, lim := (T (i + 1)).2.nx, rd := [], wr := [] } :=
    ⟨rfl, rfl, rfl, by rw [hnxi]; exact Nat.le_refl _, fun m hm => hmem m hm, fun m hm => absurd hm (by simp [Lg.has])⟩
  obtain ⟨V1, g1, g2⟩ := (Local.opV (P := P) (sy := sy) hcl ops o (getS (T i).1)).loc hrun hlike
  have hstep := opV_sound (fr := fr) (rm := rm) hz hzs hc hrn hVi hlook g1 Q
  have hput := ht.put i hi'
  rw [hoi] at hput
  obtain ⟨p1, p2⟩ := putS_some hput
  have hii : i < listed.size := by omega
  have fin : ∀ (ρ2 : Ren) (y : Value) (w' : World), Ext ρ' { V with nx := (T i).2.nx, lim := (T (i + 1)).2.nx, rd := [], wr := [] } ρ2 V1 → WR w0 ρ2 V1 w' → VR ρ2 (v i) y → At w0 N ρ ops T U df (listed.setIfInBounds i true) ρ2 (a.put o.dst y) w' := by
    intro ρ2 y w' hx hW hv
    have hV1nx : V1.nx = (T (i + 1)).2.nx := by rw [g2.nx, hnxi]
    refine ⟨⟨{ V1 with nx := (T ops.size).2.nx, lim := (T 0).2.lim, rd := V1.rd, wr := V1.wr }, hW.span (fun m h1 h2 hd => ?_) hlim0, rfl, rfl, fun m => ?_⟩, h.le.trans hx.le, fun m hd => ?_, ⟨fun t => ?_⟩, ?_, ?_⟩
    · rcases hx.dom m hd with h3 | ⟨h3, h4⟩
      · exact v1.free m (by rw [v2]; exact h1) (by rw [v3]; exact h2) h3
      · rw [hV1nx] at h4
        have := hnx' (i + 1) ops.size (by omega) (Nat.le_refl _)
        omega
    · show V1.get m = _
      by_cases hd : (U i).wr.has m = true
      · rw [g2.got m hd, cont_add (x := m) (D := fun k n => (U k).wr.has n = true) (i := i) hlt (fun j => getD_set hii j) hd ?_, ht.get i hi']
        intro j h1 h2 h3
        rcases hlone j i h1 h2 with h4 | h4
        · exact hS2 j h2 h3.1 h4
        · exact (h4 m).1 ⟨hd, .inr h3.2⟩
      · rw [g2.kept m hd, cont_keep (x := m) (D := fun k n => (U k).wr.has n = true) (i := i) (fun j => getD_set hii j) hd]
        exact v4 m
    · rcases hx.dom m hd with h3 | ⟨h3, h4⟩
      · rcases h.dom m h3 with h5 | ⟨j, j1, j2, j3⟩
        · exact .inl h5
        · exact .inr ⟨j, j1, (getD_set hii j).2 (.inl j2), j3⟩
      · exact .inr ⟨i, hlt, (getD_set hii i).2 (.inr rfl), h3, by rw [← hV1nx]; exact h4⟩
    · have hbase := (h.sl.le hx.le)
      have hput2 := SR.put (f' := fun t => if o.dst = some t then v i else cont (fun k t => getS (T k).1 t) (fun k t => (ops[k]?).bind (·.dst) = some t) (fun j => listed.getD j false = true) ops.size t) hbase hv (d := o.dst) (fun t ht2 => by rw [h.N]; exact p1 t ht2) (fun _ => rfl)
      have := hput2.at' t
      by_cases hd : o.dst = some t
      · rw [if_pos hd] at this
        rw [cont_add (x := t) (D := fun k t => (ops[k]?).bind (·.dst) = some t) (i := i) hlt (fun j => getD_set hii j) (by rw [hi]; exact hd) ?_, p2, if_pos hd]
        · exact this
        · intro j h1 h2 h3
          obtain ⟨oj, e1, e2⟩ := hdst j t h3.2
          rcases hpair j oj i o e1 hi h1 with h4 | h4
          · exact hS2 j h2 h3.1 h4
          · exact (Oper.apart_spec h4).2.1 t hd e2
      · rw [if_neg hd] at this
        rw [cont_keep (x := t) (D := fun k t => (ops[k]?).bind (·.dst) = some t) (i := i) (fun j => getD_set hii j) (by rw [hi]; exact hd)]
        exact this
    · cases o.dst <;> exact h.df
    · cases o.dst with
      | none => exact h.N
      | some t => simp only [Act.put, Array.size_setIfInBounds]; exact h.N
  split
  · rename_i hw
    rw [if_pos hw] at hstep
    refine Oper.wpIn_mono (fun a' w' hr => ?_) hstep
    obtain ⟨ρ2, y, x1, x2, x3, rfl⟩ := hr
    exact ⟨ρ2, fin ρ2 y w' x1 x2 x3⟩
  · rename_i hw
    rw [if_neg hw] at hstep
    obtain ⟨e1, e2⟩ := hstep
    exact fin ρ' undef w (by rw [e2]; exact .refl _ _) (by rw [e2]; exact hVi) (by rw [e1]; exact VR_undef)
end
end Mir

namespace Mir
open Go

/-- What is asked of a program once. -/
structure POk (P : Program) (w0 : Bs) (sy : SyT) : Prop where
  zero : SOk P w0 sy
  size : ZSz P
  code : ∀ (f : Nat) (fn : Func) (c : Code), P.funcs[f]? = some fn → fn.body = some c → codeOk c = true
  mixed : P.follows .mixedOrders = true

section
variable {P : Program} {sy : SyT} {w0 : Bs} {N : Nat} {ρ : Ren} {call : CallT} {rnd : RndT} {fr : Option Nat} {rm : Nat} {ops : Array Oper}
theorem range_split {n i : Nat} (h : i < n) : List.range n = List.range i ++ i :: (List.range n).drop (i + 1) := by
  have h1 : (List.range n).take i = List.range i := by rw [List.take_range]; congr 1; omega
  have h2 : (List.range n).drop i = i :: (List.range n).drop (i + 1) := by
    rw [List.drop_eq_getElem_cons (by simpa using h)]
    simp
  conv => lhs; rw [← List.take_append_drop i (List.range n), h1, h2]
/-- How many are left. -/
noncomputable def left (n : Nat) (listed : Array Bool) : Nat := ((List.range n).filter fun i => !listed.getD i true).length
theorem left_set {n i : Nat} (h : i < n) {listed : Array Bool} (hs : listed.size = n) (hu : listed.getD i true = false) : left n listed = left n (listed.setIfInBounds i true) + 1 := by
  have hget : ∀ j, j ≠ i → (listed.setIfInBounds i true).getD j true = listed.getD j true := by
    intro j hj
    simp only [Array.getD_eq_getD_getElem?]
    rw [Array.getElem?_setIfInBounds_ne (Ne.symm hj)]
  have hgi : (listed.setIfInBounds i true).getD i true = true := by
    simp only [Array.getD_eq_getD_getElem?]
    rw [Array.getElem?_setIfInBounds_self_of_lt (by omega)]
    rfl
  have hmem : ∀ j, j ∈ (List.range n).drop (i + 1) → i < j := by
    intro j hj
    obtain ⟨k, hk, rfl⟩ := List.getElem_of_mem hj
    simp only [List.getElem_drop, List.getElem_range]
    omega
  unfold left
  rw [range_split h, List.filter_append, List.filter_append, List.filter_cons, List.filter_cons, if_pos (by simp [hu]), if_neg (by simp [hgi])]
  have e1 : (List.range i).filter (fun j => !(listed.setIfInBounds i true).getD j true) = (List.range i).filter (fun j => !listed.getD j true) :=
    List.filter_congr fun j hj => by rw [hget j (by have := List.mem_range.1 hj; omega)]
  have e2 : ((List.range n).drop (i + 1)).filter (fun j => !(listed.setIfInBounds i true).getD j true) = ((List.range n).drop (i + 1)).filter (fun j => !listed.getD j true) :=
    List.filter_congr fun j hj => by rw [hget j (by have := hmem j hj; omega)]
  rw [e1, e2]
  simp only [List.length_append, List.length_cons]
  omega
theorem getD_in {listed : Array Bool} {i : Nat} (h : i < listed.size) (x y : Bool) : listed.getD i x = listed.getD i y := by
  simp [Array.getD, h]

theorem any_sound (hp : POk P w0 sy) (hc : CallS P w0 call) (hrn : RndS P w0 rnd) (hcl : CallL call rnd) {T : Nat → Tr Value × Tw} {v : Nat → Value} {U : Nat → Tw} (ht : Trace P sy call rnd N ops ops.toList T v U) (hs : slotsOk ops = true)
    (hlone : ∀ i j, j < i → i < ops.size → Waits ops i j ∨ Lone ((U j).rd, (U j).wr) ((U i).rd, (U i).wr)) (hroom : (T 0).2.nx ≤ (T 0).2.lim) {w1 : World} (hW0 : WR w0 ρ (T 0).2 w1) {df : List Deferred} {Q : Exit → Act → World → Prop}
    (hQ : ∀ (listed : Array Bool) ρ' a w, (∀ i, i < ops.size → listed.getD i false = true) → At w0 N ρ ops T U df listed ρ' a w → Q .normal a w) :
    ∀ (fuel : Nat) (listed : Array Bool) (ρ' : Ren) (a : Act) (w : World), listed.size = ops.size → Down ops listed → left ops.size listed = fuel → At w0 N ρ ops T U df listed ρ' a w → wpAnyIn (FF fr) rm P .any ops Q fuel listed a w := by
  obtain ⟨hback, hpair⟩ := slotsOk_spec hs
  have hready : ∀ (listed : Array Bool), listed.size = ops.size → Region.ready .any ops listed = [] → ∀ i, i < ops.size → listed.getD i false = true := by
    intro listed hsz hnil i
    induction i using Nat.strongRecOn with
    | _ i ih =>
      intro hlt
      cases hu : listed.getD i false with
      | true => rfl
      | false =>
        exfalso
        have hmem : i ∈ Region.ready .any ops listed := by
          unfold Region.ready
          refine List.mem_filter.2 ⟨List.mem_range.2 hlt, ?_⟩
          have hoi : ops[i]? = some ops[i] := Array.getElem?_eq_getElem hlt
          rw [getD_in (by omega) true false, hu, hoi]
          simp only [Bool.not_false, Option.map_some, Option.getD_some, Bool.true_and]
          rw [Array.all_eq_true_iff_forall_mem]
          intro e hem
          by_cases hb : Region.binds .any e = true
          · have h1 := hback i _ hoi e hem hb
            rw [hb, ih e.on h1 (by omega)]
            rfl
          · simp [hb]
        rw [hnil] at hmem
        cases hmem
  intro fuel
  induction fuel with
  | zero =>
    intro listed ρ' a w hsz hdown hf h
    have hall : ∀ i, i < ops.size → listed.getD i false = true := by
      intro i hi
      have h0 := List.length_eq_zero_iff.1 hf
      rw [List.filter_eq_nil_iff] at h0
      have := h0 i (List.mem_range.2 hi)
      rw [getD_in (by omega) false true]
      simpa using this
    refine ⟨?_, hQ listed ρ' a w hall h⟩
    unfold Region.ready
    rw [List.filter_eq_nil_iff]
    intro i hi hh
    simp only [Bool.and_eq_true] at hh
    have := hall i (List.mem_range.1 hi)
    rw [getD_in (by have := List.mem_range.1 hi; omega) false true] at this
    rw [this] at hh
    cases hh.1
  | succ fuel ih =>
    intro listed ρ' a w hsz hdown hf h
    refine ⟨fun hnone => hQ listed ρ' a w (hready listed hsz hnone) h, fun i hi => ?_⟩
    unfold Region.ready at hi
    obtain ⟨hir, hic⟩ := List.mem_filter.1 hi
    have hlt : i < ops.size := List.mem_range.1 hir
    simp only [Bool.and_eq_true] at hic
    obtain ⟨hun, hdeps⟩ := hic
    have hui : listed.getD i true = false := by simpa using hun
    have hoi : ops[i]? = some ops[i] := Array.getElem?_eq_getElem hlt
    rw [hoi] at hdeps
    simp only [Option.map_some, Option.getD_some] at hdeps
    rw [Array.all_eq_true_iff_forall_mem] at hdeps
    have hdep : ∀ e ∈ ops[i].after, Region.binds .any e = true → listed.getD e.on false = true := fun e he hb => by
      have := hdeps e he
      rw [hb] at this
      simpa using this
    have hii : i < listed.size := by omega
    have hdown' : Down ops (listed.setIfInBounds i true) := by
      intro k o hk hl e he hb
      rcases (getD_set hii k).1 hl with h1 | h1
      · exact (getD_set hii e.on).2 (.inl (hdown k o hk h1 e he hb))
      · subst h1
        rw [hoi] at hk
        cases hk
        exact (getD_set hii e.on).2 (.inl (hdep e he hb))
    have hstep := at_step (fr := fr) (rm := rm) hp.zero hp.size hc hrn hcl ht hs hlone hroom hW0 hsz hdown hoi (by rw [getD_in hii false true]; exact hui) hdep h Q
    have hl := left_set hlt hsz hui
    have hnext : ∀ ρ2 a' w', At w0 N ρ ops T U df (listed.setIfInBounds i true) ρ2 a' w' → wpAnyIn (FF fr) rm P .any ops Q fuel (listed.setIfInBounds i true) a' w' := fun ρ2 a' w' hr =>
      ih _ ρ2 a' w' (by simpa using hsz) hdown' (by omega) hr
    unfold wpOpIn
    rw [hoi]
    simp only
    split
    · rename_i hw
      rw [if_pos hw] at hstep
      exact Oper.wpIn_mono (fun a' w' ⟨ρ2, hr⟩ => hnext ρ2 a' w' hr) hstep
    · rename_i hw
      rw [if_neg hw] at hstep
      exact ⟨fun _ _ => trivial, hnext ρ' _ w hstep⟩

theorem cont_preB {K A : Type} {val : Nat → K → A} {D : Nat → K → Prop} {S : Nat → Prop} {x : K} : ∀ {n : Nat}, (∀ k, k < n → ¬ D k x → val (k + 1) x = val k x) → (∀ j, j < n → S j) → cont val D S n x = val n x
  | 0, _, _ => rfl
  | n + 1, hfr, h => by
    rw [cont]
    by_cases h1 : S n ∧ D n x
    · rw [if_pos h1]
    · rw [if_neg h1, cont_preB (fun k hk => hfr k (by omega)) fun j hj => h j (by omega), hfr n (Nat.lt_succ_self n) fun hd => h1 ⟨h n (Nat.lt_succ_self n), hd⟩]
theorem cont_none {K A : Type} {val : Nat → K → A} {D : Nat → K → Prop} {S : Nat → Prop} {x : K} : ∀ {n : Nat}, (∀ j, ¬ S j) → cont val D S n x = val 0 x
  | 0, _ => rfl
  | n + 1, h => by
    rw [cont, if_neg (fun h1 => h n h1.1)]
    exact cont_none h
theorem Trace.frame (hcl : CallL call rnd) {T : Nat → Tr Value × Tw} {v : Nat → Value} {U : Nat → Tw} (ht : Trace P sy call rnd N ops ops.toList T v U) (hroom : (T 0).2.nx ≤ (T 0).2.lim) :
    (∀ k, k ≤ ops.size → (T k).2.lim = (T 0).2.lim ∧ (T 0).2.nx ≤ (T k).2.nx ∧ (T k).2.nx ≤ (T k).2.lim) ∧ (∀ k, k < ops.size → ∀ m, ¬ (U k).wr.has m = true → (T (k + 1)).2.get m = (T k).2.get m) ∧
    (∀ k, k < ops.size → ∀ t, ¬ (ops[k]?).bind (·.dst) = some t → getS (T (k + 1)).1 t = getS (T k).1 t) ∧ (∀ k, k < ops.size → (T k).2.nx ≤ (T (k + 1)).2.nx) := by
  have hget : ∀ k (hk : k < ops.size), ops.toList[k]'(by simpa using hk) = ops[k] := fun k hk => by simp
  have hmono : ∀ k, k < ops.size → (T k).2.nx ≤ (T (k + 1)).2.nx ∧ (T (k + 1)).2.lim = (T k).2.lim ∧ ((T k).2.nx ≤ (T k).2.lim → (T (k + 1)).2.nx ≤ (T (k + 1)).2.lim) := fun k hk => by
    have hk' : k < ops.toList.length := by simpa using hk
    have m := (Local.opV (P := P) (sy := sy) hcl ops ops.toList[k] (getS (T k).1)).mono (ht.run k hk')
    rw [ht.nx k hk', ht.lim k hk']
    exact ⟨m.nx, m.lim, m.room⟩
  have hlims : ∀ k, k ≤ ops.size → (T k).2.lim = (T 0).2.lim ∧ (T 0).2.nx ≤ (T k).2.nx ∧ (T k).2.nx ≤ (T k).2.lim := by
    intro k
    induction k with
    | zero => intro _; exact ⟨rfl, Nat.le_refl _, hroom⟩
    | succ k ih =>
      intro hk
      obtain ⟨i1, i2, i3⟩ := ih (by omega)
      obtain ⟨j1, j2, j3⟩ := hmono k (by omega)
      exact ⟨j2.trans i1, by omega, j3 i3⟩
  refine ⟨hlims, fun k hk m hm => ?_, fun k hk t hd => ?_, fun k hk => (hmono k hk).1⟩
  · have hk' : k < ops.toList.length := by simpa using hk
    have L := Local.opV (P := P) (sy := sy) hcl ops ops.toList[k] (getS (T k).1)
    have hr := ht.run k hk'
    obtain ⟨V', _, hl⟩ := L.loc hr (V := { (T k).2 with rd := [], wr := [] }) ⟨rfl, rfl, rfl, by
      have := (hlims (k + 1) (by omega)).2.2
      rw [ht.nx k hk', ht.lim k hk'] at this
      rw [(L.mono hr).lim] at this
      exact this, fun _ _ => rfl, fun _ _ => rfl⟩
    rw [ht.get k hk' m]
    exact hl.keptW m hm
  · have hk' : k < ops.toList.length := by simpa using hk
    obtain ⟨_, h2⟩ := putS_some (ht.put k hk')
    rw [h2, if_neg]
    intro he
    refine hd ?_
    rw [Array.getElem?_eq_getElem hk]
    rw [hget k hk] at he
    exact he

def EQ (w0 : Bs) (N : Nat) (ρ : Ren) (W : Tw) (e : Ex) (s' : St) (W' : Tw) : Exit → Act → World → Prop := fun ex a w => exm e ex ∧ ∃ ρ2, Ext ρ W ρ2 W' ∧ ER w0 N ρ2 s' W' a w

theorem evD_sound (hp : POk P w0 sy) (hc : CallS P w0 call) (hrn : RndS P w0 rnd) (hcl : CallL call rnd) (hs : slotsOk ops = true) {sl slf : Tr Value} {ms : List Nat} {W Wf : Tw} {ls : List (Lg × Lg)} {a : Act} {w : World} (h : ER w0 N ρ (sl, ms) W a w) (hroom : W.nx ≤ W.lim)
    (he : evD (opT P sy) call rnd N ops ops.toList sl W = some ((slf, ls), Wf)) (hm : memOk (masks ops ops.size) ls ls 0 = true) (id : Nat) : (Code.region id ops true).wpIn (FF fr) rm P (EQ w0 N ρ W .normal (slf, ms) Wf) a w := by
  obtain ⟨T, v, U, ht, t0, t1, t2, t3⟩ := evD_trace ops.toList sl W he
  have hn : ops.toList.length = ops.size := by simp
  have hlone : ∀ i j, j < i → i < ops.size → Waits ops i j ∨ Lone ((U j).rd, (U j).wr) ((U i).rd, (U i).wr) := by
    intro i j hj hi
    have := memOk_spec ls 0 hm i (by omega) j (by omega) (by omega)
    rw [Nat.zero_add, t3 i, t3 j] at this
    exact this
  refine wpIn_region_any hp.mixed ?_
  have hT0 : (T 0).2 = W := by rw [t0]
  refine any_sound (df := a.defers) hp hc hrn hcl ht hs hlone (by rw [hT0]; exact hroom) (w1 := w) (by rw [hT0]; exact h.W) (fun listed ρ' a' w' hall hA => ?_) ops.size _ ρ a _ (by simp) ?_ ?_ ?_
  · obtain ⟨V, v1, v2, v3, v4⟩ := hA.mem
    rw [hn] at t1
    obtain ⟨f1, f2, f3, f4⟩ := ht.frame hcl (by rw [hT0]; exact hroom)
    have hTn : (T ops.size).2 = Wf := by rw [t1]
    have hTs : (T ops.size).1 = slf := by rw [t1]
    obtain ⟨g1, g2, g3⟩ := f1 ops.size (Nat.le_refl _)
    have hsame : Same V Wf := by
      refine ⟨fun m => ?_, by rw [v2, hTn], by rw [v3, ← hTn, g1]⟩
      rw [v4, cont_preB (x := m) (D := fun k n => (U k).wr.has n = true) (fun k hk hd => f2 k hk m hd) (fun j hj => hall j hj), hTn]
    refine ⟨trivial, ρ', ⟨hA.le, fun m hd => ?_, by rw [← hTn, ← hT0]; exact g2, by rw [← hTn, ← hT0]; exact g1⟩, ⟨v1.same hsame, ⟨fun t => ?_⟩, by rw [hA.df]; exact h.df.le hA.le, hA.N⟩⟩
    · rcases hA.dom m hd with h1 | ⟨j, j1, _, j3, j4⟩
      · exact .inl h1
      · refine .inr ⟨?_, ?_⟩
        · have := (f1 j (by omega)).2.1
          rw [hT0] at this
          omega
        · have hup : ∀ d k, k + d ≤ ops.size → (T k).2.nx ≤ (T (k + d)).2.nx := by
            intro d
            induction d with
            | zero => intro k _; exact Nat.le_refl _
            | succ d ih =>
              intro k hk
              exact Nat.le_trans (ih k (by omega)) (f4 (k + d) (by omega))
          have := hup (ops.size - (j + 1)) (j + 1) (by omega)
          rw [show j + 1 + (ops.size - (j + 1)) = ops.size by omega, hTn] at this
          omega
    · have := hA.sl.at' t
      rw [cont_preB (x := t) (D := fun k t => (ops[k]?).bind (·.dst) = some t) (fun k hk hd => f3 k hk t hd) (fun j hj => hall j hj), hTs] at this
      exact this
  · intro k o hk hl
    rw [Array.getD_eq_getD_getElem?] at hl
    simp [Array.getElem?_replicate] at hl
    split at hl <;> cases hl
  · unfold left
    have : (List.range ops.size).filter (fun i => !(Array.replicate ops.size false).getD i true) = List.range ops.size := by
      rw [List.filter_eq_self]
      intro i hi
      have := List.mem_range.1 hi
      simp [Array.getD, this]
    rw [this]; simp
  · have hnone : ∀ j, ¬ (Array.replicate ops.size false).getD j false = true := by
      intro j
      rw [Array.getD_eq_getD_getElem?]
      simp [Array.getElem?_replicate]
      split <;> simp
    have hW := h.W.drew
    refine ⟨⟨{ W with nx := (T ops.size).2.nx, lim := W.lim, rd := W.rd, wr := W.wr }, hW.span (fun m h1 h2 hd => ?_) hW.lim, rfl, by rw [hT0], fun m => ?_⟩, .rfl', fun m hd => .inl hd, ⟨fun t => ?_⟩, rfl, h.N⟩
    · obtain ⟨f1, _⟩ := ht.frame hcl (by rw [hT0]; exact hroom)
      have := (f1 ops.size (Nat.le_refl _)).2.1
      rw [hT0] at this
      exact hW.free m (by omega) h2 hd
    · rw [cont_none (x := m) (D := fun k n => (U k).wr.has n = true) hnone, hT0]
      rfl
    · rw [cont_none (x := t) (D := fun k t => (ops[k]?).bind (·.dst) = some t) hnone, t0]
      exact h.sl.at' t

/-- In a round, or not. -/
def RoR (ρ : Ren) (ro fr : Option Nat) : Prop := match ro with
  | none => fr = none
  | some l => ρ.dom l ∧ fr = some (ρ.b l)
theorem RoR.le {ρ ρ' : Ren} (hl : ρ.le ρ') {ro fr : Option Nat} (h : RoR ρ ro fr) : RoR ρ' ro fr := by
  cases ro with
  | none => exact h
  | some l => exact ⟨hl.dom _ h.1, by rw [hl.b _ h.1]; exact h.2⟩
theorem sim_getLoop {l : Nat} (hl : ρ.dom l) : SimAt P w0 (fun ρ a b => ∃ st pe fn fn' ts ts' ps as bd df, a = ⟨st, pe, fn, ts, ps, as, bd, df⟩ ∧ b = ⟨st, pe, fn', ts', ps, as, bd, ρ.b df⟩ ∧ AR ρ ts ts' ∧ codeOk as = true ∧ codeOk bd = true ∧ ρ.dom df) ρ (Instr.getLoop l) (Instr.getLoop (ρ.b l)) := by
  refine SimAt.bind (sim_getObj hl) fun ρ1 o o' hl1 ho => ?_
  cases ho with
  | loop ht ha hb hd => exact SimAt.pure fun ρ2 hl2 => ⟨_, _, _, _, _, _, _, _, _, _, rfl, by rw [hl2.b _ hd], ht.le hl2, ha, hb, hl2.dom _ hd⟩
  | iter s p => exact SimAt.stuck
  | map c h => exact SimAt.stuck
  | defd b => cases b <;> exact SimAt.stuck
theorem sim_enterLoop {ro fr : Option Nat} (hro : RoR ρ ro fr) (fn fn' : FuncId) {ts ts' : Array Value} (ht : AR ρ ts ts') (ps : Array Tmp) {as bd : Code} (ha : codeOk as = true) (hb : codeOk bd = true) :
    SimAt P w0 (fun ρ a b => ρ.dom a.1 ∧ b.1 = ρ.b a.1 ∧ ∃ ms, mkN a.2 = some ms ∧ MkR ρ ms b.2) ρ (Instr.enterLoop fn ts ps as bd ro) (Instr.enterLoop fn' ts' ps as bd fr) := by
  have key : ∀ ρ1 : Ren, ρ.le ρ1 → ∀ (df : Nat) (ms : List Nat) (mk mk' : List Deferred), ρ1.dom df → mkN mk = some ms → MkR ρ1 ms mk' →
      SimAt P w0 (fun (ρ : Ren) (a b : Nat × List Deferred) => ρ.dom a.1 ∧ b.1 = ρ.b a.1 ∧ ∃ ms, mkN a.2 = some ms ∧ MkR ρ ms b.2) ρ1
        (newObj (.loop { state := .ready, pending := none, fn := fn, tmps := ts, params := ps, assign := as, body := bd, defers := df }) >>= fun r => pure (r, mk))
        (newObj (.loop { state := .ready, pending := none, fn := fn', tmps := ts', params := ps, assign := as, body := bd, defers := ρ1.b df }) >>= fun r => pure (r, mk')) := by
    intro ρ1 hl df ms mk mk' e1 e3 e4
    refine SimAt.bind (sim_newObj (OR.loop (ht.le hl) ha hb e1)) fun ρ2 n m hl2 ⟨d1, d2, d3⟩ => SimAt.pure fun ρ3 hl3 => ?_
    exact ⟨hl3.dom _ d1, by rw [d2, hl3.b _ d1], ms, e3, (e4.le hl2).le hl3⟩
  unfold Instr.enterLoop
  cases ro with
  | none =>
    have hfr : fr = none := hro
    subst hfr
    refine SimAt.bind (sim_newObj (o := .deferred (some [])) (o' := .deferred (some [])) (.defd true)) fun ρ1 n m hl ⟨d1, d2, d3⟩ => ?_
    subst d2
    exact key ρ1 hl n [n] _ _ d1 rfl ⟨rfl, fun D hD => by simp at hD; subst hD; exact d1⟩
  | some l =>
    obtain ⟨h1, h2⟩ := hro
    subst h2
    refine SimAt.bind (sim_getLoop h1) fun ρ1 p q hl hpq => ?_
    obtain ⟨st, pe, fn, fn', ts, ts', ps, as, bd, df, rfl, rfl, k1, k2, k3, k4⟩ := hpq
    exact key ρ1 hl df [] _ _ k4 rfl ⟨rfl, fun D hD => by cases hD⟩
theorem sim_endLoop {l : Nat} (hl : ρ.dom l) : SimAt P w0 EqR ρ (Instr.endLoop l) (Instr.endLoop (ρ.b l)) := by
  unfold Instr.endLoop
  refine SimAt.bind (sim_getLoop hl) fun ρ1 p q hl1 hpq => ?_
  obtain ⟨st, pe, fn, fn', ts, ts', ps, as, bd, df, rfl, rfl, k1, k2, k3, k4⟩ := hpq
  dsimp only
  split
  · exact SimAt.fail (runT_bindN runtimePanic_none)
  · rw [← hl1.b _ hl]
    exact SimAt.bindE (sim_setObj (hl1.dom _ hl) (OR.loop k1 k2 k3 k4)) fun _ _ _ => SimAt.pureE _
theorem sim_beginRound {l : Nat} (hl : ρ.dom l) : SimAt P w0 EqR ρ (Instr.beginRound l) (Instr.beginRound (ρ.b l)) := by
  unfold Instr.beginRound
  refine SimAt.bind (sim_getLoop hl) fun ρ1 p q hl1 hpq => ?_
  obtain ⟨st, pe, fn, fn', ts, ts', ps, as, bd, df, rfl, rfl, k1, k2, k3, k4⟩ := hpq
  dsimp only
  rw [← hl1.b _ hl]
  refine SimAt.bindE (sim_setObj (hl1.dom _ hl) (OR.loop k1 k2 k3 k4)) fun _ _ _ => ?_
  cases st <;> first | exact SimAt.pureE _ | exact SimAt.rpanic
theorem sim_endRound {l : Nat} (hl : ρ.dom l) (j : Option Code) : SimAt P w0 VR ρ (Instr.endRound l j) (Instr.endRound (ρ.b l) j) := by
  unfold Instr.endRound
  refine SimAt.bind (sim_getLoop hl) fun ρ1 p q hl1 hpq => ?_
  obtain ⟨st, pe, fn, fn', ts, ts', ps, as, bd, df, rfl, rfl, k1, k2, k3, k4⟩ := hpq
  dsimp only
  rw [← hl1.b _ hl]
  exact SimAt.bindE (sim_setObj (hl1.dom _ hl) (OR.loop k1 k2 k3 k4)) fun _ _ _ => SimAt.pureV (.bool _)
theorem sim_takeDeferred {l : Nat} (hl : ρ.dom l) : SimAt P w0 (fun _ a b => a = [] → b = []) ρ (Instr.takeDeferred l) (Instr.takeDeferred (ρ.b l)) := by
  unfold Instr.takeDeferred
  refine SimAt.bind (sim_getObj hl) fun ρ1 o o' hl1 ho => ?_
  cases ho with
  | loop _ _ _ _ => exact SimAt.stuck
  | iter s p => exact SimAt.stuck
  | map c h => exact SimAt.stuck
  | defd b =>
    cases b with
    | false => exact SimAt.stuck
    | true =>
      simp only [if_true]
      rw [← hl1.b _ hl]
      exact SimAt.bindE (sim_setObj (o := .deferred none) (o' := .deferred none) (hl1.dom _ hl) (.defd false)) fun _ _ _ => SimAt.pure fun _ _ h => h

theorem getS_arrL (sl : Tr Value) : ∀ (n k i : Nat) (h : i < (arrL sl k n).length), (arrL sl k n)[i] = getS sl (k + i)
  | 0, k, i, h => absurd h (by simp [arrL])
  | n + 1, k, 0, h => rfl
  | n + 1, k, i + 1, h => by
    simp only [arrL, List.getElem_cons_succ]
    rw [getS_arrL sl n (k + 1) i, show k + 1 + i = k + (i + 1) by omega]
theorem arrL_length (sl : Tr Value) : ∀ (n k : Nat), (arrL sl k n).length = n
  | 0, k => rfl
  | n + 1, k => by simp [arrL, arrL_length sl n]
theorem arrL_AR {sl : Tr Value} {a : Act} (h : SR ρ (getS sl) a) (hN : a.tmps.size = N) : AR ρ ⟨arrL sl 0 N⟩ a.tmps := by
  refine ⟨by simp [arrL_length, hN], fun i hi => ?_⟩
  have hi' : i < (arrL sl 0 N).length := by simpa using hi
  have := h.at' i
  have e : (⟨arrL sl 0 N⟩ : Array Value).getD i undef = getS sl i := by
    have := getS_arrL sl N 0 i hi'
    rw [Nat.zero_add] at this
    simp [Array.getD, hi', this]
  rw [e]
  exact this
theorem evC_sound (hp : POk P w0 sy) (hc : CallS P w0 call) (hrn : RndS P w0 rnd) (hcl : CallL call rnd) {cl : FuncId → Bool} (hcb : ∀ f, cl f = true → callable P f = true) {ro : Option Nat} : ∀ (n : Nat) (c : Code) (s s' : St) (W W' : Tw) (e : Ex) (ρ : Ren) (a : Act) (w : World), RoR ρ ro fr → codeOk c = true → ER w0 N ρ s W a w → evC P (opT P sy) call rnd cl ro N n c s W = some ((e, s'), W') → c.wpIn (FF fr) rm P (EQ w0 N ρ W e s' W') a w := by
  intro n
  induction n using Nat.strongRecOn with
  | _ n0 ihs =>
  cases n0 with
  | zero => intro c s s' W W' e ρ a w hro hk h he; cases he
  | succ n =>
    have ih := ihs n (Nat.lt_succ_self n)
    intro c s s' W W' e ρ a w hro hk h he
    have tr : ∀ {ρ2 : Ren} {s1 : St} {W1 : Tw} {ex : Exit} {a' : Act} {w' : World}, Ext ρ W ρ2 W1 → EQ w0 N ρ2 W1 e s' W' ex a' w' → EQ w0 N ρ W e s' W' ex a' w' := by
      rintro ρ2 s1 W1 ex a' w' x ⟨h1, ρ3, h2, h3⟩
      exact ⟨h1, ρ3, x.trans h2, h3⟩
    cases c with
    | skip => simp only [evC, Option.some.injEq, Prod.mk.injEq] at he; obtain ⟨⟨rfl, rfl⟩, rfl⟩ := he; exact wpIn_skip ⟨trivial, ρ, .refl _ _, h⟩
    | label l => simp only [evC, Option.some.injEq, Prod.mk.injEq] at he; obtain ⟨⟨rfl, rfl⟩, rfl⟩ := he; exact wpIn_label ⟨trivial, ρ, .refl _ _, h⟩
    | ret => simp only [evC, Option.some.injEq, Prod.mk.injEq] at he; obtain ⟨⟨rfl, rfl⟩, rfl⟩ := he; exact wpIn_ret ⟨trivial, ρ, .refl _ _, h⟩
    | exit id => simp only [evC, Option.some.injEq, Prod.mk.injEq] at he; obtain ⟨⟨rfl, rfl⟩, rfl⟩ := he; exact wpIn_exit ⟨rfl, ρ, .refl _ _, h⟩
    | seq x y =>
      simp only [codeOk, Bool.and_eq_true] at hk
      simp only [evC] at he
      obtain ⟨⟨e1, s1⟩, W1, h1, h2⟩ := bind_some he
      refine wpIn_seq (wpIn_mono (ih x s s1 W W1 e1 ρ a w hro hk.1 h h1) ?_)
      rintro ex a' w' ⟨k1, ρ2, k2, k3⟩
      cases e1 with
      | normal =>
        cases ex <;> try exact absurd k1 id
        exact wpIn_mono (ih y s1 s' W1 W' e ρ2 a' w' (hro.le k2.le) hk.2 k3 h2) fun _ _ _ q => tr (s1 := s1) k2 q
      | exit i =>
        simp only [Option.some.injEq, Prod.mk.injEq] at h2
        obtain ⟨⟨rfl, rfl⟩, rfl⟩ := h2
        cases ex <;> first | exact absurd k1 id | exact ⟨k1, ρ2, k2, k3⟩
      | ret =>
        simp only [Option.some.injEq, Prod.mk.injEq] at h2
        obtain ⟨⟨rfl, rfl⟩, rfl⟩ := h2
        cases ex <;> first | exact absurd k1 id | exact ⟨k1, ρ2, k2, k3⟩
    | cond x c1 c2 =>
      simp only [codeOk, Bool.and_eq_true] at hk
      simp only [evC] at he
      have hv : ∀ b, ev (getS s.1) x = .bool b → a.eval x = .bool b := by
        intro b hb
        cases x with
        | tmp t =>
          have := h.sl.at' t
          have hb' : getS s.1 t = .bool b := hb
          rw [hb'] at this
          show a.tmps.getD t undef = .bool b
          generalize a.tmps.getD t undef = z at this
          cases this; rfl
        | const v => exact hb
        | global g => cases hb
        | func f => cases hb
      split at he
      · rename_i hb
        exact wpIn_cond_true (hv _ hb) (ih _ s s' W W' e ρ a w hro hk.1 h he)
      · rename_i hb
        exact wpIn_cond_false (hv _ hb) (ih _ s s' W W' e ρ a w hro hk.2 h he)
      · cases he
    | block id b =>
      simp only [codeOk] at hk
      simp only [evC] at he
      obtain ⟨⟨e1, s1⟩, W1, h1, h2⟩ := bind_some he
      refine wpIn_block (wpIn_mono (ih b s s1 W W1 e1 ρ a w hro hk h h1) ?_)
      rintro ex a' w' ⟨k1, ρ2, k2, k3⟩
      cases e1 with
      | normal =>
        simp only [Option.some.injEq, Prod.mk.injEq] at h2
        obtain ⟨⟨rfl, rfl⟩, rfl⟩ := h2
        cases ex <;> first | exact absurd k1 _root_.id | exact ⟨k1, ρ2, k2, k3⟩
      | exit i =>
        simp only at h2
        cases ex <;> try exact absurd k1 _root_.id
        rename_i j
        have hij : i = j := k1
        subst hij
        by_cases hid : i = id
        · rw [if_pos hid] at h2
          simp only [Option.some.injEq, Prod.mk.injEq] at h2
          obtain ⟨⟨rfl, rfl⟩, rfl⟩ := h2
          simp only [Exit.inBlock, if_pos hid]
          exact ⟨trivial, ρ2, k2, k3⟩
        · rw [if_neg hid] at h2
          simp only [Option.some.injEq, Prod.mk.injEq] at h2
          obtain ⟨⟨rfl, rfl⟩, rfl⟩ := h2
          simp only [Exit.inBlock, if_neg hid]
          exact ⟨rfl, ρ2, k2, k3⟩
      | ret =>
        simp only [Option.some.injEq, Prod.mk.injEq] at h2
        obtain ⟨⟨rfl, rfl⟩, rfl⟩ := h2
        cases ex <;> first | exact absurd k1 _root_.id | exact ⟨k1, ρ2, k2, k3⟩
    | loop b =>
      have hkb : codeOk b = true := hk
      refine wpIn_loop_ghost (fun m a' w' => m ≤ n + 1 ∧ ∃ ρ1 s1 W1, Ext ρ W ρ1 W1 ∧ ER w0 N ρ1 s1 W1 a' w' ∧ evC P (opT P sy) call rnd cl ro N m (.loop b) s1 W1 = some ((e, s'), W')) (n + 1) ⟨Nat.le_refl _, ρ, s, W, .refl _ _, h, he⟩ ?_
      rintro m a1 w1 ⟨hm, ρ1, s1, W1, x1, x2, x3⟩
      cases m with
      | zero => cases x3
      | succ m =>
        simp only [evC] at x3
        obtain ⟨⟨e1, s2⟩, W2, y1, y2⟩ := bind_some x3
        refine wpIn_mono (ihs m (by omega) b s1 s2 W1 W2 e1 ρ1 a1 w1 (hro.le x1.le) hkb x2 y1) ?_
        rintro ex a' w' ⟨k1, ρ2, k2, k3⟩
        cases e1 with
        | normal =>
          cases ex <;> try exact absurd k1 _root_.id
          exact ⟨m, by omega, by omega, ρ2, s2, W2, x1.trans k2, k3, y2⟩
        | exit i =>
          simp only [Option.some.injEq, Prod.mk.injEq] at y2
          obtain ⟨⟨rfl, rfl⟩, rfl⟩ := y2
          cases ex <;> first | exact absurd k1 _root_.id | exact ⟨k1, ρ2, x1.trans k2, k3⟩
        | ret =>
          simp only [Option.some.injEq, Prod.mk.injEq] at y2
          obtain ⟨⟨rfl, rfl⟩, rfl⟩ := y2
          cases ex <;> first | exact absurd k1 _root_.id | exact ⟨k1, ρ2, x1.trans k2, k3⟩
    | region id ops dr =>
      cases dr with
      | true =>
        simp only [codeOk] at hk
        simp only [evC] at he
        split at he
        · rename_i hb
          obtain ⟨⟨s1, ls⟩, W1, h1, h2⟩ := bind_some he
          simp only at h2
          split at h2
          · rename_i hm
            simp only [Option.some.injEq, Prod.mk.injEq] at h2
            obtain ⟨⟨rfl, rfl⟩, rfl⟩ := h2
            exact evD_sound hp hc hrn hcl hk h (Nat.le_of_ble_eq_true hb) h1 hm id
          · cases h2
        · cases he
      | false =>
        simp only [evC] at he
        obtain ⟨s1, W1, h1, h2⟩ := bind_some he
        simp only [Option.some.injEq, Prod.mk.injEq] at h2
        obtain ⟨⟨rfl, rfl⟩, rfl⟩ := h2
        refine wpIn_region ?_
        rw [List.range_eq_range']
        have := evL_sound (fr := fr) (rm := rm) hp.zero hp.size hc hrn (ops := ops) (ms := s.2) (Q := EQ w0 N ρ W .normal (s1, s.2) W1) ops.toList 0 ρ s.1 W a w (fun a' w' ρ2 y1 y2 => ⟨trivial, ρ2, y1, y2⟩) (fun i hi => by simp) h h1
        simpa using this
    | rangeFunc g ps as bd =>
      simp only [codeOk, Bool.and_eq_true] at hk
      simp only [evC] at he
      split at he
      · rename_i gf xs ys hg
        split at he
        · rename_i hcg
          rw [Bool.and_eq_true] at hcg
          obtain ⟨⟨l, mk⟩, W1, h1, h2⟩ := bind_some he
          simp only at h2
          split at h2
          · rename_i mks hmk
            obtain ⟨v, W2, h3, h4⟩ := bind_some h2
            obtain ⟨j, W3, h5, h6⟩ := bind_some h4
            have hgv : VR ρ (.func (.func gf) xs ys) (a.eval g) := by
              rw [← hg]
              exact ev_VR (fun t _ => h.sl.at' t) hcg.2
            refine wpIn_rangeFunc fun fn _ => ?_
            obtain ⟨ρ1, p, w1, g1, g2, g3, g4, ⟨d1, d2, ms, d3, d4⟩, g5, g6⟩ := sim_enterLoop (P := P) (w0 := w0) hro 0 fn (arrL_AR h.sl h.N) ps hk.1 hk.2 ρ W w (l, mk) W1 .rfl' h.W h1
            obtain ⟨l', mk'⟩ := p
            simp only at d1 d2 d3 d4
            subst d2
            have hms : ms = mks := by
              rw [hmk] at d3
              exact (Option.some.inj d3).symm
            subst hms
            have hgv1 := hgv.le g1
            generalize hge : a.eval g = gv at hgv1
            cases hgv1 with
            | func _ hf q1 q2 q3 q4 =>
              rename_i xs' ys'
              refine ⟨ρ1.b l, mk', w1, { target := .fn (.func gf) ys', args := xs' ++ #[.func (.yield (ρ1.b l)) #[] #[]] }, w1, gf, (xs' ++ #[.func (.yield (ρ1.b l)) #[] #[]]) ++ ys', w1, g4, ?_, fun _ _ => trivial, ?_, fun h => (by cases h), ?_⟩
              · unfold resolve
                have he1 : Array.map a.eval #[Operand.const (Value.func (.yield (ρ1.b l)) #[] #[])] = #[Value.func (.yield (ρ1.b l)) #[] #[]] := by simp [Act.eval]
                simp only [hge, he1]
                rfl
              · show (callFunc gf _).run P w1 = _
                have hcl2 := hcb gf hcg.1
                unfold callable at hcl2
                unfold callFunc
                show (Sem.bind _ _).run P w1 = _
                simp only [Go.program, Sem.bind, Sem.run]
                cases hfn : P.funcs[gf]? with
                | none => rw [hfn] at hcl2; cases hcl2
                | some fnn =>
                  rw [hfn] at hcl2
                  simp only [Bool.and_eq_true, Bool.not_eq_true'] at hcl2
                  simp only
                  rw [if_neg (by rw [hcl2.2]; exact Bool.false_ne_true), if_neg (by
                    have := hcl2.1
                    cases hb : fnn.body <;> simp_all)]
                  rfl
              · have hAR : AR ρ1 ⟨xs.toList ++ (.func (.yield l) #[] #[] :: ys.toList)⟩ ((xs' ++ #[.func (.yield (ρ1.b l)) #[] #[]]) ++ ys') := by
                  have e1 : (⟨xs.toList ++ (.func (.yield l) #[] #[] :: ys.toList)⟩ : Array Value) = (xs ++ #[.func (.yield l) #[] #[]]) ++ ys := by
                    apply Array.ext'
                    simp
                  rw [e1]
                  refine AR.append (AR.append ⟨q1, q3⟩ ⟨rfl, fun i hi => ?_⟩) ⟨q2, q4⟩
                  have hi' : i < 1 := hi
                  have hi0 : i = 0 := by omega
                  subst hi0
                  exact .yld l d1
                have h0 := (callsIn_wide (n := rm - 1)).2 (hc ρ1 W1 w1 gf _ _ v W2 g3 hAR h3)
                have h1' : CallsIn (FF fr) (rm - 1) P gf _ w1 _ := h0
                refine CallsIn.mono h1' ?_
                rintro ex w2 ⟨ρ2, y, rfl, z1, z2, z3⟩
                obtain ⟨ρ3, j', w3, t1, t2, t3, t4, rfl, t5, t6⟩ := sim_endLoop (P := P) (w0 := w0) (z1.le.dom _ d1) ρ2 W2 w2 j W3 .rfl' z2 h5
                rw [z1.le.b _ d1] at t4
                have hx : Ext ρ W ρ3 W3 := (⟨g1, g2, g5, g6⟩ : Ext ρ W ρ1 W1).trans (z1.trans ⟨t1, t2, t5, t6⟩)
                have hE : ER w0 N ρ3 (s.1, ms ++ s.2) W3 { a with defers := mk' ++ a.defers } w3 := by
                  refine ⟨t3, ⟨fun t => (h.sl.at' t).le hx.le⟩, ?_, h.N⟩
                  have m1 := (d4.le z1.le).le t1
                  have m2 := h.df.le hx.le
                  refine ⟨?_, fun D hD => ?_⟩
                  · show mk' ++ a.defers = _
                    rw [List.map_append, ← m1.eq, ← m2.eq]
                  · rcases List.mem_append.1 hD with hD | hD
                    · exact m1.dom D hD
                    · exact m2.dom D hD
                refine ⟨j, w3, t4, ?_⟩
                cases j with
                | none =>
                  simp only [Option.some.injEq, Prod.mk.injEq] at h6
                  obtain ⟨⟨rfl, rfl⟩, rfl⟩ := h6
                  exact ⟨trivial, ρ3, hx, hE⟩
                | some cc =>
                  cases cc with
                  | exit id =>
                    simp only [Option.some.injEq, Prod.mk.injEq] at h6
                    obtain ⟨⟨rfl, rfl⟩, rfl⟩ := h6
                    exact wpIn_exit ⟨rfl, ρ3, hx, hE⟩
                  | ret =>
                    simp only [Option.some.injEq, Prod.mk.injEq] at h6
                    obtain ⟨⟨rfl, rfl⟩, rfl⟩ := h6
                    exact wpIn_ret ⟨trivial, ρ3, hx, hE⟩
                  | _ => cases h6
          · cases h2
        · cases he
      · cases he
    | _ => simp only [evC] at he; cases he
end
end Mir

