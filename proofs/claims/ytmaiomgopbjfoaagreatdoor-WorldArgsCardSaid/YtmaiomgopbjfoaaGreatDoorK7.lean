import Derived.Test.YtmaiomgopbjfoaaGreatDoorK6
set_option linter.all false
namespace Mir
open Go

/-! ## The evaluator, quickly -/
noncomputable def opQT (P : Program) (sy : SyT) (tb : Tb) (f : Nat → Value) (o : Oper) (W : Tw) : Option (Next × Tw) := match opQ tb f o W with
  | some r => some r
  | none => match opT P sy f o W with
    | some (.value v, W') => fV 7 v fun v => some (.value v, W')
    | r => r
theorem opQT_eq {P : Program} {sy : SyT} {tb : Tb} (htb : TbOk P tb) : opQT P sy tb = opT P sy := by
  funext f o W
  unfold opQT
  cases h : opQ tb f o W with
  | none =>
    simp only [fV_eq]
    split
    · rename_i h2; rw [h2]
    · rfl
  | some r => exact (opQ_eq htb h).symm
noncomputable def resQL (tb : Tb) (sl : Nat → Value) : List ResultVar → Tw → Option (List Value × Tw)
  | [], W => some ([], W)
  | .tmp t :: r, W => (resQL tb sl r W).bind fun p => some (sl t :: p.1, p.2)
  | .cell a t :: r, W => match sl a with
    | .pointer (some ad) => match tb.ty.get t with
      | some ti => (loadR ti.ag ti.sz ad W).bind fun p => (resQL tb sl r p.2).bind fun q => some (p.1 :: q.1, q.2)
      | none => none
    | _ => none
noncomputable def resQ (P : Program) (tb : Tb) (fn : Func) (sl : Nat → Value) (W : Tw) : Option (Value × Tw) := match resQL tb sl fn.results.toList W with
  | some ([v], W') => some (v, W')
  | some (vs, W') => some (.tuple ⟨vs⟩, W')
  | none => runT P (resT fn sl) W
noncomputable def resF (sl : Nat → Value) : ResultVar → Sem Value
  | .tmp t => pure (sl t)
  | .cell a t => do loadVar t (← asAddr (sl a))
theorem resT_eq (fn : Func) (sl : Nat → Value) : resT fn sl = (do
    let vs ← fn.results.mapM (resF sl)
    pure (if h : vs.size = 1 then vs[0] else .tuple vs)) := by
  unfold resT
  congr 1
theorem resQL_eq {P : Program} {tb : Tb} (htb : TbOk P tb) {sl : Nat → Value} : ∀ (l : List ResultVar) (W : Tw) (r : List Value × Tw), resQL tb sl l W = some r →
    runT P (l.mapM (resF sl)) W = some r
  | [], W, r, h => by
    simp only [resQL] at h
    simp only [List.mapM_nil, rt_pure]
    exact h
  | .tmp t :: l, W, r, h => by
    unfold resQL at h
    obtain ⟨vs, W1, h1, h2⟩ := bind_some h
    cases h2
    simp only [List.mapM_cons]
    show runT P (Sem.bind (Pure.pure (sl t)) _) W = _
    rw [runT_bind, rt_pure, Option.bind_some, rt_bind, resQL_eq htb l W _ h1]
    rfl
  | .cell a t :: l, W, r, h => by
    unfold resQL at h
    split at h
    · rename_i ad ha
      split at h
      · rename_i ti ht
        obtain ⟨v, W1, h1, h2⟩ := bind_some h
        obtain ⟨vs, W2, h3, h4⟩ := bind_some h2
        cases h4
        simp only [List.mapM_cons]
        have e : runT P (resF sl (.cell a t)) W = some (v, W1) := by
          show runT P (do loadVar t (← asAddr (sl a)) : Sem Value) W = _
          rw [ha, rt_bind]
          show (runT P (Pure.pure ad) W).bind _ = _
          rw [rt_pure, Option.bind_some]
          exact loadQ_eq htb ht (loadR_eq h1)
        rw [rt_bind, e, Option.bind_some, rt_bind, resQL_eq htb l W1 _ h3]
        rfl
      · cases h
    · cases h
theorem resQ_eq {P : Program} {tb : Tb} (htb : TbOk P tb) {fn : Func} {sl : Nat → Value} {W : Tw} {r : Value × Tw} (h : resQ P tb fn sl W = some r) : runT P (resT fn sl) W = some r := by
  have key : ∀ vs W', resQL tb sl fn.results.toList W = some (vs, W') → runT P (resT fn sl) W = some ((if h : vs.length = 1 then vs[0] else .tuple ⟨vs⟩), W') := by
    intro vs W' hq
    rw [resT_eq, rt_bind, Array.mapM_eq_mapM_toList, map_eq_pure_bind, rt_bind, resQL_eq htb _ _ _ hq, Option.bind_some, rt_pure, Option.bind_some, rt_pure]
    simp only [List.size_toArray, List.getElem_toArray]
  unfold resQ at h
  split at h
  · rename_i v W' hq
    rw [key _ _ hq]
    cases h
    rfl
  · rename_i vs W' hn hq
    rw [key _ _ hq]
    cases h
    congr 1
    congr 1
    rw [dif_neg]
    intro h1
    obtain ⟨v, rfl⟩ := List.length_eq_one_iff.1 h1
    exact hn v rfl
  · exact h
noncomputable def clQ (tb : Tb) (f : FuncId) : Bool := (tb.fn.get f).isSome
noncomputable def callQ (P : Program) (sy : SyT) (tb : Tb) (L : Nat) (ih : CallT × RndT) : CallT := fun f args W => match tb.fn.get f with
    | some fn => match fn.body with
      | some c => if Nat.ble args.size fn.ntmps && Nat.blt fn.ntmps 1073741824 then
          (evC P (opQT P sy tb) ih.1 ih.2 (clQ tb) none fn.ntmps L c (putL args.toList 0 .lf, []) W).bind fun p => match p with
            | ((.normal, (sl, ms)), W') => (takeA P ms W').bind fun q => resQ P tb fn (getS sl) q.2
            | ((.ret, (sl, ms)), W') => (takeA P ms W').bind fun q => resQ P tb fn (getS sl) q.2
            | _ => none
        else none
      | none => none
    | none => none
noncomputable def evFRq (P : Program) (sy : SyT) (tb : Tb) (L : Nat) (n : Nat) : CallT × RndT :=
  Nat.rec (motive := fun _ => CallT × RndT) (fun _ _ _ => none, fun _ _ _ _ _ => none) (fun _ ih => (knT sy.kn (callQ P sy tb L ih), evR P (opQT P sy tb) ih.1 ih.2 (clQ tb) L)) n
noncomputable def evFq (P : Program) (sy : SyT) (tb : Tb) (L n : Nat) : CallT := (evFRq P sy tb L n).1

/-! ### It leads to the same place -/
noncomputable def Le {α : Type} (F G : Tw → Option (α × Tw)) : Prop := ∀ W r, F W = some r → G W = some r
noncomputable def CallLe (c d : CallT) : Prop := ∀ f args, Le (c f args) (d f args)
noncomputable def RndLe (c d : RndT) : Prop := ∀ l ts as bd, Le (c l ts as bd) (d l ts as bd)
section
variable {P : Program} {op : OpF} {c d : CallT} {e f : RndT}
theorem opV_le (h : CallLe c d) (h' : RndLe e f) (ops : Array Oper) (o : Oper) (g : Nat → Value) : Le (opV op c e ops o g) (opV op d f ops o g) := by
  intro W r hr
  unfold opV at hr ⊢
  split at hr
  · obtain ⟨n, W1, h1, h2⟩ := bind_some hr
    rw [h1, Option.bind_some]
    unfold finT at h2 ⊢
    split at h2
    · exact h2
    · exact h2
    · exact h _ _ _ _ h2
    · exact h' _ _ _ _ _ _ h2
    · cases h2
  · exact hr
  · cases hr
theorem subT_le {α : Type} {F G : Tw → Option (α × Tw)} (h : Le F G) : Le (subT F) (subT G) := by
  intro W r hr
  rw [subT_eq] at hr ⊢
  cases hf : F { W with rd := [], wr := [] } with
  | none => rw [hf] at hr; cases hr
  | some p => rw [hf] at hr; rw [h _ _ hf]; exact hr
theorem evL_le (h : CallLe c d) (h' : RndLe e f) (N : Nat) (ops : Array Oper) : ∀ (l : List Oper) (sl : Tr Value), Le (evL op c e N ops l sl) (evL op d f N ops l sl)
  | [], sl => fun W r hr => hr
  | o :: l, sl => fun W r hr => by
    simp only [evL] at hr ⊢
    obtain ⟨v, W1, h1, h2⟩ := bind_some hr
    rw [opV_le h h' ops o _ _ _ h1, Option.bind_some]
    simp only [forV_eq] at h2 ⊢
    cases hp : putS N o.dst v sl with
    | none => rw [hp] at h2; cases h2
    | some sl' => rw [hp] at h2; exact evL_le h h' N ops l sl' _ _ h2
theorem evD_le (h : CallLe c d) (h' : RndLe e f) (N : Nat) (ops : Array Oper) : ∀ (l : List Oper) (sl : Tr Value), Le (evD op c e N ops l sl) (evD op d f N ops l sl)
  | [], sl => fun W r hr => hr
  | o :: l, sl => fun W r hr => by
    simp only [evD] at hr ⊢
    obtain ⟨⟨v, lg⟩, W1, h1, h2⟩ := bind_some hr
    rw [subT_le (opV_le h h' ops o _) _ _ h1, Option.bind_some]
    simp only [forV_eq] at h2 ⊢
    cases hp : putS N o.dst v sl with
    | none => rw [hp] at h2; cases h2
    | some sl' =>
      rw [hp] at h2
      obtain ⟨q, W2, h3, h4⟩ := bind_some h2
      simp only
      rw [evD_le h h' N ops l sl' _ _ h3, Option.bind_some]
      exact h4
theorem evC_le (h : CallLe c d) (h' : RndLe e f) {cl cl' : FuncId → Bool} (hcl : ∀ g, cl g = true → cl' g = true) (ro : Option Nat) (N : Nat) : ∀ (n : Nat) (x : Code) (s : St), Le (evC P op c e cl ro N n x s) (evC P op d f cl' ro N n x s) := by
  intro n
  induction n with
  | zero => intro x s W r hr; cases hr
  | succ n ih =>
    intro x s W r hr
    cases x with
    | seq a b =>
      simp only [evC] at hr ⊢
      obtain ⟨⟨e, s⟩, W1, h1, h2⟩ := bind_some hr
      rw [ih a _ _ _ h1, Option.bind_some]
      cases e with
      | normal => exact ih b s _ _ h2
      | exit i => exact h2
      | ret => exact h2
    | cond y a b =>
      simp only [evC] at hr ⊢
      split at hr
      · exact ih _ _ _ _ hr
      · exact ih _ _ _ _ hr
      · cases hr
    | block id b =>
      simp only [evC] at hr ⊢
      obtain ⟨⟨e, s⟩, W1, h1, h2⟩ := bind_some hr
      rw [ih b _ _ _ h1, Option.bind_some]
      exact h2
    | loop b =>
      simp only [evC] at hr ⊢
      obtain ⟨⟨e, s⟩, W1, h1, h2⟩ := bind_some hr
      rw [ih b _ _ _ h1, Option.bind_some]
      cases e with
      | normal => exact ih _ s _ _ h2
      | exit i => exact h2
      | ret => exact h2
    | region id ops dr =>
      cases dr with
      | false =>
        simp only [evC] at hr ⊢
        obtain ⟨s, W1, h1, h2⟩ := bind_some hr
        rw [evL_le h h' N ops _ _ _ _ h1]
        exact h2
      | true =>
        simp only [evC] at hr ⊢
        split at hr
        · rename_i hb
          obtain ⟨s, W1, h1, h2⟩ := bind_some hr
          rw [if_pos hb, evD_le h h' N ops _ _ _ _ h1]
          exact h2
        · cases hr
    | rangeFunc g ps as bd =>
      simp only [evC] at hr ⊢
      split at hr
      · rename_i gf xs ys hg
        split at hr
        · rename_i hc
          rw [Bool.and_eq_true] at hc
          rw [if_pos (by rw [Bool.and_eq_true]; exact ⟨hcl _ hc.1, hc.2⟩)]
          obtain ⟨⟨l, mk⟩, W1, h1, h2⟩ := bind_some hr
          rw [h1, Option.bind_some]
          simp only at h2 ⊢
          split at h2
          · obtain ⟨v, W2, h3, h4⟩ := bind_some h2
            rw [h _ _ _ _ h3, Option.bind_some]
            exact h4
          · cases h2
        · cases hr
      · cases hr
    | _ => exact hr
theorem evR_le (h : CallLe c d) (h' : RndLe e f) {cl cl' : FuncId → Bool} (hcl : ∀ g, cl g = true → cl' g = true) (L : Nat) : RndLe (evR P op c e cl L) (evR P op d f cl' L) := by
  intro l ts as bd W r hr
  unfold evR at hr ⊢
  split at hr
  · rename_i hs
    rw [if_pos hs]
    obtain ⟨⟨x1, s1⟩, W1, h1, h2⟩ := bind_some hr
    rw [evC_le h h' hcl _ _ L as _ _ _ h1, Option.bind_some]
    simp only at h2 ⊢
    split at h2
    · obtain ⟨u, W2, h3, h4⟩ := bind_some h2
      rw [h3, Option.bind_some]
      obtain ⟨⟨x2, s2⟩, W3, h5, h6⟩ := bind_some h4
      rw [evC_le h h' hcl _ _ L bd _ _ _ h5, Option.bind_some]
      exact h6
    · cases h2
  · cases hr
end
theorem clQ_ok {P : Program} {tb : Tb} (htb : TbOk P tb) (f : FuncId) (h : clQ tb f = true) : callable P f = true := by
  unfold clQ at h
  cases hf : tb.fn.get f with
  | none => rw [hf] at h; cases h
  | some fn =>
    obtain ⟨h1, h2⟩ := htb.fn f fn hf
    unfold callable
    rw [h1]
    unfold okF at h2
    exact h2
theorem evFRq_le {P : Program} {sy : SyT} {tb : Tb} (htb : TbOk P tb) (L : Nat) : ∀ n, CallLe (evFRq P sy tb L n).1 (evFR P sy L n).1 ∧ RndLe (evFRq P sy tb L n).2 (evFR P sy L n).2 := by
  intro n
  induction n with
  | zero => exact ⟨fun f args W r hr => (by cases hr), fun l ts as bd W r hr => (by cases hr)⟩
  | succ n ih =>
    refine ⟨?_, ?_⟩
    · intro f args W r hr
      have hr0 : knT sy.kn (callQ P sy tb L (evFRq P sy tb L n)) f args W = some r := hr
      clear hr
      show knT sy.kn (callB P sy L (evFR P sy L n).1 (evFR P sy L n).2) f args W = some r
      have key : ∀ args, callQ P sy tb L (evFRq P sy tb L n) f args W = some r → callB P sy L (evFR P sy L n).1 (evFR P sy L n).2 f args W = some r := by
        intro args hr'
        unfold callB
        unfold callQ at hr'
        split at hr'
        · rename_i fn hf
          split at hr'
          · rename_i c hb
            split at hr'
            · rename_i hc
              obtain ⟨h1, h2⟩ := htb.fn f fn hf
              rw [opQT_eq htb] at hr'
              obtain ⟨⟨e, s⟩, W1, k1, k2⟩ := bind_some hr'
              simp only [h1, hb]
              rw [if_pos hc, evC_le ih.1 ih.2 (clQ_ok htb) none fn.ntmps L c _ _ _ k1, Option.bind_some]
              obtain ⟨sl, ms⟩ := s
              cases e with
              | normal =>
                simp only at k2 ⊢
                obtain ⟨u, W2, m1, m2⟩ := bind_some k2
                rw [m1, Option.bind_some]
                exact resQ_eq htb m2
              | ret =>
                simp only at k2 ⊢
                obtain ⟨u, W2, m1, m2⟩ := bind_some k2
                rw [m1, Option.bind_some]
                exact resQ_eq htb m2
              | exit i => cases k2
            · cases hr'
          · cases hr'
        · cases hr'
      unfold knT at hr0 ⊢
      split at hr0
      · exact hr0
      · exact key _ hr0
    · have := evR_le (P := P) (op := opT P sy) ih.1 ih.2 (clQ_ok htb) L
      show RndLe (evR P (opQT P sy tb) (evFRq P sy tb L n).1 (evFRq P sy tb L n).2 (clQ tb) L) _
      rw [opQT_eq htb]
      exact this
theorem evFq_sound {P : Program} {sy : SyT} {w0 : Bs} (hp : POk P w0 sy) {tb : Tb} (htb : TbOk P tb) (L n : Nat) : CallS P w0 (evFq P sy tb L n) :=
  fun ρ W w f args args' r W' hW hA h => evF_sound hp L n ρ W w f args args' r W' hW hA ((evFRq_le htb L n).1 f args W _ h)

/-! ### Tables, checked once -/
noncomputable def Tr.pairs {α : Type} : Tr α → Nat → Nat → List (Nat × α)
  | .lf, _, _ => []
  | .nd v l r, a, b => (match v with
    | some x => [(a, x)]
    | none => []) ++ (Tr.pairs l (a + b) (2 * b) ++ Tr.pairs r (a + 2 * b) (2 * b))
theorem Tr.mem_pairs {α : Type} : ∀ (t : Tr α) (n : Nat) (v : α) (a b : Nat), t.get n = some v → (a + b * n, v) ∈ Tr.pairs t a b
  | .lf, n, v, a, b, h => by cases h
  | .nd x l r, n, v, a, b, h => by
    unfold Tr.pairs
    cases n with
    | zero =>
      simp only [Tr.get_zero, Tr.get_succ] at h
      rw [h]
      simp
    | succ m =>
      simp only [Tr.get_zero, Tr.get_succ] at h
      rw [List.mem_append, List.mem_append]
      right
      split at h
      · rename_i h0
        left
        have := Tr.mem_pairs l (m / 2) v (a + b) (2 * b) h
        have e : a + b + 2 * b * (m / 2) = a + b * (m + 1) := by
          have : m = 2 * (m / 2) := by omega
          rw [Nat.mul_add, Nat.mul_one]
          conv => rhs; rw [this]
          rw [show b * (2 * (m / 2)) = 2 * b * (m / 2) by rw [Nat.mul_comm 2 b, Nat.mul_assoc]]
          omega
        rw [e] at this
        exact this
      · rename_i h0
        right
        have := Tr.mem_pairs r (m / 2) v (a + 2 * b) (2 * b) h
        have e : a + 2 * b + 2 * b * (m / 2) = a + b * (m + 1) := by
          have : m = 2 * (m / 2) + 1 := by omega
          rw [Nat.mul_add, Nat.mul_one]
          conv => rhs; rw [this]
          rw [Nat.mul_add, Nat.mul_one, show b * (2 * (m / 2)) = 2 * b * (m / 2) by rw [Nat.mul_comm 2 b, Nat.mul_assoc]]
          omega
        rw [e] at this
        exact this
theorem Tr.ok {α : Type} {t : Tr α} {f : Nat → Option α} (h : (Tr.pairs t 0 1).map (fun p => f p.1) = (Tr.pairs t 0 1).map (fun p => some p.2)) : ∀ n v, t.get n = some v → f n = some v := by
  intro n v hv
  have hm := Tr.mem_pairs t n v 0 1 hv
  rw [Nat.zero_add, Nat.one_mul] at hm
  have key : ∀ (l : List (Nat × α)), l.map (fun p => f p.1) = l.map (fun p => some p.2) → ∀ p ∈ l, f p.1 = some p.2 := by
    intro l
    induction l with
    | nil => intro _ p hp; cases hp
    | cons q l ih =>
      intro h p hp
      simp only [List.map_cons, List.cons.injEq] at h
      rcases List.mem_cons.1 hp with hp | hp
      · rw [hp]; exact h.1
      · exact ih h.2 p hp
  exact key _ h _ hm
theorem Tr.okB {α : Type} {t : Tr α} {f : α → Bool} (h : (Tr.pairs t 0 1).all (fun p => f p.2) = true) : ∀ (n : Nat) v, t.get n = some v → f v = true := by
  intro n v hv
  have hm := Tr.mem_pairs t n v 0 1 hv
  rw [List.all_eq_true] at h
  exact h _ hm
end Mir

