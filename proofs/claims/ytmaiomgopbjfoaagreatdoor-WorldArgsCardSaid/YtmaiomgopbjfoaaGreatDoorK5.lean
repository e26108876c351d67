import Derived.Test.YtmaiomgopbjfoaaGreatDoorK4
set_option linter.all false
namespace Mir
open Go

/-! ## Functions are sound -/
theorem get_putL : ∀ (l : List Value) (k : Nat) (t : Tr Value), k + l.length ≤ 2 ^ 30 → ∀ i, (putL l k t).get i = if k ≤ i ∧ i < k + l.length then l[i - k]? else t.get i
  | [], k, t, _, i => by
    have : ¬ (k ≤ i ∧ i < k + ([] : List Value).length) := by simp only [List.length_nil]; omega
    rw [if_neg this]; rfl
  | v :: r, k, t, h, i => by
    simp only [List.length_cons] at h
    unfold putL
    rw [fT_eq, get_putL r (k + 1) _ (by omega), Tr.get_put _ 30 _ _ (by omega)]
    by_cases h1 : k + 1 ≤ i ∧ i < k + 1 + r.length
    · rw [if_pos h1, if_pos (by simp only [List.length_cons]; omega)]
      rw [show i - k = (i - (k + 1)) + 1 by omega, List.getElem?_cons_succ]
    · rw [if_neg h1]
      by_cases h2 : i = k
      · subst h2
        rw [if_pos rfl, if_pos (by simp only [List.length_cons]; omega)]
        simp
      · rw [if_neg h2, if_neg (by simp only [List.length_cons]; omega)]
section
variable {P : Program} {sy : SyT} {w0 : Bs} {ρ : Ren}
theorem sim_asAddr {x y : Value} (h : VR ρ x y) : SimAt P w0 AdR ρ (asAddr x) (asAddr y) := by
  cases h with
  | ptr a h => exact SimAt.pureP h
  | ptr0 => exact SimAt.fail fun W => runtimePanic_none (e := .nilDeref) W
  | _ => exact SimAt.stuck
noncomputable def LV (ρ : Ren) (xs ys : List Value) : Prop := AR ρ xs.toArray ys.toArray
theorem LV.cons {x y : Value} {xs ys : List Value} (h : VR ρ x y) (t : LV ρ xs ys) : LV ρ (x :: xs) (y :: ys) := by
  have hs : xs.length = ys.length := by have := t.size; simpa using this
  refine ⟨by simp [hs], fun i hi => ?_⟩
  cases i with
  | zero => simpa [Array.getD] using h
  | succ i =>
    have hi' : i < xs.length := by simpa using hi
    have := t.at' i (by simpa using hi')
    have hj : i < ys.length := by omega
    simpa [Array.getD, hi', hj] using this
theorem sim_mapMV {A : Type} {f g : A → Sem Value} (h : ∀ ρ' x, ρ.le ρ' → SimAt P w0 VR ρ' (f x) (g x)) : ∀ (l : List A), SimAt P w0 LV ρ (l.mapM f) (l.mapM g) := by
  intro l
  induction l generalizing ρ with
  | nil =>
    simp only [List.mapM_nil]
    exact SimAt.pure fun _ _ => ⟨rfl, fun i hi => absurd hi (by simp)⟩
  | cons x l ih =>
    simp only [List.mapM_cons]
    exact SimAt.bindV (h ρ x .rfl') fun ρ1 y y' hl hy => SimAt.bind (ih fun ρ2 z hl2 => h ρ2 z (hl.trans hl2)) fun ρ2 ys ys' hl2 hys => SimAt.pure fun ρ3 hl3 => LV.cons ((hy.le hl2).le hl3) (AR.le hl3 hys)
theorem sim_results (fn : Func) {sl : Nat → Value} {a : Act} (h : SR ρ sl a) : SimAt P w0 VR ρ (resT fn sl) (results fn a.tmps) := by
  unfold resT results
  refine SimAt.bindA ?_ fun ρ1 xs ys hl hx => ?_
  · rw [Array.mapM_eq_mapM_toList, Array.mapM_eq_mapM_toList, map_eq_pure_bind, map_eq_pure_bind]
    refine SimAt.bind (R := LV) (sim_mapMV (fun ρ' x hl => ?_) _) fun ρ' xs ys hl hx => SimAt.pureA hx
    cases x with
    | tmp t => exact SimAt.pureV ((h.at' t).le hl)
    | cell b t => exact SimAt.bindP (sim_asAddr ((h.at' b).le hl)) fun _ _ _ hd => sim_loadVar t hd
  · refine SimAt.pureV ?_
    have hs := hx.size
    by_cases h1 : xs.size = 1
    · rw [dif_pos h1, dif_pos (by omega)]
      have := hx.at' 0 (by omega)
      simpa [Array.getD, h1, hs ▸ h1] using this
    · rw [dif_neg h1, dif_neg (by omega)]
      exact .tuple hx.size hx.at'

/-- A term that leaves the world as it is. -/
noncomputable def RO (P : Program) {α : Type} (s : Sem α) : Prop := ∀ w b w', s.run P w = .ok b w' → w' = w
theorem RO.bind {α β : Type} {s : Sem α} {f : α → Sem β} (h : RO P s) (hf : ∀ a, RO P (f a)) : RO P (s >>= f) := by
  intro w b w' hr
  have e : (s.bind f).run P w = .ok b w' := hr
  rw [run_bind] at e
  cases hs : s.run P w with
  | ok a w1 =>
    rw [hs] at e
    have := h w a w1 hs
    subst this
    exact hf a _ _ _ e
  | halt x y => rw [hs] at e; cases e
theorem RO.pure {α : Type} (a : α) : RO P (Pure.pure a : Sem α) := by
  intro w b w' hr
  simp only [Pure.pure, Sem.run, Result.ok.injEq] at hr
  exact hr.2.symm
theorem RO.halt {α : Type} (e : Halt) : RO P (.halt e : Sem α) := by
  intro w b w' hr
  simp [Sem.run] at hr
theorem RO.prog {α : Type} {f : Program → Sem α} (h : RO P (f P)) : RO P (Go.program >>= f) := fun w b w' hr => h w b w' hr
theorem RO.load (a : Addr) : RO P (Go.load a) := by
  intro w b w' hr
  simp only [Go.load, Sem.run] at hr
  split at hr
  · simp only [Result.ok.injEq] at hr; exact hr.2.symm
  · split at hr
    · simp only [Result.ok.injEq] at hr; exact hr.2.symm
    · cases hr
theorem RO.cells (a : Addr) : ∀ (n i : Nat) (xs : Array Value), RO P (loadCellsFrom a i n xs)
  | 0, _, _ => RO.pure _
  | n + 1, i, xs => RO.bind (RO.load _) fun v => RO.cells a n (i + 1) _
theorem RO.typeInfo (t : TypeId) : RO P (Go.typeInfo t) := RO.prog (by cases P.info? t <;> first | exact RO.pure _ | exact RO.halt _)
theorem RO.underlying (t : TypeId) : RO P (Go.underlying t) := RO.prog (by cases P.underlying t <;> first | exact RO.pure _ | exact RO.halt _)
theorem RO.loadVar (t : TypeId) (a : Addr) : RO P (Go.loadVar t a) := by
  refine RO.bind (RO.bind (RO.underlying t) fun d => by cases d <;> exact RO.pure _) fun b => ?_
  cases b with
  | false => exact RO.load _
  | true => exact RO.bind (RO.bind (RO.typeInfo t) fun _ => RO.pure _) fun n => RO.bind (RO.cells a n 0 _) fun _ => RO.pure _
theorem RO.mapM {A B : Type} {f : A → Sem B} (h : ∀ x, RO P (f x)) : ∀ l : List A, RO P (l.mapM f) := by
  intro l
  induction l with
  | nil => simp only [List.mapM_nil]; exact RO.pure _
  | cons x l ih => simp only [List.mapM_cons]; exact RO.bind (h x) fun _ => RO.bind ih fun _ => RO.pure _
theorem RO.asAddr (v : Value) : RO P (Go.asAddr v) := by
  cases v with
  | pointer a =>
    cases a with
    | some a => exact RO.pure _
    | none => exact RO.prog (RO.halt _)
  | _ => exact RO.halt _
theorem RO.results (fn : Func) (tmps : Array Value) : RO P (Go.results fn tmps) := by
  unfold Go.results
  refine RO.bind ?_ fun vs => RO.pure _
  rw [Array.mapM_eq_mapM_toList, map_eq_pure_bind]
  refine RO.bind (RO.mapM (fun x => ?_) _) fun _ => RO.pure _
  cases x with
  | tmp t => exact RO.pure _
  | cell b t => exact RO.bind (RO.asAddr _) fun a => RO.loadVar t a

theorem putL_ER {ρ : Ren} {W : Tw} {w : World} (hW : WR w0 ρ W w) {args args' : Array Value} (hA : AR ρ args args') {N : Nat} (h1 : args.size ≤ N) (h2 : N < 1073741824) :
    ER w0 N ρ (putL args.toList 0 .lf, []) W { tmps := args' ++ Array.replicate (N - args'.size) undef, defers := [] } w := by
  refine ⟨hW, ⟨fun t => ?_⟩, ⟨rfl, fun D hD => by cases hD⟩, ?_⟩
  · simp only [getS]
    rw [get_putL _ _ _ (by simp; omega), Array.getD_eq_getD_getElem?]
    by_cases ht : t < args.size
    · have ht' : t < args'.size := by rw [← hA.size]; exact ht
      have := hA.at' t ht
      rw [Array.getElem?_append_left ht', if_pos (by simp; exact ht)]
      simpa [Array.getD, ht, ht'] using this
    · rw [if_neg (by simp; omega)]
      have : (args' ++ Array.replicate (N - args'.size) undef)[t]?.getD undef = undef := by
        rw [Array.getElem?_append_right (by rw [← hA.size]; omega), Array.getElem?_replicate]
        split <;> rfl
      rw [this, Tr.get_lf]
      exact VR_undef
  · have := hA.size
    simp; omega
theorem evR_sound (hp : POk P w0 sy) {call : CallT} {rnd : RndT} (hc : CallS P w0 call) (hrn : RndS P w0 rnd) (hcl : CallL call rnd) {cl : FuncId → Bool} (hcb : ∀ f, cl f = true → callable P f = true) (L : Nat) : RndS P w0 (evR P (opT P sy) call rnd cl L) := by
  intro ρ W w l fn ts ts' as bd r W' n hW hd hT ha hb h
  unfold evR at h
  split at h
  · rename_i hsz
    rw [Nat.blt_eq] at hsz
    obtain ⟨⟨e1, s1⟩, W1, h1, h2⟩ := bind_some h
    have hE : ER w0 ts.size ρ (putL ts.toList 0 .lf, []) W { tmps := ts', defers := [] } w := by
      have := putL_ER hW hT (N := ts.size) (Nat.le_refl _) hsz
      rw [hT.size, Nat.sub_self] at this
      simpa [hT.size] using this
    refine roundIn_of_wpIn trivial ?_
    refine wpIn_mono (evC_sound (fr := some (ρ.b l)) (rm := n) hp hc hrn hcl hcb (ro := some l) L as _ _ W W1 e1 ρ _ w ⟨hd, rfl⟩ ha hE h1) ?_
    rintro ex a' w' ⟨k1, ρ2, k2, k3⟩
    simp only at h2
    split at h2
    · rename_i s2 heq
      cases heq
      cases ex <;> try exact absurd k1 id
      obtain ⟨u, W2, h3, h4⟩ := bind_some h2
      obtain ⟨⟨e2, s3⟩, W3, h5, h6⟩ := bind_some h4
      obtain ⟨ρ3, u', w2, g1, g2, g3, g4, g5, g6, g7⟩ := sim_beginRound (P := P) (w0 := w0) (k2.le.dom _ hd) ρ2 W1 w' u W2 .rfl' k3.W h3
      rw [k2.le.b _ hd] at g4
      refine ⟨w2, g4, ?_⟩
      have x3 : Ext ρ W ρ3 W2 := k2.trans ⟨g1, g2, g6, g7⟩
      have hE2 : ER w0 ts.size ρ3 (s2, []) W2 a' w2 := ⟨g3, ⟨fun t => (k3.sl.at' t).le g1⟩, k3.df.le g1, k3.N⟩
      refine wpIn_mono (evC_sound (fr := some (ρ.b l)) (rm := n) hp hc hrn hcl hcb (ro := some l) L bd _ _ W2 W3 e2 ρ3 _ w2 ⟨x3.le.dom _ hd, by rw [x3.le.b _ hd]⟩ hb hE2 h5) ?_
      rintro ex2 a2 w3 ⟨m1, ρ4, m2, m3⟩
      simp only at h6
      split at h6
      · rename_i s4 heq
        cases heq
        have x4 : Ext ρ W ρ4 W3 := x3.trans m2
        have fin : ∀ j : Option Code, runT P (Instr.endRound l j) W3 = some (r, W') → ∃ v w4, (Instr.endRound (ρ.b l) j).run P w3 = .ok v w4 ∧ ∃ ρ2 y, Ending.returned v = .returned y ∧ Ext ρ W ρ2 W' ∧ WR w0 ρ2 W' w4 ∧ VR ρ2 r y := by
          intro j hj
          obtain ⟨ρ5, y, w4, t1, t2, t3, t4, t5, t6, t7⟩ := sim_endRound (P := P) (w0 := w0) (x4.le.dom _ hd) j ρ4 W3 w3 r W' .rfl' m3.W hj
          rw [x4.le.b _ hd] at t4
          exact ⟨y, w4, t4, ρ5, y, rfl, x4.trans ⟨t1, t2, t6, t7⟩, t3, t5⟩
        cases e2 with
        | normal =>
          cases ex2 <;> try exact absurd m1 id
          exact fin none h6
        | ret =>
          cases ex2 <;> try exact absurd m1 id
          exact fin (some .ret) h6
        | exit i =>
          cases ex2 <;> try exact absurd m1 id
          cases m1
          exact fin (some (.exit _)) h6
      · cases h6
    · cases h2
  · cases h
theorem takeA_sound {fn : Func} {tmps : Array Value} {R : Ending → World → Prop} {n : Nat} : ∀ (ms : List Nat) (ρ : Ren) (ds : List Deferred) (W W' : Tw) (w : World) (u : Unit), MkR ρ ms ds → WR w0 ρ W w → takeA P ms W = some (u, W') →
    (∀ (ρ2 : Ren) (w2 : World), Ext ρ W ρ2 W' → WR w0 ρ2 W' w2 → ∃ v, (results fn tmps).run P w2 = .ok v w2 ∧ R (.returned v) w2) → LeavesInM Fence.wide n P fn tmps R ds .returning w
  | [], ρ, ds, W, W', w, u, hm, hW, h, hf => by
    have e : ds = [] := hm.eq
    subst e
    cases h
    exact hf ρ w (Ext.refl _ _) hW
  | d :: r, ρ, ds, W, W', w, u, hm, hW, h, hf => by
    have e := hm.eq
    simp only [List.map_cons] at e
    subst e
    unfold takeA at h
    obtain ⟨l, W1, h1, h2⟩ := bind_some h
    have hd : ρ.dom d := hm.dom d (by simp)
    obtain ⟨ρ1, l', w1, g1, g2, g3, g4, g5, g6, g7⟩ := sim_takeDeferred (P := P) (w0 := w0) hd ρ W w l W1 .rfl' hW h1
    simp only at h2
    split at h2
    · have e2 := g5 rfl
      subst e2
      refine ⟨by simp, .inl ⟨ρ.b d, w1, rfl, g4, ?_⟩⟩
      refine takeA_sound r ρ1 _ W1 W' w1 u ⟨?_, fun D hD => g1.dom _ (hm.dom D (by simp [hD]))⟩ g3 h2 fun ρ2 w2 x1 x2 => hf ρ2 w2 ((⟨g1, g2, g6, g7⟩ : Ext ρ W ρ1 W1).trans x1) x2
      exact List.map_congr_left fun D hD => by rw [g1.b _ (hm.dom D (by simp [hD]))]
    · cases h2
theorem callB_sound (hp : POk P w0 sy) {call : CallT} {rnd : RndT} (hc : CallS P w0 call) (hrn : RndS P w0 rnd) (hcl : CallL call rnd) (L : Nat) : CallS P w0 (callB P sy L call rnd) := by
  intro ρ W w f args args' r W' hW hA h
  unfold callB at h
  split at h
  · rename_i fn hf
    split at h
    · rename_i c hb
      split at h
      · rename_i hsz
        simp only [Bool.and_eq_true, Nat.ble_eq, Nat.blt_eq] at hsz
        refine (callsIn_wide (n := 0)).1 (callsIn_of_wp_marks hf hb trivial ?_)
        have hE := putL_ER hW hA hsz.1 hsz.2
        obtain ⟨⟨e1, s1⟩, W1, h1, h2⟩ := bind_some h
        have fin : ∀ {ρ2 : Ren} {s : St} {W1 : Tw} {a : Act} {w2 : World}, Ext ρ W ρ2 W1 → ER w0 fn.ntmps ρ2 s W1 a w2 → ((takeA P s.2 W1).bind fun q => runT P (resT fn (getS s.1)) q.2) = some (r, W') →
            LeavesInM Fence.wide 0 P fn a.tmps (fun e w' => ∃ ρ2 y, e = .returned y ∧ Ext ρ W ρ2 W' ∧ WR w0 ρ2 W' w' ∧ VR ρ2 r y) a.defers .returning w2 := by
          intro ρ2 s W1 a w2 hx hE hr
          obtain ⟨u, W2, h3, h4⟩ := bind_some hr
          refine takeA_sound s.2 ρ2 a.defers W1 W2 w2 u hE.df hE.W h3 fun ρ3 w3 x1 x2 => ?_
          obtain ⟨ρ4, y, w4, g1, g2, g3, g4, g5, g6, g7⟩ := sim_results (P := P) (w0 := w0) fn (sl := getS s.1) (a := a) ⟨fun t => (hE.sl.at' t).le x1.le⟩ ρ3 W2 w3 r W' .rfl' x2 h4
          have : w4 = w3 := RO.results fn a.tmps _ _ _ g4
          subst this
          exact ⟨y, g4, ρ4, y, rfl, (hx.trans x1).trans ⟨g1, g2, g6, g7⟩, g3, g5⟩
        have hS := evC_sound (fr := none) (rm := 0) hp hc hrn hcl (cl := callable P) (fun _ h => h) (ro := none) L c _ s1 W W1 e1 ρ _ w rfl (hp.code f fn c hf hb) hE h1
        refine wpIn_mono hS ?_
        rintro ex a' w' ⟨k1, ρ2, k2, k3⟩
        cases e1 with
        | normal =>
          cases ex <;> try exact absurd k1 id
          exact fin k2 k3 h2
        | ret =>
          cases ex <;> try exact absurd k1 id
          exact fin k2 k3 h2
        | exit i => cases h2
      · cases h
    · cases h
  · cases h
theorem WR.below {W : Tw} {w w' : World} (h : WR w0 ρ W w) (hb : RowKit.Below w.heap.size w w') : WR w0 ρ W w' := by
  refine ⟨fun n r hn => (h.row n r hn).keep .rfl' (h.dom n r hn) (hb.block _ (h.row n r hn).lt), h.dom, h.mine, h.sep, h.free, h.lim, h.small, hb.os.trans h.os, hb.tape.trans h.tape, hb.output.trans h.output, Nat.le_trans h.size hb.size, fun b hlt => ?_, h.r0⟩
  rw [hb.block b (Nat.lt_of_lt_of_le hlt h.size)]
  exact h.old b hlt
theorem knT_sound (hs : SOk P w0 sy) {call : CallT} (hc : CallS P w0 call) : CallS P w0 (knT sy.kn call) := by
  intro ρ W w f args args' r W' hW hA h
  unfold knT at h
  split at h
  · rename_i v hk
    cases h
    exact (hs.kn ρ f _ _ _ hW.r0 hA hk w).mono fun e w' ⟨y, e1, e2, e3⟩ => ⟨ρ, y, e1, Ext.refl _ _, hW.below e3, e2⟩
  · exact hc ρ W w f _ _ r W' hW hA h
theorem evFR_sound (hp : POk P w0 sy) (L : Nat) : ∀ n, CallS P w0 (evFR P sy L n).1 ∧ RndS P w0 (evFR P sy L n).2 := by
  intro n
  induction n with
  | zero =>
    refine ⟨?_, ?_⟩
    · intro ρ W w f args args' r W' _ _ h; cases h
    · intro ρ W w l fn ts ts' as bd r W' n _ _ _ _ _ h; cases h
  | succ n ih => exact ⟨knT_sound hp.zero (callB_sound hp ih.1 ih.2 (Local.evFR L n) L), evR_sound hp ih.1 ih.2 (Local.evFR L n) (fun _ h => h) L⟩
theorem evF_sound (hp : POk P w0 sy) (L n : Nat) : CallS P w0 (evF P sy L n) := (evFR_sound hp L n).1
end
end Mir

namespace Mir
open Go

/-! ## Quick roads: tables of types and functions -/
inductive TK where
  | st (fs : List (Nat × Nat × Bool))
  | ar (n e : Nat)
  | sl (e : Nat)
  | str
  | int (k : IntKind)
  | other
structure TI where
  sz : Nat
  ag : Bool
  kd : TK
  z : Value
noncomputable def agD : TypeDesc → Bool
  | .struct _ | .array _ _ => true
  | _ => false
noncomputable def fieldsI (P : Program) : List Field → Option (List (Nat × Nat × Bool))
  | [] => some []
  | f :: r => match P.info? f.type, P.underlying f.type, fieldsI P r with
    | some i, some d, some l => some ((f.offset, i.size, agD d) :: l)
    | _, _, _ => none
noncomputable def kdI (P : Program) : TypeDesc → TK
  | .struct fs => match fieldsI P fs.toList with
    | some l => .st l
    | none => .other
  | .array n e => match P.info? e with
    | some i => .ar n i.size
    | none => .other
  | .slice e => match P.info? e with
    | some i => .sl i.size
    | none => .other
  | .string => .str
  | .int k => .int k
  | _ => .other
noncomputable def mkTI (P : Program) (t : TypeId) : Option TI := match P.info? t, P.underlying t with
  | some i, some d => match i.zero with
    | some z => if zeroOk P t then some ⟨i.size, agD d, kdI P d, z⟩ else none
    | none => none
  | _, _ => none
noncomputable def okF (fn : Func) : Bool := fn.body.isSome && !(fn.name == "runtime.NumGoroutine")
/-- Slices that grow: the element's type, cells and bytes. -/
noncomputable def mkAp (P : Program) (t : TypeId) : Option (TypeId × Nat × Nat) := match appInfo P #[t, t] with
  | some (e, i) => some (e, i.size, i.bytes)
  | none => none
structure Tb where
  ty : Tr TI
  fn : Tr Func
  ap : Tr (TypeId × Nat × Nat)
structure TbOk (P : Program) (tb : Tb) : Prop where
  ap : ∀ t x, tb.ap.get t = some x → mkAp P t = some x
  ty : ∀ t ti, tb.ty.get t = some ti → mkTI P t = some ti
  fn : ∀ f fn, tb.fn.get f = some fn → P.funcs[f]? = some fn ∧ okF fn = true

theorem mkTI_some {P : Program} {t : TypeId} {ti : TI} (h : mkTI P t = some ti) : ∃ i d, P.info? t = some i ∧ P.underlying t = some d ∧ i.zero = some ti.z ∧ i.size = ti.sz ∧ agD d = ti.ag ∧ kdI P d = ti.kd ∧ zeroOk P t = true := by
  unfold mkTI at h
  split at h
  · rename_i i d h1 h2
    split at h
    · rename_i z h3
      split at h
      · rename_i h4
        cases h
        exact ⟨i, d, h1, h2, h3, rfl, rfl, rfl, h4⟩
      · cases h
    · cases h
  · cases h

section
variable {P : Program} {α β : Type}
theorem rt_bind (s : Sem α) (f : α → Sem β) (W : Tw) : runT P (s >>= f) W = (runT P s W).bind fun p => runT P (f p.1) p.2 := runT_bind s f W
theorem rt_pure (a : α) (W : Tw) : runT P (Pure.pure a : Sem α) W = some (a, W) := rfl
theorem rt_program (W : Tw) : runT P Go.program W = some (P, W) := rfl
theorem rt_typeInfo {t : TypeId} {i : TypeInfo} (h : P.info? t = some i) (W : Tw) : runT P (Go.typeInfo t) W = some (i, W) := by
  unfold Go.typeInfo
  rw [rt_bind, rt_program, Option.bind_some]
  simp only [h]
  rfl
theorem rt_underlying {t : TypeId} {d : TypeDesc} (h : P.underlying t = some d) (W : Tw) : runT P (Go.underlying t) W = some (d, W) := by
  unfold Go.underlying
  rw [rt_bind, rt_program, Option.bind_some]
  simp only [h]
  rfl
theorem rt_sizeOf {t : TypeId} {i : TypeInfo} (h : P.info? t = some i) (W : Tw) : runT P (Go.sizeOf t) W = some (i.size, W) := by
  unfold Go.sizeOf
  rw [rt_bind, rt_typeInfo h]
  rfl
theorem rt_zero {t : TypeId} {i : TypeInfo} {z : Value} (h : P.info? t = some i) (hz : i.zero = some z) (W : Tw) : runT P (Go.zeroValue t) W = some (z, W) := by
  unfold Go.zeroValue
  rw [rt_bind, rt_typeInfo h, Option.bind_some]
  simp only [hz]
  rfl
theorem rt_isAgg {t : TypeId} {d : TypeDesc} (h : P.underlying t = some d) (W : Tw) : runT P (Go.isAgg t) W = some (agD d, W) := by
  unfold Go.isAgg
  rw [rt_bind, rt_underlying h, Option.bind_some]
  cases d <;> rfl
theorem rt_sureAddr (a : Addr) (W : Tw) : runT P (Instr.sureAddr (.pointer (some a))) W = some (a, W) := rfl

/-! ### Many cells at once -/
theorem Lg.add_add (l : Lg) {n : Nat} (hn : n < 2 ^ 63) : (l.add n).add n = l.add n := by
  have e : ∀ x : Nat, Nat.beq x x = true := fun x => by rw [Nat.beq_eq]
  cases l with
  | nil => simp [Lg.add]
  | cons x r =>
    cases h : Nat.beq x n <;> simp [Lg.add, h]
theorem Tr.put_put {γ : Type} (x y : Option γ) : ∀ (f : Nat) (t : Tr γ) (n : Nat), Tr.put x f (Tr.put y f t n) n = Tr.put x f t n
  | 0, _, _ => rfl
  | f + 1, t, n => by
    cases t with
    | lf =>
      cases n with
      | zero => rfl
      | succ m =>
        simp only [Tr.put]
        by_cases h : m % 2 = 0
        · simp only [h, if_true, Tr.put, Tr.put_put x y f]
        · simp only [h, if_false, Tr.put, Tr.put_put x y f]
    | nd v l r =>
      cases n with
      | zero => rfl
      | succ m =>
        simp only [Tr.put]
        by_cases h : m % 2 = 0
        · simp only [h, if_true, Tr.put, Tr.put_put x y f]
        · simp only [h, if_false, Tr.put, Tr.put_put x y f]
theorem getL_drop : ∀ (l : List Value) (o : Nat) (v : Value) (r : List Value), l.drop o = v :: r → getL l o = some v ∧ l.drop (o + 1) = r
  | [], o, v, r, h => by simp at h
  | x :: l, 0, v, r, h => by
    simp only [List.drop_zero, List.cons.injEq] at h
    exact ⟨by rw [getL, h.1], by simpa using h.2⟩
  | x :: l, o + 1, v, r, h => by
    simp only [List.drop_succ_cons] at h
    obtain ⟨h1, h2⟩ := getL_drop l o v r h
    exact ⟨by rw [getL]; exact h1, by simpa using h2⟩
theorem add_off (a : Addr) (i : Nat) : (a.add i).off = a.off + i := by
  unfold Addr.add; split
  · rename_i h; rw [h]; rfl
  · rfl
theorem add_spot {a : Addr} (i : Nat) (h : a.spot = none) : (a.add i).spot = none := by
  unfold Addr.add; split
  · exact h
  · rfl
theorem Tw.read_read (W : Tw) {n : Nat} (hn : n < 2 ^ 63) : (W.read n).read n = W.read n := by
  unfold Tw.read
  simp only [Lg.add_add W.rd hn]
theorem cellT_at {W : Tw} {a : Addr} {r : Row} {v : Value} (hs : a.spot = none) (hg : W.get a.block = some r) (ho : r.ob = none) (hv : getL r.cs a.off = some v) : cellT a W = some (v, W.read a.block) := by
  unfold cellT
  rw [hs]
  simp only [look_eq, hg, Option.bind_some, ho, hv, Option.map_some]
theorem runT_cells {a : Addr} {r : Row} (hs : a.spot = none) (ho : r.ob = none) : ∀ (n i : Nat) (vs : List Value) (acc : Array Value) (W : Tw), W.get a.block = some r → takeL (r.cs.drop (a.off + i)) n = some vs →
    runT P (loadCellsFrom a i n acc) W = some (⟨acc.toList ++ vs⟩, if n = 0 then W else W.read a.block)
  | 0, i, vs, acc, W, hg, h => by
    unfold takeL at h
    cases h
    simp [loadCellsFrom, rt_pure]
  | n + 1, i, vs, acc, W, hg, h => by
    cases hd : r.cs.drop (a.off + i) with
    | nil => rw [hd] at h; cases h
    | cons x r' =>
      rw [hd] at h
      simp only [takeL] at h
      split at h
      · rename_i l' hl
        cases h
        obtain ⟨g1, g2⟩ := getL_drop _ _ _ _ hd
        unfold loadCellsFrom
        rw [rt_bind]
        have hcell : runT P (Go.load (a.add i)) W = some (x, W.read a.block) := by
          show (cellT (a.add i) W).bind _ = _
          rw [cellT_at (r := r) (add_spot i hs) (by rw [add_block]; exact hg) ho (by rw [add_off]; exact g1), add_block]
          rfl
        rw [hcell, Option.bind_some]
        have hg' : (W.read a.block).get a.block = some r := hg
        rw [runT_cells hs ho n (i + 1) l' (acc.push x) (W.read a.block) hg' (by rw [← Nat.add_assoc, g2]; exact hl)]
        have hlt := Tw.get_lt hg
        simp only [Array.toList_push, List.append_assoc, List.singleton_append, Nat.add_one_ne_zero, if_false, Option.some.injEq, Prod.mk.injEq, true_and]
        split
        · rfl
        · exact Tw.read_read W hlt
      · cases h

noncomputable def loadQ (ti : TI) (a : Addr) (W : Tw) : Option (Value × Tw) := match ti.ag with
  | false => cellT a W
  | true => match ti.sz with
    | 0 => none
    | n + 1 => (cellsT a (n + 1) W).bind fun p => some (.agg ⟨p.1⟩, p.2)
theorem loadQ_eq {tb : Tb} (htb : TbOk P tb) {t : TypeId} {ti : TI} (ht : tb.ty.get t = some ti) {a : Addr} {W : Tw} {r : Value × Tw} (h : loadQ ti a W = some r) : runT P (loadVar t a) W = some r := by
  obtain ⟨i, d, h1, h2, h3, h4, h5, h6, h7⟩ := mkTI_some (htb.ty t ti ht)
  unfold loadVar
  rw [rt_bind, rt_isAgg h2, Option.bind_some]
  unfold loadQ at h
  split at h
  · rename_i hag
    rw [hag] at h5
    simp only [h5]
    show (cellT a W).bind _ = _
    rw [h]
    rfl
  · rename_i hag
    rw [hag] at h5
    simp only [h5, if_true]
    split at h
    · cases h
    · rename_i n hn
      obtain ⟨vs, W1, k1, k2⟩ := bind_some h
      cases k2
      obtain ⟨q, q1, q2, q3, q4, rfl⟩ := cellsT_some k1
      rw [rt_bind, rt_sizeOf h1, Option.bind_some]
      unfold Go.loadCells
      rw [rt_bind, h4, hn, runT_cells q1 q3 (n + 1) 0 vs #[] W q2 (by simpa using q4)]
      rfl

theorem setLs_cons {cs : List Value} {o : Nat} {v : Value} {vs : List Value} (h : o < cs.length) : setLs (setL v cs o) (o + 1) vs = setLs cs o (v :: vs) := by
  have key : ∀ (cs : List Value) (o : Nat), o < cs.length → (setL v cs o).take (o + 1) = cs.take o ++ [v] ∧ ∀ k, (setL v cs o).drop (o + 1 + k) = cs.drop (o + 1 + k) := by
    intro cs
    induction cs with
    | nil => intro o h; simp at h
    | cons x r ih =>
      intro o h
      cases o with
      | zero => simp [setL, Nat.add_comm]
      | succ o =>
        obtain ⟨i1, i2⟩ := ih o (by simpa using h)
        refine ⟨by simp [setL, i1], fun k => ?_⟩
        have e : o + 1 + 1 + k = (o + 1 + k) + 1 := by omega
        rw [e]
        simp only [setL, List.drop_succ_cons]
        exact i2 k
  obtain ⟨k1, k2⟩ := key cs o h
  unfold setLs
  rw [k1, k2]
  have e : o + 1 + vs.length = o + (v :: vs).length := by simp only [List.length_cons]; omega
  rw [e]
  simp only [List.append_assoc, List.singleton_append, List.cons_append, List.nil_append]
theorem runT_store {a : Addr} (hs : a.spot = none) : ∀ (vs : List Value) (i : Nat) (r : Row) (W : Tw), vs ≠ [] → W.get a.block = some r → r.ob = none → vs.all one = true → a.off + i + vs.length ≤ r.cs.length →
    runT P (storeCells a vs i) W = some ((), (W.set a.block (some { r with cs := setLs r.cs (a.off + i) vs })).wrote a.block)
  | [], _, _, _, h, _, _, _, _ => absurd rfl h
  | v :: vs, i, r, W, _, hg, ho, h1, hl => by
    have hlt := Tw.get_lt hg
    simp only [List.all_cons, Bool.and_eq_true] at h1
    simp only [List.length_cons] at hl
    unfold storeCells
    rw [rt_bind]
    have hst : runT P (Go.store (a.add i) v) W = some ((), (W.set a.block (some { r with cs := setL v r.cs (a.off + i) })).wrote a.block) := by
      show (setT (a.add i) v W).bind _ = _
      unfold setT
      rw [add_spot i hs]
      simp only [upd_eq, add_block, hg, ho, h1.1, add_off, Bool.true_and]
      rw [if_pos (by simp; omega)]
      rfl
    rw [hst, Option.bind_some]
    cases vs with
    | nil =>
      simp only [storeCells, rt_pure, Option.some.injEq, Prod.mk.injEq, true_and]
      have : setLs r.cs (a.off + i) [v] = setL v r.cs (a.off + i) := by
        rw [← setLs_cons (vs := []) (by omega)]
        unfold setLs
        simp
      rw [this]
    | cons v2 vs =>
      have hg' : ((W.set a.block (some { r with cs := setL v r.cs (a.off + i) })).wrote a.block).get a.block = some { r with cs := setL v r.cs (a.off + i) } := by
        rw [Tw.get_wrote, Tw.get_set W hlt, if_pos rfl]
      have ih := runT_store hs (v2 :: vs) (i + 1) { r with cs := setL v r.cs (a.off + i) } _ (by simp) hg' ho h1.2 (by simp only [setL_length, List.length_cons] at hl ⊢; omega)
      rw [ih]
      simp only [Option.some.injEq, Prod.mk.injEq, true_and]
      have e : a.off + (i + 1) = (a.off + i) + 1 := by omega
      rw [e, setLs_cons (by omega)]
      unfold Tw.set Tw.wrote
      simp only [Tr.put_put, Lg.add_add W.wr hlt]
noncomputable def storeQ (ti : TI) (a : Addr) (v : Value) (W : Tw) : Option (Unit × Tw) := match v with
  | .agg ⟨[]⟩ => none
  | .agg ⟨c :: r⟩ => match a.spot with
    | none => if (c :: r).length == ti.sz && (c :: r).all one then W.upd a.block fun q => match q.ob with
        | none => if a.off + (c :: r).length ≤ q.cs.length then some (some { q with cs := setLs q.cs a.off (c :: r) }) else none
        | some _ => none
      else none
    | some _ => none
  | .tuple _ => none
  | v => if ti.sz == 1 then setT a v W else none
theorem storeQ_eq {tb : Tb} (htb : TbOk P tb) {t : TypeId} {ti : TI} (ht : tb.ty.get t = some ti) {a : Addr} {v : Value} {W : Tw} {r : Unit × Tw} (h : storeQ ti a v W = some r) : runT P (storeVar t a v) W = some r := by
  obtain ⟨i, d, h1, h2, h3, h4, h5, h6, h7⟩ := mkTI_some (htb.ty t ti ht)
  unfold storeVar
  rw [rt_bind, rt_sizeOf h1, Option.bind_some, h4]
  have one' : ∀ v : Value, v.cells = #[v] → (if ti.sz == 1 then setT a v W else none) = some r → v.cells.size = ti.sz ∧ runT P (storeCells a v.cells.toList) W = some r := by
    intro v hv hh
    split at hh
    · rename_i hsz
      have hsz' : ti.sz = 1 := by simpa using hsz
      rw [hv, hsz']
      refine ⟨by simp, ?_⟩
      show (setT (a.add 0) v W).bind _ = _
      have e0 : a.add 0 = a := by simp [Addr.add]
      rw [e0, hh]
      rfl
    · cases hh
  unfold storeQ at h
  split at h
  · cases h
  · rename_i c rs
    split at h
    · rename_i hs
      split at h
      · rename_i hc
        simp only [Bool.and_eq_true, beq_iff_eq] at hc
        obtain ⟨q, q', k1, k2, k3⟩ := upd_some (u := r.1) (W' := r.2) h
        split at k2
        · rename_i ho
          split at k2
          · rename_i hle
            cases k2
            have hcs : (Value.agg ⟨c :: rs⟩).cells = ⟨c :: rs⟩ := rfl
            rw [hcs]
            have hsz : (⟨c :: rs⟩ : Array Value).size = ti.sz := hc.1
            rw [hsz, if_neg (by simp)]
            have := runT_store (P := P) hs (c :: rs) 0 q W (by simp) k1 ho hc.2 (by omega)
            rw [Nat.add_zero] at this
            rw [this]
            obtain ⟨u, W'⟩ := r
            simp only at k3
            rw [k3]
          · cases k2
        · cases k2
      · cases h
    · cases h
  · cases h
  · rename_i hn1 hn2 hn3
    have hcells : v.cells = #[v] := by
      cases v <;> first | rfl | skip
      · rename_i xs
        obtain ⟨l⟩ := xs
        cases l with
        | nil => exact absurd rfl hn1
        | cons c r => exact absurd rfl (hn2 c r)
    obtain ⟨o1, o2⟩ := one' v hcells h
    simp only [o1, ne_eq, not_true, if_false]
    exact o2
end
end Mir

