import Derived.Test.YtbhjimflcfnpaaaGreatDoorK9
import Derived.OpenShut
import Derived.ChangeArms
import GoSem.ClaimWide
import Derived.Stop.LaidErr
import Derived.Lib.LaidTab
set_option linter.all false
namespace Mo
open Go

/-! ## Trees of decisions -/
inductive DT (α : Type) : Type 1 where
  | br (c : Bool) (t e : DT α)
  | ls {β : Type} (l : List β) (n : DT α) (c : β → List β → DT α)
  | lf (a : α)
  | no
noncomputable def DT.run {α : Type} (T : DT α) (k : α → AnV) : AnV := DT.rec (motive := fun _ => AnV) (fun c _ _ t e => Bool.rec (motive := fun _ => AnV) e t c) (fun l _ _ n c => List.rec (motive := fun _ => AnV) n (fun a r _ => c a r) l) (fun a => k a) none T
def DT.val {α : Type} : DT α → Option α
  | .br c t e => bif c then t.val else e.val
  | .ls l n c => match l with
    | [] => n.val
    | a :: r => (c a r).val
  | .lf a => some a
  | .no => none
theorem DT.run_val {α : Type} (k : α → AnV) : ∀ T : DT α, T.run k = match T.val with
    | some a => k a
    | none => none
  | .br c t e => by
    show Bool.rec (motive := fun _ => AnV) (e.run k) (t.run k) c = _
    rw [DT.val]
    cases c with
    | true => exact DT.run_val k t
    | false => exact DT.run_val k e
  | .ls l n c => by
    show List.rec (motive := fun _ => AnV) (n.run k) (fun a r _ => (c a r).run k) l = _
    cases l with
    | nil =>
      have : (DT.ls [] n c).val = n.val := by simp only [DT.val]
      rw [this]
      exact DT.run_val k n
    | cons a r =>
      have : (DT.ls (a :: r) n c).val = (c a r).val := by simp only [DT.val]
      rw [this]
      exact DT.run_val k (c a r)
  | .lf a => rfl
  | .no => rfl
/-! ### There is room -/
def Ty.one1 (_ : Ty) : Nat := 1
theorem lay_ok {W : Tw} {q : Row} (h : W.nx < W.lim) (hl : W.lim ≤ 2 ^ 63) : ∃ W', W.lay q = some (W.nx, W') ∧ W'.nx = W.nx + 1 ∧ W'.lim = W.lim := by
  rw [lay_eq]
  have h1 : (Nat.blt W.nx W.lim && Nat.ble W.nx 9223372036854775807) = true := by
    rw [Bool.and_eq_true, Nat.blt_eq, Nat.ble_eq]
    omega
  rw [if_pos h1]
  exact ⟨_, rfl, rfl, rfl⟩
theorem symN_ok {t : TV} {W : Tw} (h : W.nx + 1 ≤ W.lim) (hl : W.lim ≤ 2 ^ 63) : ∃ v W', symN t W = some (v, W') ∧ W'.nx ≤ W.nx + 1 ∧ W'.lim = W.lim := by
  obtain ⟨W', h1, h2, h3⟩ := lay_ok (q := ⟨[], 0, false, 0, some (.p t)⟩) h hl
  refine ⟨.chan (some W.nx), W', ?_, by omega, h3⟩
  unfold symN
  rw [h1]
  rfl
theorem symL_ok : ∀ {l : List TV} {W : Tw}, W.nx + l.length ≤ W.lim → W.lim ≤ 2 ^ 63 → ∃ vs W', symL l W = some (vs, W') ∧ W'.nx ≤ W.nx + l.length ∧ W'.lim = W.lim
  | [], W, _, _ => ⟨[], W, rfl, Nat.le_refl _, rfl⟩
  | t :: r, W, h, hl => by
    rw [List.length_cons] at h
    obtain ⟨v, W1, h1, h2, h3⟩ := symN_ok (t := t) (W := W) (by omega) hl
    obtain ⟨vs, W2, h4, h5, h6⟩ := symL_ok (l := r) (W := W1) (by omega) (by omega)
    refine ⟨v :: vs, W2, ?_, by rw [List.length_cons]; omega, by omega⟩
    show (symN t W).bind _ = _
    rw [h1, Option.bind_some]
    simp only
    rw [h4]
    rfl
def AT.sz : AT → Nat
  | .v _ => 1
  | .a c => c.n
theorem impA_ok : ∀ {a : AT} {x : a.D} {W : Tw}, W.nx + a.sz ≤ W.lim → W.lim ≤ 2 ^ 63 → ∃ v W', impA a x W = some (v, W') ∧ W'.nx ≤ W.nx + a.sz ∧ W'.lim = W.lim
  | .v t, x, W, h, hl => symN_ok h hl
  | .a c, x, W, h, hl => by
    have e := Tys.tvs_length c x
    obtain ⟨vs, W', h1, h2, h3⟩ := symL_ok (l := c.tvs x) (W := W) (by rw [e]; exact h) hl
    refine ⟨.agg ⟨vs⟩, W', ?_, by rw [e] at h2; exact h2, h3⟩
    show (symL (c.tvs x) W).bind _ = _
    rw [h1]
    rfl
def szA : List AT → Nat
  | [] => 0
  | a :: r => a.sz + szA r
theorem impL_ok : ∀ {rs : List AT} {x : AD rs} {W : Tw}, W.nx + szA rs ≤ W.lim → W.lim ≤ 2 ^ 63 → ∃ vs W', impL rs x W = some (vs, W') ∧ W'.nx ≤ W.nx + szA rs ∧ W'.lim = W.lim
  | [], x, W, _, _ => ⟨[], W, rfl, Nat.le_refl _, rfl⟩
  | a :: r, x, W, h, hl => by
    have e : szA (a :: r) = a.sz + szA r := rfl
    rw [e] at h
    obtain ⟨v, W1, h1, h2, h3⟩ := impA_ok (a := a) (x := x.1) (W := W) (by omega) hl
    obtain ⟨vs, W2, h4, h5, h6⟩ := impL_ok (rs := r) (x := x.2) (W := W1) (by omega) (by omega)
    refine ⟨v :: vs, W2, ?_, by omega, by omega⟩
    show (impA a x.1 W).bind _ = _
    rw [h1, Option.bind_some]
    simp only
    rw [h4]
    rfl
theorem canon_ok {rs : List AT} {y : AD rs} (h : Nat.ble (szA rs) 1000000 = true) : (canon rs y).bind (decode rs) = some y := by
  rw [Nat.ble_eq] at h
  have e0 : W0.nx = 0 := rfl
  have e1 : W0.lim = 9223372036854775808 := rfl
  have : ∃ p, canon rs y = some p := by
    match rs, y, h with
    | [], y, h => exact ⟨_, rfl⟩
    | [a], y, h =>
      have e : szA [a] = a.sz := by simp [szA]
      rw [e] at h
      obtain ⟨v, W', h1, -⟩ := impA_ok (a := a) (x := y.1) (W := W0) (by omega) (by omega)
      exact ⟨_, h1⟩
    | a :: b :: r, y, h =>
      obtain ⟨vs, W', h1, -⟩ := impL_ok (rs := a :: b :: r) (x := y) (W := W0) (by omega) (by omega)
      refine ⟨(.tuple ⟨vs⟩, W'), ?_⟩
      show (impL (a :: b :: r) y W0).bind _ = _
      rw [h1]
      rfl
  obtain ⟨p, hp⟩ := this
  rw [hp]
  exact decode_canon hp
def VT.sz : VT → Nat
  | .t a => a.sz
  | .o _ _ => 1
  | .p c => c.n
def szV : List VT → Nat
  | [] => 0
  | a :: r => a.sz + szV r
theorem encU_ok : ∀ {v : VT} {x : v.D} {W : Tw}, W.nx + v.sz ≤ W.lim → W.lim ≤ 2 ^ 63 → ∃ u W', encU v x W = some (u, W') ∧ W'.nx ≤ W.nx + v.sz ∧ W'.lim = W.lim
  | .t a, x, W, h, hl => impA_ok h hl
  | .p c, x, W, h, hl => impA_ok (a := .a c) h hl
  | .o c e, none, W, h, hl => ⟨.nilFunc, W, rfl, by show W.nx ≤ W.nx + 1; omega, rfl⟩
  | .o c e, some l, W, h, hl => symN_ok h hl
theorem encV_ok : ∀ {vs : List VT} {x : VD vs} {W : Tw}, W.nx + szV vs ≤ W.lim → W.lim ≤ 2 ^ 63 → ∃ us W', encV vs x W = some (us, W') ∧ W'.nx ≤ W.nx + szV vs ∧ W'.lim = W.lim
  | [], x, W, _, _ => ⟨[], W, rfl, Nat.le_refl _, rfl⟩
  | v :: r, x, W, h, hl => by
    have e : szV (v :: r) = v.sz + szV r := rfl
    rw [e] at h
    obtain ⟨u, W1, h1, h2, h3⟩ := encU_ok (v := v) (x := x.1) (W := W) (by omega) hl
    obtain ⟨us, W2, h4, h5, h6⟩ := encV_ok (vs := r) (x := x.2) (W := W1) (by omega) (by omega)
    refine ⟨u :: us, W2, ?_, by omega, by omega⟩
    show (encU v x.1 W).bind _ = _
    rw [h1, Option.bind_some, h4]
    rfl
def LRes.sz {S : LS} : LRes S → Nat
  | .cont _ => szV S.vs
  | .out e _ => szV (S.oV e)
theorem canonL_ok {S : LS} {r : LRes S} (h : r.sz ≤ 1000000) : (canonL r).bind (decodeL S) = some r := by
  have e0 : W0.nx = 0 := rfl
  have e1 : W0.lim = 9223372036854775808 := rfl
  have : ∃ p, canonL r = some p := by
    cases r with
    | cont v =>
      have h : szV S.vs ≤ 1000000 := h
      obtain ⟨us, W', h1, -⟩ := encV_ok (vs := S.vs) (x := v) (W := W0) (by omega) (by omega)
      refine ⟨(.tuple ⟨.nilFunc :: us⟩, W'), ?_⟩
      show (encV S.vs v W0).bind _ = _
      rw [h1]
      rfl
    | out e o =>
      have h : szV (S.oV e) ≤ 1000000 := h
      obtain ⟨us, W', h1, -⟩ := encV_ok (vs := S.oV e) (x := o) (W := W0) (by omega) (by omega)
      refine ⟨(.tuple ⟨exV e :: us⟩, W'), ?_⟩
      show (encV (S.oV e) o W0).bind _ = _
      rw [h1]
      rfl
  obtain ⟨p, hp⟩ := this
  rw [hp]
  exact decode_canonL hp
section
variable {P : Program} {sy : SyT} {tb : Tb}
/-- A function, by its tree. -/
theorem con_of_tree {Q : Pt → Prop} (hp : ∀ w0, Q w0.r0.pr → POk P w0 sy) (htb : TbOk P tb) {L n : Nat} {f : FuncId} {c : Con} {T : AD c.as → DT (AD c.rs)} (hsz : Nat.ble (szA c.rs) 1000000 = true) (hT : ∀ x, c.pre x = true → run P sy tb L n f c.as c.rs x = (T x).run (canon c.rs)) (hv : ∀ x, c.pre x = true → (T x).val = some (c.fn x)) : c.Ok P Q f := by
  refine con_of_run (L := L) (n := n) hp htb fun x hx => ?_
  rw [hT x hx, DT.run_val, hv x hx]
  exact canon_ok hsz
/-- A loop, by the tree of its round. -/
noncomputable def LCon.of (S : LS) (st : VD S.vs → Option (LRes S)) (G : VD S.vs → DT (Sigma fun e => VD (S.oV e))) : LCon := ⟨S, st, fun v k => (G v).run fun r => Sigma.rec (motive := fun _ => AnV) (fun e o => k e o) r⟩
theorem lcon_of_tree {Q : Pt → Prop} (hmn : MonoQ Q) (hp : ∀ w0, Q w0.r0.pr → POk P w0 sy) (hsk : SKo sy) (hcd : ∀ (f : Nat) (fn : Func) (c : Code), P.funcs[f]? = some fn → fn.body = some c → codeOk c = true) (htb : TbOk P tb) {L n : Nat} {f : FuncId} {m : Nat} {fn : Func} {body bd : Code} {S : LS} {st : VD S.vs → Option (LRes S)} {G : VD S.vs → DT (Sigma fun e => VD (S.oV e))} (hf : P.funcs[f]? = some fn) (hb : fn.body = some body) (hfind : findB body m = [bd]) (hN : Nat.beq S.N fn.ntmps = true) (hN2 : Nat.ble S.N 1000000 = true)
    (hsz : Nat.ble (szV S.vs) 1000000 = true) (hso : ∀ e, Nat.ble (szV (S.oV e)) 1000000 = true) (hT : ∀ v r, st v = some r → ∃ T : DT (LRes S), runL P sy tb L n f S bd v = T.run canonL ∧ T.val = some r) (hG : ∀ v r, (G v).val = some r → ∃ n, iterL st n v = some r) : (LCon.of S st G).Ok P Q f m := by
  refine lcon_of_run (c := LCon.of S st G) (L := L) (n := n) hmn hp hsk hcd htb hf hb hfind hN ?_ ?_ ?_
  · rw [Nat.ble_eq] at hN2 ⊢
    show S.N ≤ _
    omega
  · intro v k r hr
    have hr' : (G v).run (fun r => Sigma.rec (motive := fun _ => AnV) (fun e o => k e o) r) = some r := hr
    rw [DT.run_val] at hr'
    cases hv : (G v).val with
    | none => rw [hv] at hr'; cases hr'
    | some q =>
      rw [hv] at hr'
      obtain ⟨n, hn⟩ := hG v q hv
      obtain ⟨e, o⟩ := q
      exact ⟨e, o, n, hn, hr'⟩
  · intro v r hs
    obtain ⟨T, h1, h2⟩ := hT v r hs
    show (runL P sy tb L n f S bd v).bind (decodeL S) = some r
    rw [h1, DT.run_val, h2]
    refine canonL_ok ?_
    rw [Nat.ble_eq] at hsz
    cases r with
    | cont v => exact hsz
    | out e o =>
      have := hso e
      rw [Nat.ble_eq] at this
      exact this
/-- What a function answers at one input. -/
def OkAt (P : Program) (Q : Pt → Prop) (f : FuncId) (as rs : List AT) (x : AD as) (r : AD rs) : Prop := ∀ (pr : Pt) (w : World) (args : Array Value), Q pr → PrOk pr w → RdA pr as x args.toList →
  Calls P f args w fun e w' => ∃ y pr', e = .returned y ∧ RowKit.Below w.heap.size w w' ∧ pr.le pr' ∧ PrOk pr' w' ∧ (∀ b k, pr b k = none → pr' b k ≠ none → w.heap.size ≤ b) ∧ RdR pr' rs r y
theorem con_at {Q : Pt → Prop} {f : FuncId} {c : Con} (h : ∀ x, c.pre x = true → OkAt P Q f c.as c.rs x (c.fn x)) : c.Ok P Q f := by
  intro pr w args x r hq hpr hx hF
  obtain ⟨h0, rfl⟩ := Con.F_some hF
  exact h x h0 pr w args hq hpr hx
theorem at_con {Q : Pt → Prop} {f : FuncId} {c : Con} (h : c.Ok P Q f) {x : AD c.as} (hp : c.pre x = true) : OkAt P Q f c.as c.rs x (c.fn x) := by
  intro pr w args hq hpr hx
  refine h pr w args x _ hq hpr hx ?_
  unfold Con.F
  rw [hp]
theorem okAt_tree {Q : Pt → Prop} (hp : ∀ w0, Q w0.r0.pr → POk P w0 sy) (htb : TbOk P tb) {L n : Nat} {f : FuncId} {as rs : List AT} {x : AD as} {y : AD rs} {T : DT (AD rs)} (hsz : Nat.ble (szA rs) 1000000 = true) (hT : run P sy tb L n f as rs x = T.run (canon rs)) (hv : T.val = some y) : OkAt P Q f as rs x y := by
  intro pr w args hq hpr hx
  cases hK : run P sy tb L n f as rs x with
  | none =>
    rw [hT, DT.run_val, hv] at hK
    have := canon_ok (rs := rs) (y := y) hsz
    simp only at hK
    rw [hK] at this
    cases this
  | some p =>
    have hr : (run P sy tb L n f as rs x).bind (decode rs) = some y := by
      rw [hT, DT.run_val, hv]
      exact canon_ok hsz
    rw [hK] at hr
    obtain ⟨vs, W1, h1, h2⟩ := opb_some hK
    obtain ⟨ρ2, e1, e2, e3, e4, e5, e6⟩ := impL_sound (b0_WR hpr) h1 hx
    exact fin_sound hp htb hq e1.pr e3 e4 h2 hr
end
end Mo

namespace Mo
open Go

/-! ## A list, told by its spine -/
noncomputable def spineK {β : Type} (n : Nat) : List β → (List β → AnV) → AnV := Nat.rec (motive := fun _ => List β → (List β → AnV) → AnV) (fun l f => f l) (fun _ ih l f => List.rec (motive := fun _ => AnV) (f []) (fun a t _ => ih t fun t' => f (a :: t')) l) n
theorem spineK_eq {β : Type} : ∀ (n : Nat) (l : List β) (f : List β → AnV), spineK n l f = f l
  | 0, l, f => rfl
  | n + 1, [], f => rfl
  | n + 1, a :: t, f => spineK_eq n t fun t' => f (a :: t')
noncomputable def spC (n : Nat) (as : List AT) (τ : Tys) (pre : AD as → Bool) (fn : AD as → List τ.D) : CallC :=
  ⟨conT ⟨as, [.v (.sl τ)], pre, fun x => (fn x, ())⟩, fun args W k => opb (argsT as args W) fun x W => Bool.rec (motive := fun _ => AnV) none (spineK n (fn x) fun l => opb (symN ⟨.sl τ, l⟩ W) k) (pre x)⟩
theorem spC_ok {P : Program} {Q : Pt → Prop} (hmn : MonoQ Q) {f : FuncId} {n : Nat} {as : List AT} {τ : Tys} {pre : AD as → Bool} {fn : AD as → List τ.D} (h : (Con.mk as [.v (.sl τ)] pre fun x => (fn x, ())).Ok P Q f) : XOk P Q f (spC n as τ pre fn) := by
  refine ⟨fun args => Local.conT _ args, fun args W k r hr => ?_, fun w0 hq ρ W w args args' r W' hW hA hr => conT_sound hmn hq h hW hA hr⟩
  refine conK_ok ⟨as, [.v (.sl τ)], pre, fun x => (fn x, ())⟩ args W k r ?_
  rw [← hr]
  show conK _ args W k = opb (argsT as args W) fun x W => Bool.rec (motive := fun _ => AnV) none (spineK n (fn x) fun l => opb (symN ⟨.sl τ, l⟩ W) k) (pre x)
  simp only [spineK_eq]
  rfl
theorem iterL_cont {S : LS} {step : VD S.vs → Option (LRes S)} {n : Nat} {v v' : VD S.vs} (h : step v = some (.cont v')) : iterL step (n + 1) v = iterL step n v' := by
  show (match step v with
    | some (.cont v') => iterL step n v'
    | some (.out e o) => some ⟨e, o⟩
    | none => none) = _
  rw [h]
theorem iterL_out {S : LS} {step : VD S.vs → Option (LRes S)} {n : Nat} {v : VD S.vs} {e : Ex} {o : VD (S.oV e)} (h : step v = some (.out e o)) : iterL step (n + 1) v = some ⟨e, o⟩ := by
  show (match step v with
    | some (.cont v') => iterL step n v'
    | some (.out e o) => some ⟨e, o⟩
    | none => none) = _
  rw [h]
/-- What must hold, one behind the other. -/
noncomputable def gd {α : Type} : List Bool → DT α → DT α
  | [], T => T
  | c :: r, T => .br c (gd r T) .no
theorem gd_val {α : Type} {T : DT α} : ∀ {l : List Bool}, (∀ c ∈ l, c = true) → (gd l T).val = T.val
  | [], _ => rfl
  | c :: r, h => by
    have hc := h c (List.mem_cons_self ..)
    subst hc
    show (DT.br true (gd r T) .no).val = _
    simp only [DT.val, cond_true]
    exact gd_val fun c hc => h c (List.mem_cons_of_mem _ hc)
/-! ## Tables, built -/
theorem TOk.nil {P : Program} {Q : Pt → Prop} : TOk P Q .lf .lf .lf :=
  ⟨(fun f c h => by rw [Tr.get_lf] at h; cases h), (fun f l n c h _ => by rw [Tr.get_lf] at h; cases h), (fun f c h => by rw [Tr.get_lf] at h; cases h)⟩
section
variable {P : Program} {Q : Pt → Prop} {kt : Tr Con} {lt : Tr (List (Nat × LCon))} {xt : Tr CallC}
theorem TOk.addK (h : TOk P Q kt lt xt) {f : Nat} {c : Con} (hc : c.Ok P Q f) (hf : Nat.blt f 1073741824 = true) : TOk P Q (Tr.put (some c) 31 kt f) lt xt := by
  rw [Nat.blt_eq] at hf
  refine ⟨fun g d hd => ?_, h.l, h.x⟩
  rw [Tr.get_put _ 30 _ _ (by omega)] at hd
  split at hd
  · rename_i he; subst he; cases hd; exact hc
  · exact h.k g d hd
theorem TOk.addX (h : TOk P Q kt lt xt) {f : Nat} {c : CallC} (hc : XOk P Q f c) (hf : Nat.blt f 1073741824 = true) : TOk P Q kt lt (Tr.put (some c) 31 xt f) := by
  rw [Nat.blt_eq] at hf
  refine ⟨h.k, h.l, fun g d hd => ?_⟩
  rw [Tr.get_put _ 30 _ _ (by omega)] at hd
  split at hd
  · rename_i he; subst he; cases hd; exact hc
  · exact h.x g d hd
theorem TOk.addL (h : TOk P Q kt lt xt) {f : Nat} {l : List (Nat × LCon)} (hc : ∀ n c, lpGet l n = some c → c.Ok P Q f n) (hf : Nat.blt f 1073741824 = true) : TOk P Q kt (Tr.put (some l) 31 lt f) xt := by
  rw [Nat.blt_eq] at hf
  refine ⟨h.k, fun g d n c hd hn => ?_, h.x⟩
  rw [Tr.get_put _ 30 _ _ (by omega)] at hd
  split at hd
  · rename_i he; subst he; cases hd; exact hc n c hn
  · exact h.l g d n c hd hn
end
theorem lp_one {P : Program} {Q : Pt → Prop} {f : Nat} {a : Nat} {c : LCon} {r : List (Nat × LCon)} (h : c.Ok P Q f a) (hr : ∀ n c, lpGet r n = some c → c.Ok P Q f n) : ∀ n d, lpGet ((a, c) :: r) n = some d → d.Ok P Q f n := by
  intro n d hd
  rw [lpGet] at hd
  split at hd
  · rename_i he
    cases hd
    rw [Nat.beq_eq] at he
    have he' : a = n := he
    subst he'
    exact h
  · exact hr n d hd
theorem lp_nil {P : Program} {Q : Pt → Prop} {f : Nat} : ∀ n c, lpGet [] n = some c → LCon.Ok P Q f n c := fun n c h => by cases h
/-- The code of a function's loop. -/
noncomputable def bodyOf (fn : Func) : Code := match fn.body with
  | some c => c
  | none => .skip
noncomputable def loopOf (fn : Func) (n : Nat) : Code := match findB (bodyOf fn) n with
  | [b] => b
  | _ => .skip
end Mo

namespace Mo
open Go

/-! ## The library's contracts, in this form -/
theorem PrOk.below {pr : Pt} {w w' : World} (h : PrOk pr w) (hb : RowKit.Below w.heap.size w w') : PrOk pr w' := fun b k x hx => by
  obtain ⟨c, e, m, h1, h2⟩ := h b k x hx
  exact ⟨c, e, m, by rw [hb.block b (Array.getElem?_eq_some_iff.1 h1).1]; exact h1, h2⟩
theorem con_lib {P : Program} {Q : Pt → Prop} {f : FuncId} {c : Con} (h : ∀ pr w (args : Array Value) (x : AD c.as), Q pr → PrOk pr w → RdA pr c.as x args.toList → c.pre x = true → Calls P f args w fun e w' => ∃ y, e = .returned y ∧ RowKit.Below w.heap.size w w' ∧ ∀ pr, RdR pr c.rs (c.fn x) y) : c.Ok P Q f := by
  intro pr w args x r hq hpr hx hF
  obtain ⟨h0, rfl⟩ := Con.F_some hF
  refine (h pr w args x hq hpr hx h0).mono ?_
  rintro e w' ⟨y, rfl, hb, hr⟩
  exact ⟨y, pr, rfl, hb, .rfl', hpr.below hb, fun _ _ h1 h2 => absurd h1 h2, hr pr⟩
/-- What is protected from the beginning on keeps what is asked of the world. -/
def QG (G : World → Prop) (pr : Pt) : Prop := ∀ w, PrOk pr w → G w
theorem QG.mono (G : World → Prop) : MonoQ (QG G) := fun _ _ h hp w hw => hp w fun b k x hx => hw b k x (h b k x hx)
noncomputable def one1 (l : List UInt8) : Bool := match l with
  | [_] => true
  | _ => false
noncomputable def hd1 (l : List UInt8) : UInt8 := match l with
  | c :: _ => c
  | [] => 0
theorem one1_eq {l : List UInt8} (h : one1 l = true) : l = [hd1 l] := by
  match l, h with
  | [c], _ => rfl
  | [], h => cases h
  | _ :: _ :: _, h => cases h
theorem str_arg {pr : Pt} {s : List UInt8} {v : Value} (h : (AT.v .str).Rd pr s v) : v = .string ⟨⟨s⟩⟩ := rd_str (x := s) h
theorem int_arg {pr : Pt} {k : IntKind} {s : Int} {v : Value} (h : (AT.v (.int k)).Rd pr s v) : v = .int k s := rd_int (x := s) h
theorem bool_arg {pr : Pt} {s : Bool} {v : Value} (h : (AT.v .bool).Rd pr s v) : v = .bool s := rd_bool (x := s) h
theorem str_res {pr : Pt} {s : List UInt8} : (AT.v .str).Rd pr s (.string ⟨⟨s⟩⟩) := str_rd
theorem int_res {pr : Pt} {k : IntKind} {s : Int} : (AT.v (.int k)).Rd pr s (.int k s) := int_rd
theorem bool_res {pr : Pt} {s : Bool} : (AT.v .bool).Rd pr s (.bool s) := bool_rd
/-- A number, or an error of which nothing is told but its type. -/
noncomputable def numE (T : TypeId) (ok : List UInt8 → Bool) (n : List UInt8 → Int) (args : List Value) (W : Tw) : Option (Value × Tw) := match args with
  | [v] => (castP .str v W).bind fun p => match decide (List.length (α := UInt8) p.1 ≤ 281474976710656) with
    | true => (symN ⟨.int .i64, n p.1⟩ p.2).bind fun q => some (.tuple ⟨[q.1, match ok p.1 with
      | true => .nilIface
      | false => .iface T (.chan (some D0))]⟩, q.2)
    | false => none
  | _ => none
noncomputable def numK (T : TypeId) (ok : List UInt8 → Bool) (n : List UInt8 → Int) (args : List Value) (W : Tw) (k : Value → Tw → AnV) : AnV := match args with
  | [v] => opb (castP .str v W) fun s W => Bool.rec (motive := fun _ => AnV) none (opb (symN ⟨.int .i64, n s⟩ W) fun q W =>
      Bool.rec (motive := fun _ => AnV) (k (.tuple ⟨[q, .iface T (.chan (some D0))]⟩) W) (k (.tuple ⟨[q, .nilIface]⟩) W) (ok s)) (decide (List.length (α := UInt8) s ≤ 281474976710656))
  | _ => none
noncomputable def numC (T : TypeId) (ok : List UInt8 → Bool) (n : List UInt8 → Int) : CallC := ⟨numE T ok n, numK T ok n⟩
theorem numC_ok {P : Program} {Q : Pt → Prop} (hmn : MonoQ Q) {f : FuncId} {T : TypeId} {ok : List UInt8 → Bool} {n : List UInt8 → Int}
    (h : ∀ pr w (s : List UInt8), Q pr → PrOk pr w → s.length ≤ 281474976710656 → Calls P f #[.string ⟨⟨s⟩⟩] w fun e w' => RowKit.Below w.heap.size w w' ∧ ((ok s = true ∧ e = .returned (.tuple #[.int .i64 (n s), .nilIface])) ∨ (ok s = false ∧ ∃ y, e = .returned (.tuple #[.int .i64 (n s), .iface T y])))) : XOk P Q f (numC T ok n) := by
  refine ⟨fun args => ?_, fun args W k r hr => ?_, fun w0 hq ρ W w args args' r W' hW hA hr => ?_⟩
  · show Local (numE T ok n args)
    unfold numE
    split
    · rename_i v
      refine Local.bind (G := fun (s : List UInt8) (W : Tw) => (match decide (s.length ≤ 281474976710656) with
        | true => (symN ⟨.int .i64, n s⟩ W).bind fun q => some (.tuple ⟨[q.1, match ok s with
          | true => .nilIface
          | false => .iface T (.chan (some D0))]⟩, q.2)
        | false => none : Option (Value × Tw))) (Local.castP .str v) fun s => ?_
      split
      · exact Local.bind (G := fun q W => some (Value.tuple ⟨[q, match ok s with
          | true => .nilIface
          | false => .iface T (.chan (some D0))]⟩, W)) (Local.symN _) fun q => Local.ret _
      · exact Local.fails
    · exact Local.fails
  · have hr' : numK T ok n args W k = some r := hr
    show ∃ v W', numE T ok n args W = some (v, W') ∧ _
    unfold numK at hr'
    unfold numE
    split at hr'
    · rename_i v
      obtain ⟨s, W1, h1, h2⟩ := opb_some hr'
      rw [h1, Option.bind_some]
      simp only
      cases hb : decide (List.length (α := UInt8) s ≤ 281474976710656) with
      | false => rw [hb] at h2; cases h2
      | true =>
        rw [hb] at h2
        obtain ⟨q, W2, h3, h4⟩ := opb_some h2
        simp only
        rw [h3, Option.bind_some]
        refine ⟨_, _, rfl, ?_⟩
        cases ho : ok s with
        | true => rw [ho] at h4; exact h4
        | false => rw [ho] at h4; exact h4
    · cases hr'
  · have hr' : numE T ok n args.toList W = some (r, W') := hr
    unfold numE at hr'
    split at hr'
    · rename_i v hargs
      obtain ⟨s, W1, h1, h2⟩ := bind_some hr'
      simp only at h2
      split at h2
      · rename_i hb
        obtain ⟨q, W2, h3, h4⟩ := bind_some h2
        cases h4
        obtain ⟨⟨l⟩⟩ : ∃ l : Array Value, args = l := ⟨_, rfl⟩
        have hs1 : args.size = 1 := by
          have : args.toList.length = 1 := by rw [hargs]; rfl
          simpa using this
        have hs2 : args'.size = 1 := by rw [← hA.size]; exact hs1
        obtain ⟨y, hy⟩ : ∃ y, args' = #[y] := by
          obtain ⟨l'⟩ := args'
          match l', hs2 with
          | [y], _ => exact ⟨y, rfl⟩
        have hvy : VR ρ v y := by
          have := hA.at' 0 (by omega)
          have e1 : args.getD 0 undef = v := by
            have : args.toList[0]? = some v := by rw [hargs]; rfl
            simp only [Array.getElem?_toList] at this
            rw [Array.getD_eq_getD_getElem?, this]
            rfl
          rw [e1, hy] at this
          exact this
        obtain ⟨pr1, k0, k1, k2, k3, k4⟩ := castP_sound hW hvy h1
        have hys : y = .string ⟨⟨s⟩⟩ := str_arg (pr := pr1) k4
        subst hy hys
        have hq1 : Q pr1 := hmn _ _ (hW.r0.pr.trans k0) hq
        refine (h pr1 w s hq1 k1.prw (by simpa using hb)).mono ?_
        rintro e w' ⟨hbl, hres⟩
        obtain ⟨hl, hW2⟩ := k1.grow hbl .rfl' (PrOk.below (pr := pr1) k1.prw hbl) (fun _ _ h1 h2 => absurd h1 h2)
        obtain ⟨ρ2, m1, m2, m3, m4, m5, m6⟩ := symN_sound hW2 h3 (y := .int .i64 (n s)) int_rd
        have ext : Ext ρ W ρ2 W2 := ⟨((Ren.le_pr k0).trans hl).trans m1, fun k hk => by
          rcases m2 k hk with h5 | h5
          · exact .inl h5
          · exact .inr (by rw [← k2]; exact h5), by rw [← k2]; exact m5, m6.trans k3⟩
        rcases hres with ⟨ho, rfl⟩ | ⟨ho, z, rfl⟩
        · refine ⟨ρ2, _, rfl, ext, m3, .tuple rfl fun i hi => ?_⟩
          match i, hi with
          | 0, _ => exact m4
          | 1, _ => simp only [ho]; exact .nilIface
        · refine ⟨ρ2, _, rfl, ext, m3, .tuple rfl fun i hi => ?_⟩
          match i, hi with
          | 0, _ => exact m4
          | 1, _ => simp only [ho]; exact .iface T (.any _)
      · cases h2
    · cases hr'
end Mo

namespace Mo
open Go

/-! ## Functions that hand back lists of one's own -/
def unR : List VT → Value → Option (List Value)
  | [_], v => some [v]
  | _, .tuple ⟨l⟩ => some l
  | _, _ => none
def putR : List VT → List Value → Value
  | [_], [v] => v
  | _, l => .tuple ⟨l⟩
structure VCon where
  as : List AT
  rs : List VT
  T : AD as → DT (VD rs)
def VPost (w : World) (pr : Pt) (rs : List VT) (x : VD rs) (e : Ending) (w' : World) : Prop := ∃ y ys pr' fp', e = .returned y ∧ unR rs y = some ys ∧ LF w w' pr pr' [] fp' ∧ RdV pr' w' rs x ys fp'
def VCon.Ok (P : Program) (Q : Pt → Prop) (f : FuncId) (c : VCon) : Prop := ∀ (pr : Pt) (w : World) (args : Array Value) (x : AD c.as) (r : VD c.rs), Q pr → PrOk pr w → RdA pr c.as x args.toList → (c.T x).val = some r → Calls P f args w (VPost w pr c.rs r)
noncomputable def VCon.F (c : VCon) (args : List Value) (W : Tw) : Option (Value × Tw) := (argsT c.as args W).bind fun p => match (c.T p.1).val with
  | some r => (impV c.rs r p.2).bind fun q => some (putR c.rs q.1, q.2)
  | none => none
noncomputable def VCon.K (c : VCon) (args : List Value) (W : Tw) (k : Value → Tw → AnV) : AnV :=
  opb (argsT c.as args W) fun x W => (c.T x).run fun r => opb (impV c.rs r W) fun us W => k (putR c.rs us) W
noncomputable def VCon.call (c : VCon) : CallC := ⟨c.F, c.K⟩
theorem VCon.ko (c : VCon) (args : List Value) (W : Tw) (k : Value → Tw → AnV) (r : Value × Tw) (h : c.K args W k = some r) : ∃ v W', c.F args W = some (v, W') ∧ k v W' = some r := by
  obtain ⟨x, W1, h1, h2⟩ := opb_some h
  rw [DT.run_val] at h2
  cases hf : (c.T x).val with
  | none => rw [hf] at h2; cases h2
  | some q =>
    rw [hf] at h2
    obtain ⟨us, W2, h3, h4⟩ := opb_some h2
    refine ⟨_, W2, ?_, h4⟩
    unfold VCon.F
    rw [h1, Option.bind_some]
    simp only [hf, h3, Option.bind_some]
theorem VCon.lo (c : VCon) (args : List Value) : Local (c.F args) := by
  refine Local.bind (G := fun x W => match (c.T x).val with
    | some r => (impV c.rs r W).bind fun q => some (putR c.rs q.1, q.2)
    | none => none) (Local.argsT c.as args) fun x => ?_
  cases (c.T x).val with
  | none => exact Local.fails
  | some r => exact Local.bind (G := fun us W => some (putR c.rs us, W)) (Local.impV _ _) fun us => Local.ret _
section
variable {P : Program} {w0 : Bs} {ρ : Ren}
theorem tuple_LR {l : List Value} {v : Value} (h : VR ρ (.tuple ⟨l⟩) v) : ∃ us : Array Value, v = .tuple us ∧ LR' ρ l us.toList := by
  cases h with
  | tuple hx h =>
    rename_i xs'
    refine ⟨xs', rfl, by simpa using hx, fun i h1 h2 => ?_⟩
    have := h i (by simpa using h1)
    simpa [Array.getD, h1, show i < xs'.size by simpa using h2] using this
theorem LR_tuple {l : List Value} {us : List Value} (h : LR' ρ l us) : VR ρ (.tuple ⟨l⟩) (.tuple ⟨us⟩) := by
  refine .tuple (by simpa using h.len) fun i hi => ?_
  have hi' : i < l.length := by simpa using hi
  have hi2 : i < us.length := by have := h.len; omega
  have := h.at' i hi' hi2
  simpa [Array.getD, hi', hi2] using this
theorem unR_tup {a b : VT} {r : List VT} {v : Value} {l : List Value} (h : unR (a :: b :: r) v = some l) : v = .tuple ⟨l⟩ := by
  cases v <;> first | (cases h; done) | skip
  rename_i xs
  obtain ⟨xs⟩ := xs
  cases h
  rfl
theorem unR_nil {v : Value} {l : List Value} (h : unR [] v = some l) : v = .tuple ⟨l⟩ := by
  cases v <;> first | (cases h; done) | skip
  rename_i xs
  obtain ⟨xs⟩ := xs
  cases h
  rfl
theorem unR_LR {rs : List VT} {v y : Value} {l : List Value} (h : VR ρ v y) (hv : unR rs v = some l) : ∃ ys, unR rs y = some ys ∧ LR' ρ l ys := by
  cases rs with
  | nil =>
    have := unR_nil hv
    subst this
    obtain ⟨us, rfl, h2⟩ := tuple_LR h
    exact ⟨us.toList, rfl, h2⟩
  | cons a r => cases r with
    | nil =>
      cases hv
      exact ⟨[y], rfl, rfl, fun i h1 h2 => by
        have : i = 0 := by simpa using h1
        subst this
        exact h⟩
    | cons b r =>
      have := unR_tup hv
      subst this
      obtain ⟨us, rfl, h2⟩ := tuple_LR h
      exact ⟨us.toList, rfl, h2⟩
theorem putR_VR {rs : List VT} {y : Value} {us ys : List Value} (h : LR' ρ us ys) (hy : unR rs y = some ys) : VR ρ (putR rs us) y := by
  cases rs with
  | nil =>
    have := unR_nil hy
    subst this
    exact LR_tuple h
  | cons a r => cases r with
    | nil =>
      cases hy
      cases us with
      | nil => have := h.len; simp at this
      | cons u s => cases s with
        | nil => exact h.at' 0 (by simp) (by simp)
        | cons _ _ => have := h.len; simp at this
    | cons b r =>
      have := unR_tup hy
      subst this
      exact LR_tuple h
theorem VCon.kn {Q : Pt → Prop} (hmn : MonoQ Q) (hq0 : Q w0.r0.pr) {f : FuncId} {c : VCon} (hc : c.Ok P Q f) {W W' : Tw} {w : World} {args args' : Array Value} {r : Value} (hW : WR w0 ρ W w) (hA : AR ρ args args') (h : c.F args.toList W = some (r, W')) :
    Calls P f args' w fun e w' => ∃ ρ2 y, e = .returned y ∧ Ext ρ W ρ2 W' ∧ WR w0 ρ2 W' w' ∧ VR ρ2 r y := by
  unfold VCon.F at h
  obtain ⟨x, W1, h1, h2⟩ := bind_some h
  simp only at h2
  split at h2
  · rename_i rr hy
    obtain ⟨us, W2, h3, h4⟩ := bind_some h2
    cases h4
    have hL : LR' ρ args.toList args'.toList := ⟨by simpa using hA.size, fun i h3 h4 => by
      have h3' : i < args.size := by simpa using h3
      have h4' : i < args'.size := by simpa using h4
      have := hA.at' i h3'
      simpa [Array.getD, h3', h4'] using this⟩
    obtain ⟨pr1, k0, k2, k3, k4, k1⟩ := argsT_sound hW hL h1
    refine (hc pr1 w args' x rr (hmn _ _ (hW.r0.pr.trans k0) hq0) k2.prw k1 hy).mono ?_
    rintro e w' ⟨z, ys, pr', fp', rfl, hu, hlf, hrd⟩
    obtain ⟨j1, j2⟩ := k2.back hlf (fun b hb => nomatch hb) (fun m q _ _ hb => nomatch hb)
    have hm : ∀ b ∈ fp', w0.may b := fun b hb => by
      rcases hlf.fps b hb with h5 | h5
      · exact .inl (Nat.le_trans k2.size h5)
      · cases h5
    have hd : ∀ m q, W1.get m = some q → q.phys → ρ.b m ∉ fp' := fun m q hg hph hmem => by
      rcases hlf.fps _ hmem with h5 | h5
      · have := (k2.row m q hg).lt hph
        have h6 : w.heap.size ≤ ρ.b m := h5
        have h7 : ρ.b m < w.heap.size := this
        omega
      · cases h5
    obtain ⟨ρ3, r1, r2, r3, ⟨r4, r5⟩, r6, r7⟩ := impV_sound j2 h3 hrd hlf.nd hm hd
    refine ⟨ρ3, z, rfl, ⟨((Ren.le_pr k0).trans j1).trans r1, fun k hk => ?_, by show W.nx ≤ W2.nx; omega, r7.trans k4⟩, r3, putR_VR r4 hu⟩
    rcases r2 k hk with h5 | h5
    · exact .inl h5
    · exact .inr (by rw [← k3]; exact h5)
  · cases h2
theorem VCon.xok {Q : Pt → Prop} (hmn : MonoQ Q) {f : FuncId} {c : VCon} (hc : c.Ok P Q f) : XOk P Q f c.call :=
  ⟨c.lo, c.ko, fun w0 hq ρ W w args args' r W' hW hA hr => VCon.kn hmn hq hc hW hA hr⟩
end
/-! ### By a run -/
noncomputable def canonV (rs : List VT) (y : VD rs) : AnV := (encV rs y W0).bind fun p => some (.tuple ⟨p.1⟩, p.2)
noncomputable def decodeV (rs : List VT) (p : Value × Tw) : Option (VD rs) := match p.1 with
  | .tuple ⟨us⟩ => (decV rs us p.2).map (·.1)
  | _ => none
theorem decode_canonV {rs : List VT} {y : VD rs} {p : Value × Tw} (h : canonV rs y = some p) : decodeV rs p = some y := by
  obtain ⟨us, W1, h1, h2⟩ := bind_some (show (encV rs y W0).bind (fun p => some (.tuple ⟨p.1⟩, p.2)) = some p from h)
  cases h2
  obtain ⟨V', e1, -⟩ := (encV_back h1).2.2 W1 fun _ _ => rfl
  show (decV rs us W1).map _ = _
  rw [e1]; rfl
theorem canonV_ok {rs : List VT} {y : VD rs} (h : Nat.ble (szV rs) 1000000 = true) : (canonV rs y).bind (decodeV rs) = some y := by
  rw [Nat.ble_eq] at h
  have e0 : W0.nx = 0 := rfl
  have e1 : W0.lim = 9223372036854775808 := rfl
  obtain ⟨us, W', h1, -⟩ := encV_ok (vs := rs) (x := y) (W := W0) (by omega) (by omega)
  have hp : canonV rs y = some (.tuple ⟨us⟩, W') := by
    show (encV rs y W0).bind _ = _
    rw [h1]; rfl
  rw [hp]
  exact decode_canonV hp
noncomputable def finV (rs : List VT) (v : Value) (W : Tw) : AnV := match unR rs v with
  | some us => opb (readV rs us W) fun y _ => canonV rs y
  | none => none
noncomputable def runV (P : Program) (sy : SyT) (tb : Tb) (L n : Nat) (f : FuncId) (as : List AT) (rs : List VT) (x : AD as) : AnV :=
  opb (impL as x W0) fun args W => (zFR P sy tb L n).1 f args W (finV rs)
section
variable {P : Program}
theorem vcon_of_run {sy : SyT} {Q : Pt → Prop} (hp : ∀ w0, Q w0.r0.pr → POk P w0 sy) {tb : Tb} (htb : TbOk P tb) {L n : Nat} {f : FuncId} {c : VCon} (h : ∀ x r, (c.T x).val = some r → (runV P sy tb L n f c.as c.rs x).bind (decodeV c.rs) = some r) : c.Ok P Q f := by
  intro pr w args x rr hq hpr hx hF
  have hr := h x rr hF
  cases hK : runV P sy tb L n f c.as c.rs x with
  | none => rw [hK] at hr; cases hr
  | some p =>
    rw [hK] at hr
    obtain ⟨vs, W1, h1, h2⟩ := opb_some hK
    obtain ⟨ρ2, e1, e2, e3, e4, e5, e6⟩ := impL_sound (b0_WR hpr) h1 hx
    obtain ⟨v, W2, g1, g2⟩ := (zFR_le (hp (b0 w pr) hq).zero.ko htb L n).1 f vs W1 _ _ h2
    have hA' : AR ρ2 ⟨vs⟩ args := ⟨by simpa using e4.len, fun i hi => by
      have hi' : i < vs.length := by simpa using hi
      have hi2 : i < args.size := by have := e4.len; simp at this; omega
      have := e4.at' i hi' (by simpa using hi2)
      simpa [Array.getD, hi', hi2] using this⟩
    refine (evFq_sound (hp (b0 w pr) hq) htb L n ρ2 W1 w f ⟨vs⟩ args v W2 e3 hA' g1).mono ?_
    rintro e w' ⟨ρ3, y, rfl, m1, m2, m3⟩
    unfold finV at g2
    split at g2
    · rename_i us hus
      obtain ⟨ys, hys, hlr⟩ := unR_LR m3 hus
      obtain ⟨z, W3, g3, g4⟩ := opb_some g2
      have hd := decode_canonV g4
      rw [Option.bind_some, hd] at hr
      cases hr
      obtain ⟨ρ4, q1, q2, q3, ⟨fp', q4, q5, q6, q7⟩, q8, q9⟩ := readV_sound m2 hlr g3
      refine ⟨y, ys, ρ4.pr, fp', rfl, hys, ⟨q3.os, q3.tape, q3.output, q3.size, fun b hb hn => q3.old b hb id, (e1.pr.trans m1.le.pr).trans q1.pr, q3.prw, fun b k h0 h1 => ?_, fun b hb => ?_, q5⟩, q4⟩
      · rcases q3.prn b k h0 h1 with h5 | h5
        · exact .inl h5
        · exact absurd h5 id
      · rcases q6 b hb with h5 | h5
        · exact .inl h5
        · exact absurd h5 id
    · cases g2
theorem vcon_of_tree {sy : SyT} {Q : Pt → Prop} (hp : ∀ w0, Q w0.r0.pr → POk P w0 sy) {tb : Tb} (htb : TbOk P tb) {L n : Nat} {f : FuncId} {c : VCon} (hsz : Nat.ble (szV c.rs) 1000000 = true) (hT : ∀ x r, (c.T x).val = some r → ∃ T : DT (VD c.rs), runV P sy tb L n f c.as c.rs x = T.run (canonV c.rs) ∧ T.val = some r) : c.Ok P Q f := by
  refine vcon_of_run (L := L) (n := n) hp htb fun x r hx => ?_
  obtain ⟨T, h1, h2⟩ := hT x r hx
  rw [h1, DT.run_val, h2]
  exact canonV_ok hsz
end
end Mo

namespace Mo
open Go

/-! ## Functions whose bools are answered outright -/
noncomputable def impB : (a : AT) → a.D → Tw → Option (Value × Tw)
  | .v .bool, x, W => some (.bool x, W)
  | a, x, W => impA a x W
noncomputable def impBL : (rs : List AT) → AD rs → Tw → Option (List Value × Tw)
  | [], _, W => some ([], W)
  | a :: r, (x, z), W => (impB a x W).bind fun (v, W1) => (impBL r z W1).bind fun (l, W2) => some (v :: l, W2)
noncomputable def impBR : (rs : List AT) → AD rs → Tw → Option (Value × Tw)
  | [a], x, W => impB a x.1 W
  | rs, x, W => (impBL rs x W).bind fun (l, W1) => some (.tuple ⟨l⟩, W1)
theorem Local.impB (a : AT) (x : a.D) : Local (Mo.impB a x) := by
  cases a with
  | v t => cases t <;> first | exact Local.ret _ | exact Local.impA _ x
  | a c => exact Local.impA _ x
theorem Local.impBL : ∀ (rs : List AT) (x : AD rs), Local (Mo.impBL rs x)
  | [], _ => Local.ret _
  | a :: r, x => Local.bind (G := fun v W => (Mo.impBL r x.2 W).bind fun q => some (v :: q.1, q.2)) (Local.impB a x.1) fun v => Local.bind (G := fun l W => some (v :: l, W)) (Local.impBL r x.2) fun l => Local.ret _
theorem Local.impBR : ∀ (rs : List AT) (x : AD rs), Local (Mo.impBR rs x)
  | [], x => Local.bind (G := fun l W => some (Value.tuple ⟨l⟩, W)) (Local.impBL _ x) fun l => Local.ret _
  | [a], x => Local.impB a x.1
  | _ :: _ :: _, x => Local.bind (G := fun l W => some (Value.tuple ⟨l⟩, W)) (Local.impBL _ x) fun l => Local.ret _
structure BCon where
  as : List AT
  rs : List AT
  T : AD as → DT (AD rs)
noncomputable def BCon.F (c : BCon) (args : List Value) (W : Tw) : Option (Value × Tw) := (argsT c.as args W).bind fun p => match (c.T p.1).val with
  | some r => impBR c.rs r p.2
  | none => none
noncomputable def BCon.K (c : BCon) (args : List Value) (W : Tw) (k : Value → Tw → AnV) : AnV :=
  opb (argsT c.as args W) fun x W => (c.T x).run fun r => opb (impBR c.rs r W) k
noncomputable def BCon.call (c : BCon) : CallC := ⟨c.F, c.K⟩
theorem BCon.ko (c : BCon) (args : List Value) (W : Tw) (k : Value → Tw → AnV) (r : Value × Tw) (h : c.K args W k = some r) : ∃ v W', c.F args W = some (v, W') ∧ k v W' = some r := by
  obtain ⟨x, W1, h1, h2⟩ := opb_some h
  rw [DT.run_val] at h2
  cases hf : (c.T x).val with
  | none => rw [hf] at h2; cases h2
  | some q =>
    rw [hf] at h2
    obtain ⟨u, W2, h3, h4⟩ := opb_some h2
    refine ⟨u, W2, ?_, h4⟩
    unfold BCon.F
    rw [h1, Option.bind_some]
    simp only [hf]
    exact h3
theorem BCon.lo (c : BCon) (args : List Value) : Local (c.F args) := by
  refine Local.bind (G := fun x W => match (c.T x).val with
    | some r => impBR c.rs r W
    | none => none) (Local.argsT c.as args) fun x => ?_
  cases (c.T x).val with
  | none => exact Local.fails
  | some r => exact Local.impBR _ _
section
variable {P : Program} {w0 : Bs} {ρ : Ren}
theorem impB_sound {a : AT} {x : a.D} {W W' : Tw} {w : World} {v y : Value} (hW : WR w0 ρ W w) (h : impB a x W = some (v, W')) (hy : a.Rd ρ.pr x y) : Nxt w0 ρ W w W' w fun ρ2 => VR ρ2 v y := by
  cases a with
  | v t =>
    cases t with
    | bool =>
      cases h
      have : y = .bool x := by
        have h2 : Ty.Rd ρ.pr .bool x y := hy
        unfold Ty.Rd at h2
        exact h2
      subst this
      exact .refl hW (.bool _)
    | int k => exact impA_sound (a := .v (.int k)) (x := x) hW (show impA (.v (.int k)) x W = some (v, W') from h) hy
    | str => exact impA_sound (a := .v .str) (x := x) hW (show impA (.v .str) x W = some (v, W') from h) hy
    | sl c => exact impA_sound (a := .v (.sl c)) (x := x) hW (show impA (.v (.sl c)) x W = some (v, W') from h) hy
  | a c => exact impA_sound (a := .a c) (x := x) hW (show impA (.a c) x W = some (v, W') from h) hy
theorem impBL_sound : ∀ {rs : List AT} {x : AD rs} {ρ : Ren} {W W' : Tw} {w : World} {vs ys : List Value}, WR w0 ρ W w → impBL rs x W = some (vs, W') → RdA ρ.pr rs x ys → Nxt w0 ρ W w W' w fun ρ2 => LR' ρ2 vs ys
  | [], x, ρ, W, W', w, vs, ys, hW, h, hy => by
    cases ys with
    | cons => cases hy
    | nil => cases h; exact .refl hW ⟨rfl, fun i h => absurd h (by simp)⟩
  | a :: r, x, ρ, W, W', w, vs, ys, hW, h, hy => by
    cases ys with
    | nil => cases hy
    | cons y s =>
      obtain ⟨v, W1, h1, h2⟩ := bind_some h
      obtain ⟨us, W2, h3, h4⟩ := bind_some h2
      cases h4
      refine (impB_sound hW h1 hy.1).bind fun ρ2 hl hW1 hv => ?_
      have hy2 : RdA ρ2.pr r x.2 s := RdA.mono hl.pr hy.2
      refine (impBL_sound hW1 h3 hy2).mono fun ρ3 hl3 hu => ?_
      refine ⟨by simp [hu.len], fun i h1 h2 => ?_⟩
      cases i with
      | zero => exact hv.le hl3
      | succ i => exact hu.at' i (by simpa using h1) (by simpa using h2)
theorem impBR_sound {rs : List AT} {x : AD rs} {W W' : Tw} {w : World} {v y : Value} (hW : WR w0 ρ W w) (h : impBR rs x W = some (v, W')) (hy : RdR ρ.pr rs x y) : Nxt w0 ρ W w W' w fun ρ2 => VR ρ2 v y := by
  have gen : ∀ {l : List Value} {W1 : Tw} {vs : Array Value}, impBL rs x W = some (l, W1) → RdA ρ.pr rs x vs.toList → Nxt w0 ρ W w W1 w fun ρ2 => VR ρ2 (.tuple ⟨l⟩) (.tuple vs) := by
    intro l W1 vs h1 h2
    exact (impBL_sound hW h1 h2).mono fun ρ2 hl hv => LR_tuple (us := vs.toList) hv
  cases rs with
  | nil =>
    have h' : (impBL [] x W).bind (fun p => some (.tuple ⟨p.1⟩, p.2)) = some (v, W') := h
    obtain ⟨l, W1, h1, h2⟩ := bind_some h'
    cases h2
    obtain ⟨vs, rfl, h3⟩ := hy
    exact gen h1 h3
  | cons a r => cases r with
    | nil => exact impB_sound hW h hy
    | cons b r =>
      have h' : (impBL (a :: b :: r) x W).bind (fun p => some (.tuple ⟨p.1⟩, p.2)) = some (v, W') := h
      obtain ⟨l, W1, h1, h2⟩ := bind_some h'
      cases h2
      obtain ⟨vs, rfl, h3⟩ := hy
      exact gen h1 h3
theorem BCon.xok {Q : Pt → Prop} (hmn : MonoQ Q) {f : FuncId} {c : BCon} (hc : ∀ x r, (c.T x).val = some r → OkAt P Q f c.as c.rs x r) : XOk P Q f c.call := by
  refine ⟨c.lo, c.ko, fun w0 hq0 ρ W w args args' r W' hW hA hr => ?_⟩
  have hr' : c.F args.toList W = some (r, W') := hr
  unfold BCon.F at hr'
  obtain ⟨x, W1, h1, h2⟩ := bind_some hr'
  simp only at h2
  split at h2
  · rename_i y hy
    have hL : LR' ρ args.toList args'.toList := ⟨by simpa using hA.size, fun i h3 h4 => by
      have h3' : i < args.size := by simpa using h3
      have h4' : i < args'.size := by simpa using h4
      have := hA.at' i h3'
      simpa [Array.getD, h3', h4'] using this⟩
    obtain ⟨pr1, k0, k2, k3, k4, k1⟩ := argsT_sound hW hL h1
    refine (hc x y hy pr1 w args' (hmn _ _ (hW.r0.pr.trans k0) hq0) k2.prw k1).mono ?_
    rintro e w' ⟨z, pr', rfl, hb, hle, hok, hn, hr⟩
    obtain ⟨hl, hW2⟩ := k2.grow hb hle hok hn
    obtain ⟨ρ2, m1, m2, m3, m4, m5, m6⟩ := impBR_sound hW2 h2 hr
    refine ⟨ρ2, z, rfl, ⟨((Ren.le_pr k0).trans hl).trans m1, fun k hk => ?_, ?_, m6.trans k4⟩, m3, m4⟩
    · rcases m2 k hk with h5 | h5
      · exact .inl h5
      · exact .inr (by rw [← k3]; exact h5)
    · rw [← k3]; exact m5
  · cases h2
end
end Mo

set_option linter.unusedVariables false
namespace Mo
open Go Go.RowKit

/-! ## What comes in, as its reading tells it -/
/-- All that there is, is protected; and that there is no more in a block. -/
def pt0 (W : World) : Pt := fun b k => match W.heap[b]? with
  | some (.cells c _ _) => some c[k]?
  | _ => none
theorem pt0_ok (W : World) : PrOk (pt0 W) W := by
  intro b k x h
  unfold pt0 at h
  split at h
  · rename_i c e m hb
    cases h
    exact ⟨c, e, m, hb, rfl⟩
  · cases h
theorem pt0_row {W V : World} (h : PrOk (pt0 W) V) {b : Nat} {c : Array Value} {e : TypeId} {m : Nat × Nat} (hb : W.heap[b]? = some (.cells c e m)) : ∃ e' m', V.heap[b]? = some (.cells c e' m') := by
  have hk : ∀ k, pt0 W b k = some c[k]? := fun k => by unfold pt0; rw [hb]
  obtain ⟨c', e', m', h1, -⟩ := h b 0 _ (hk 0)
  refine ⟨e', m', ?_⟩
  obtain rfl : c' = c := Array.ext_getElem? fun k => by
    obtain ⟨c2, e2, m2, h2, h3⟩ := h b k _ (hk k)
    rw [h1] at h2
    cases h2
    exact h3
  exact h1
theorem pt0_cell {W V : World} (h : PrOk (pt0 W) V) {a : Addr} {v : Value} (hc : W.cell? a = some v) : V.cell? a = some v := by
  unfold World.cell? at hc ⊢
  split at hc
  · rename_i c e m hb
    obtain ⟨e', m', h1⟩ := pt0_row h hb
    rw [h1]
    exact hc
  · cases hc
theorem pt0_var {W V : World} (h : PrOk (pt0 W) V) {P : Program} {n : String} {cs : Array Value} (hc : W.var? P n = some cs) : V.var? P n = some cs := by
  unfold World.var? at hc ⊢
  cases hg : P.globalNamed n with
  | none => rw [hg] at hc; cases hc
  | some g =>
    rw [hg, Option.bind_some] at hc
    rw [Option.bind_some]
    split at hc
    · rename_i c e m hb
      obtain ⟨e', m', h1⟩ := pt0_row h hb
      rw [h1]
      exact hc
    · cases hc
theorem pt0_get {W : World} {b k : Nat} {v : Value} (h : W.cell? ⟨b, k, none⟩ = some v) : pt0 W b k = some (some v) := by
  unfold World.cell? at h
  unfold pt0
  split at h
  · rename_i c e m hb
    simp only [Option.isSome_none, Bool.false_eq_true, if_false] at h
    have hb' : W.heap[b]? = some (.cells c e m) := hb
    rw [hb']
    exact congrArg some h
  · cases h
section
variable {H : Type} {enc : TypeId × Value → H} {P : Program} {W : World} {base : Nat} {spare : Nat → Bool} {held : Bool}
/-- A slice whose items are told by one cell each, nil or not. -/
theorem rd_sl1 {t e : TypeId} {r : Reach} {ty : Ty} (ht : P.underlying t = some (.slice e)) (hce : P.cellsOf e = 1)
    (hrd : ∀ n c y, DataW.trod enc P W base spare held n e [c] = some y → ∃ x : ty.D, ty.Rd (pt0 W) x c)
    {n : Nat} {c : Value} {y : DataW H × List MemPlace} {base' : Nat} (hok : Cell.okWide P W r base' t c) (h : DataW.trod enc P W base spare held n t [c] = some y) :
    ∃ l : List ty.D, (Ty.sl (.one ty)).Rd (pt0 W) l c := by
  rcases DataW.trod_slice ht h with ⟨h0, _⟩ | ⟨a, len, cap, elems, rest, m, _, h0, _, hb, hle, hmax, hlen, hel, _, _⟩
  · simp only [List.cons.injEq, and_true] at h0
    subst h0
    exact ⟨[], nil_rd⟩
  simp only [List.cons.injEq, and_true] at h0
  subst h0
  have hsp : a.spot = none := by
    unfold Cell.okWide at hok
    rw [ht] at hok
    unfold Cell.ok at hok
    rw [ht] at hok
    exact hok.2.2.2.1
  obtain ⟨b, off, spot⟩ := a
  obtain rfl : spot = none := hsp
  have hone : ∀ i, i < len → ∃ v, ∃ x : ty.D, W.cell? ⟨b, off + i, none⟩ = some v ∧ ty.Rd (pt0 W) x v := by
    intro i hi
    have h1 := hel i hi
    rw [hce, List.getElem?_eq_getElem (by omega), Option.bind_eq_some_iff] at h1
    obtain ⟨cs, hcs, h2⟩ := h1
    obtain ⟨_, hl, hc⟩ := World.cells?_some hcs
    match cs, hl with
    | [v], _ =>
      obtain ⟨x, hx⟩ := hrd _ _ _ h2
      have h3 := hc 0 (by omega)
      refine ⟨v, x, ?_, hx⟩
      rw [Nat.mul_one, Addr.add_add, Nat.add_zero, Addr.add_mid] at h3
      exact h3
  have hall : ∀ i : Fin len, ∃ x : ty.D, ∃ v, W.cell? ⟨b, off + i.1, none⟩ = some v ∧ ty.Rd (pt0 W) x v := fun i => by
    obtain ⟨v, x, h1, h2⟩ := hone i.1 i.2
    exact ⟨x, v, h1, h2⟩
  obtain ⟨f, hf⟩ := Classical.axiomOfChoice hall
  refine ⟨List.ofFn f, sl_rd.2 ⟨_, cap, by rw [List.length_ofFn], by rw [List.length_ofFn]; exact hle, .inr ⟨b, off, rfl, fun i hi => ?_⟩⟩⟩
  have hi' : i < len := by rw [List.length_ofFn] at hi; exact hi
  obtain ⟨v, h1, h2⟩ := hf ⟨i, hi'⟩
  unfold Tys.Rd
  refine ⟨v, ?_, ?_⟩
  · show pt0 W b (off + i * 1) = _
    rw [Nat.mul_one]
    exact pt0_get h1
  · have e1 : (List.ofFn f).get ⟨i, hi⟩ = f ⟨i, hi'⟩ := by simp
    rw [e1]
    exact h2
theorem rd_i {t : TypeId} {k : IntKind} (ht : P.underlying t = some (.int k)) {n : Nat} {c : Value} {y : DataW H × List MemPlace} (h : DataW.trod enc P W base spare held n t [c] = some y) : ∃ z, c = .int k z := by
  obtain ⟨z, h1, _⟩ := DataW.trod_int ht h
  exact ⟨z, by simpa using h1⟩
end
end Mo

