import Derived.Test.YtbhjimflcfnpaaaGreatDoorK4
import Derived.Below
import Derived.Orders
import Derived.Deep.LoopGhost
set_option linter.all false
namespace Mo
open Go

/-! ## Contracts: what a function answers, told of typed values -/
inductive AT where
  | v (t : Ty)
  | a (c : Tys)
@[reducible] def AT.D : AT → Type
  | .v t => t.D
  | .a c => c.D
@[reducible] def AD : List AT → Type
  | [] => Unit
  | a :: r => a.D × AD r
def AT.Rd (pr : Pt) : (a : AT) → a.D → Value → Prop
  | .v t, x, y => t.Rd pr x y
  | .a c, x, y => ∃ vs : Array Value, y = .agg vs ∧ vs.size = c.n ∧ c.At pr x vs 0
def RdA (pr : Pt) : (as : List AT) → AD as → List Value → Prop
  | [], _, [] => True
  | a :: r, x, y :: s => a.Rd pr x.1 y ∧ RdA pr r x.2 s
  | _, _, _ => False
def RdR (pr : Pt) : (rs : List AT) → AD rs → Value → Prop
  | [a], x, y => a.Rd pr x.1 y
  | rs, x, y => ∃ vs : Array Value, y = .tuple vs ∧ RdA pr rs x vs.toList
def PrOk (pr : Pt) (w : World) : Prop := ∀ b k x, pr b k = some x → ∃ c e m, w.heap[b]? = some (.cells c e m) ∧ c[k]? = x
/-- What is asked of what is protected from the beginning on. -/
def MonoQ (Q : Pt → Prop) : Prop := ∀ p q, Pt.le p q → Q p → Q q
structure Con where
  as : List AT
  rs : List AT
  pre : AD as → Bool
  fn : AD as → AD rs
noncomputable def Con.F (c : Con) (x : AD c.as) : Option (AD c.rs) := Bool.rec (motive := fun _ => Option (AD c.rs)) none (some (c.fn x)) (c.pre x)
theorem Con.F_some {c : Con} {x : AD c.as} {r : AD c.rs} (h : c.F x = some r) : c.pre x = true ∧ c.fn x = r := by
  unfold Con.F at h
  cases hp : c.pre x with
  | false => rw [hp] at h; cases h
  | true => rw [hp] at h; cases h; exact ⟨rfl, rfl⟩
def Con.Ok (P : Program) (Q : Pt → Prop) (f : FuncId) (c : Con) : Prop := ∀ (pr : Pt) (w : World) (args : Array Value) (x : AD c.as) (r : AD c.rs), Q pr → PrOk pr w → RdA pr c.as x args.toList → c.F x = some r →
  Calls P f args w fun e w' => ∃ y pr', e = .returned y ∧ RowKit.Below w.heap.size w w' ∧ pr.le pr' ∧ PrOk pr' w' ∧ (∀ b k, pr b k = none → pr' b k ≠ none → w.heap.size ≤ b) ∧ RdR pr' c.rs r y

noncomputable def argA : (a : AT) → Value → Tw → Option (a.D × Tw)
  | .v t => argV t
  | .a c => fun v W => match v with
    | .agg ⟨l⟩ => argC c l W
    | _ => none
noncomputable def argsT : (as : List AT) → List Value → Tw → Option (AD as × Tw)
  | [], [], W => some ((), W)
  | a :: r, v :: vs, W => (argA a v W).bind fun (x, W1) => (argsT r vs W1).bind fun (y, W2) => some ((x, y), W2)
  | _, _, _ => none
/-- A result, laid. -/
noncomputable def impA : (a : AT) → a.D → Tw → Option (Value × Tw)
  | .v t, x, W => symN ⟨t, x⟩ W
  | .a c, x, W => (symL (c.tvs x) W).bind fun (l, W1) => some (.agg ⟨l⟩, W1)
noncomputable def impL : (rs : List AT) → AD rs → Tw → Option (List Value × Tw)
  | [], _, W => some ([], W)
  | a :: r, x, W => (impA a x.1 W).bind fun (v, W1) => (impL r x.2 W1).bind fun (l, W2) => some (v :: l, W2)
noncomputable def impR : (rs : List AT) → AD rs → Tw → Option (Value × Tw)
  | [a], x, W => impA a x.1 W
  | rs, x, W => (impL rs x W).bind fun (l, W1) => some (.tuple ⟨l⟩, W1)
noncomputable def conT (c : Con) (args : List Value) (W : Tw) : Option (Value × Tw) := (argsT c.as args W).bind fun p => match c.F p.1 with
  | some r => impR c.rs r p.2
  | none => none
theorem Local.argA (a : AT) (v : Value) : Local (Mo.argA a v) := by
  cases a with
  | v t => exact Local.argV t v
  | a c => cases v <;> first | exact Local.argC c _ | exact Local.fails
theorem Local.argsT : ∀ (as : List AT) (vs : List Value), Local (Mo.argsT as vs)
  | [], [] => Local.ret _
  | [], _ :: _ => Local.fails
  | _ :: _, [] => Local.fails
  | a :: r, v :: vs => Local.bind (G := fun x W => (Mo.argsT r vs W).bind fun q => some ((x, q.1), q.2)) (Local.argA a v) fun x => Local.bind (G := fun z W => some ((x, z), W)) (Local.argsT r vs) fun z => Local.ret _
theorem Local.impA : ∀ (a : AT) (x : a.D), Local (Mo.impA a x)
  | .v t, x => Local.symN _
  | .a c, x => Local.bind (G := fun l W => some (Value.agg ⟨l⟩, W)) (Local.symL _) fun l => Local.ret _
theorem Local.impL : ∀ (rs : List AT) (x : AD rs), Local (Mo.impL rs x)
  | [], _ => Local.ret _
  | a :: r, x => Local.bind (G := fun v W => (Mo.impL r x.2 W).bind fun q => some (v :: q.1, q.2)) (Local.impA a x.1) fun v => Local.bind (G := fun l W => some (v :: l, W)) (Local.impL r x.2) fun l => Local.ret _
theorem Local.impR : ∀ (rs : List AT) (x : AD rs), Local (Mo.impR rs x)
  | [], x => Local.bind (G := fun l W => some (Value.tuple ⟨l⟩, W)) (Local.impL _ x) fun l => Local.ret _
  | [a], x => Local.impA a x.1
  | _ :: _ :: _, x => Local.bind (G := fun l W => some (Value.tuple ⟨l⟩, W)) (Local.impL _ x) fun l => Local.ret _
theorem Local.conT (c : Con) (args : List Value) : Local (Mo.conT c args) := by
  refine Local.bind (G := fun x W => match c.F x with
    | some r => Mo.impR c.rs r W
    | none => none) (Local.argsT c.as args) fun x => ?_
  cases c.F x with
  | none => exact Local.fails
  | some r => exact Local.impR c.rs r

section
variable {P : Program} {w0 : Bs} {ρ : Ren}
theorem argA_sound {a : AT} {v y : Value} {W W' : Tw} {w : World} {x : a.D} (hW : WR w0 ρ W w) (hv : VR ρ v y) (h : argA a v W = some (x, W')) : Fz w0 ρ W w W' fun ρ' => a.Rd ρ'.pr x y := by
  cases a with
  | v t => exact argV_sound t hW hv h
  | a c =>
    cases v <;> try (cases h; done)
    rename_i l
    obtain ⟨l⟩ := l
    have h' : argC c l W = some (x, W') := h
    cases hv with
    | agg hx hh =>
      rename_i xs'
      obtain ⟨k1, k2⟩ := argC_sound c (a := xs') (o := 0) hW (fun i hi => by
        have := hh i (by simpa using hi)
        rw [Nat.zero_add]
        simpa [Array.getD, hi] using this) h'
      exact k2.mono fun ρ' _ k3 => ⟨xs', rfl, by rw [← k1]; exact hx.symm, k3⟩
theorem AT.Rd.mono {p q : Pt} (h : Pt.le p q) {a : AT} {x : a.D} {y : Value} (hr : a.Rd p x y) : a.Rd q x y := by
  cases a with
  | v t => exact Ty.Rd.mono h t hr
  | a c => obtain ⟨vs, k1, k2, k3⟩ := hr; exact ⟨vs, k1, k2, k3.mono h⟩
theorem RdA.mono {p q : Pt} (h : Pt.le p q) : ∀ {as : List AT} {x : AD as} {l : List Value}, RdA p as x l → RdA q as x l
  | [], _, [], hr => hr
  | [], _, _ :: _, hr => hr
  | _ :: _, _, [], hr => hr
  | _ :: _, _, _ :: _, hr => ⟨AT.Rd.mono h hr.1, RdA.mono h hr.2⟩
theorem argsT_sound : ∀ {as : List AT} {vs ys : List Value} {ρ : Ren} {W W' : Tw} {w : World} {x : AD as}, WR w0 ρ W w → LR' ρ vs ys → argsT as vs W = some (x, W') → Fz w0 ρ W w W' fun ρ' => RdA ρ'.pr as x ys
  | [], [], ys, ρ, W, W', w, x, hW, hv, h => by
    cases h
    cases ys with
    | nil => exact .refl hW trivial
    | cons y s => have := hv.len; simp at this
  | [], _ :: _, ys, ρ, W, W', w, x, hW, hv, h => by cases h
  | _ :: _, [], ys, ρ, W, W', w, x, hW, hv, h => by cases h
  | a :: r, v :: vs, ys, ρ, W, W', w, x, hW, hv, h => by
    cases ys with
    | nil => have := hv.len; simp at this
    | cons y s =>
      obtain ⟨p, W1, h1, h2⟩ := bind_some h
      obtain ⟨q, W2, h3, h4⟩ := bind_some h2
      cases h4
      refine (argA_sound hW (hv.at' 0 (by simp) (by simp)) h1).bind fun ρ1 hl1 hW1 k1 => ?_
      refine (argsT_sound (ys := s) hW1 ⟨by simpa using hv.len, fun i h1 h2 => (hv.at' (i + 1) (by simpa using h1) (by simpa using h2)).le hl1⟩ h3).mono fun ρ2 hl2 k2 => ?_
      exact ⟨AT.Rd.mono hl2.pr k1, k2⟩
theorem impA_sound {a : AT} {x : a.D} {W W' : Tw} {w : World} {v y : Value} (hW : WR w0 ρ W w) (h : impA a x W = some (v, W')) (hy : a.Rd ρ.pr x y) : Nxt w0 ρ W w W' w fun ρ2 => VR ρ2 v y := by
  cases a with
  | v t => exact symN_sound hW h hy
  | a c =>
    obtain ⟨l, W1, h1, h2⟩ := bind_some h
    cases h2
    obtain ⟨vs, rfl, h3, h4⟩ := hy
    refine (symL_sound hW h1 h4.cells).mono fun ρ2 hl hv => ?_
    have hlen := hv.len
    simp only [List.length_map, List.length_range] at hlen
    refine .agg (by simp [hlen, h3]) fun i hi => ?_
    have hi' : i < l.length := by simpa using hi
    have := hv.at' i hi' (by simp; omega)
    simpa [Array.getD, hi'] using this
theorem impL_sound : ∀ {rs : List AT} {x : AD rs} {ρ : Ren} {W W' : Tw} {w : World} {vs ys : List Value}, WR w0 ρ W w → impL rs x W = some (vs, W') → RdA ρ.pr rs x ys → Nxt w0 ρ W w W' w fun ρ2 => LR' ρ2 vs ys
  | [], x, ρ, W, W', w, vs, ys, hW, h, hy => by
    cases ys with
    | cons => cases hy
    | nil => cases h; exact .refl hW ⟨rfl, fun i h => absurd h (by simp)⟩
  | a :: r, x, ρ, W, W', w, vs, ys, hW, h, hy => by
    cases ys with
    | nil => cases hy
    | cons y s =>
      obtain ⟨v, W1, h1, h2⟩ := bind_some h
      obtain ⟨us, W2, h3, h4⟩ := bind_some h2
      cases h4
      refine (impA_sound hW h1 hy.1).bind fun ρ2 hl hW1 hv => ?_
      have hy2 : RdA ρ2.pr r x.2 s := RdA.mono hl.pr hy.2
      refine (impL_sound hW1 h3 hy2).mono fun ρ3 hl3 hu => ?_
      refine ⟨by simp [hu.len], fun i h1 h2 => ?_⟩
      cases i with
      | zero => exact hv.le hl3
      | succ i => exact hu.at' i (by simpa using h1) (by simpa using h2)
theorem impR_sound {rs : List AT} {x : AD rs} {W W' : Tw} {w : World} {v y : Value} (hW : WR w0 ρ W w) (h : impR rs x W = some (v, W')) (hy : RdR ρ.pr rs x y) : Nxt w0 ρ W w W' w fun ρ2 => VR ρ2 v y := by
  have gen : ∀ {l : List Value} {W1 : Tw} {vs : Array Value}, impL rs x W = some (l, W1) → RdA ρ.pr rs x vs.toList → Nxt w0 ρ W w W1 w fun ρ2 => VR ρ2 (.tuple ⟨l⟩) (.tuple vs) := by
    intro l W1 vs h1 h2
    refine (impL_sound hW h1 h2).mono fun ρ2 hl hv => ?_
    have hlen := hv.len
    refine .tuple (by simpa using hlen) fun i hi => ?_
    have hi' : i < l.length := by simpa using hi
    have hi2 : i < vs.size := by have := hlen; simp at this; omega
    have := hv.at' i hi' (by simpa using hi2)
    simpa [Array.getD, hi', hi2] using this
  cases rs with
  | nil =>
    have h' : (impL [] x W).bind (fun p => some (.tuple ⟨p.1⟩, p.2)) = some (v, W') := h
    obtain ⟨l, W1, h1, h2⟩ := bind_some h'
    cases h2
    obtain ⟨vs, rfl, h3⟩ := hy
    exact gen h1 h3
  | cons a r => cases r with
    | nil => exact impA_sound hW h hy
    | cons b r =>
      have h' : (impL (a :: b :: r) x W).bind (fun p => some (.tuple ⟨p.1⟩, p.2)) = some (v, W') := h
      obtain ⟨l, W1, h1, h2⟩ := bind_some h'
      cases h2
      obtain ⟨vs, rfl, h3⟩ := hy
      exact gen h1 h3
/-- More is protected; what is old stays. -/
theorem WR.grow {W : Tw} {w w' : World} (h : WR w0 ρ W w) (hb : RowKit.Below w.heap.size w w') {pr' : Pt} (hp : ρ.pr.le pr') (hok : PrOk pr' w') (hn : ∀ b k, ρ.pr b k = none → pr' b k ≠ none → w.heap.size ≤ b) :
    ρ.le { ρ with pr := pr' } ∧ WR w0 { ρ with pr := pr' } W w' := by
  have hl : ρ.le { ρ with pr := pr' } := ⟨fun _ h => h, fun _ _ => rfl, fun _ _ => rfl, fun _ _ => rfl, fun _ _ => rfl, fun _ _ => rfl, fun _ _ => rfl, hp, fun _ _ => rfl⟩
  refine ⟨hl, ⟨fun n r hn => (h.row n r hn).keep hl (h.dom n r hn) (fun hph => hb.block _ ((h.row n r hn).lt hph)), h.dom, h.mine, h.sep, hok, fun n r hg hph k => ?_, fun b k h0 h1 => ?_, h.free, h.lim, h.small, hb.os.trans h.os, hb.tape.trans h.tape, hb.output.trans h.output, Nat.le_trans h.size hb.size, fun b hlt hx => ?_, h.r0.trans hl⟩⟩
  · have h1 := h.prd n r hg hph k
    cases hk : pr' (ρ.b n) k with
    | none => exact hk
    | some x =>
      have := hn _ _ h1 (by rw [hk]; simp)
      have := (h.row n r hg).lt hph
      omega
  · by_cases h2 : ρ.pr b k = none
    · exact .inl (Nat.le_trans h.size (hn b k h2 h1))
    · exact h.prn b k h0 h2
  · rw [hb.block b (Nat.lt_of_lt_of_le hlt h.size)]
    exact h.old b hlt hx
end
end Mo

namespace Mo
open Go

/-! ## One operation on the twin -/
theorem VR_plain {ρ : Ren} : ∀ (f : Nat) {x y : Value}, plainD f x = true → VR ρ x y → x = y := by
  intro f
  have ext : ∀ {xs ys : Array Value}, xs.size = ys.size → (∀ i, i < xs.size → xs.getD i undef = ys.getD i undef) → xs = ys := by
    intro xs ys hs h
    apply Array.ext hs
    intro i h1 h2
    have := h i h1
    simpa [Array.getD, h1, h2] using this
  induction f with
  | zero => intro x y h; cases h
  | succ f ih =>
    intro x y h hv
    cases hv with
    | ptr a hd => cases h
    | sl a l c hd hb => cases h
    | slo a l c hd e => cases h
    | map r hd => cases h
    | yld n hd => cases h
    | sym n y hd hm hb => cases h
    | any y => cases h
    | gho n y hn hm => cases h
    | func fn hf h1 h2 h3 h4 =>
      simp only [plainD, Bool.and_eq_true] at h
      rw [ext h1 fun i hi => ih (all_getD h.1.2 i hi) (h3 i hi), ext h2 fun i hi => ih (all_getD h.2 i hi) (h4 i hi)]
    | iface t hv => rw [ih h hv]
    | agg h1 h3 => rw [ext h1 fun i hi => ih (all_getD h i hi) (h3 i hi)]
    | tuple h1 h3 => rw [ext h1 fun i hi => ih (all_getD h i hi) (h3 i hi)]
    | _ => rfl

noncomputable def depth : Nat := 6
/-- What an operand is in the twin. -/
noncomputable def ev (sl : Nat → Value) : Operand → Value
  | .tmp t => sl t
  | .const v => v
  | .func f => .func (.func f) #[] #[]
  | .global _ => undef
noncomputable def opdOk : Operand → Bool
  | .tmp _ | .func _ => true
  | .const v => plainD depth v
  | .global _ => false
/-- Operations that look at no memory where their operands name nothing. -/
noncomputable def quietOp : Op → Bool
  | .alloc _ | .box _ _ | .buildSlice _ _ _ | .load _ _ | .store _ _ _ | .makeSlice _ _ _ | .makeMap _ _ | .select _ _ => false
  | .call c => match c.callee with
    | .builtin _ => true
    | _ => false
  | _ => true
/-- What is reckoned with no memory. -/
noncomputable def quietB (P : Program) (f : Nat → Value) (o : Oper) : Option Value := match runT P (execOp (ev f) o) Tw.emp with
    | some (.value v, _) => if plainD depth v then some v else none
    | _ => none
noncomputable def quietT (P : Program) (f : Nat → Value) (o : Oper) : Option Value :=
  if quietOp o.op && o.op.operands.all (fun x => plainD depth (ev f x)) then quietB P f o else none
/-- Calls of what the model answers of itself. -/
noncomputable def exOp : Op → Bool
  | .call c => match c.callee with
    | .value _ => true
    | _ => false
  | _ => false
noncomputable def exT (P : Program) (f : Nat → Value) (o : Oper) : Option Value :=
  if exOp o.op && o.op.operands.all (fun x => plainD depth (ev f x)) then quietB P f o else none
/-- Operations whose own rule is the quicker one. -/
noncomputable def spFirst : Op → Bool
  | .makeSlice _ _ _ => true
  | _ => false
inductive Ex where
  | normal
  | exit (id : Nat)
  | ret
abbrev AnV := Option (Value × Tw)
/-- A call of which it is known what it yields: as a function, and with what follows it. -/
structure CallC where
  F : List Value → Tw → Option (Value × Tw)
  K : List Value → Tw → (Value → Tw → AnV) → AnV
/-- A loop of which it is known what it yields. -/
structure LoopC where
  F : Tr Value → Tw → Option ((Ex × Tr Value) × Tw)
  K : Tr Value → Tw → (Ex → Tr Value → Tw → AnV) → AnV
structure SyT where
  kn : FuncId → Option CallC
  lp : FuncId → Nat → Option LoopC
def noSy : SyT := ⟨fun _ => none, fun _ _ => none⟩
noncomputable def isSy : Value → Bool
  | .chan (some _) => true
  | _ => false
noncomputable def isSyA : Value → Bool
  | .agg ⟨l⟩ => l.any isSy
  | v => isSy v
noncomputable def oSy (ev : Operand → Value) : Option Operand → Bool
  | some x => isSy (ev x)
  | none => false
/-- Operations over symbols. -/
noncomputable def hasSy (ev : Operand → Value) : Op → Bool
  | .binOp _ _ x y _ => isSyA (ev x) || isSyA (ev y)
  | .unOp _ _ x | .convert _ _ x => isSy (ev x)
  | .pick c _ _ => isSy (ev c)
  | .index _ x i => isSy (ev x) || isSy (ev i)
  | .indexAddr _ x _ => isSy (ev x)
  | .load _ x | .store _ x _ | .fieldAddr _ x _ | .nilCheck x => isSy (ev x)
  | .slice _ x lo hi _ => isSy (ev x) || (oSy ev lo || oSy ev hi)
  | .lookup _ _ i _ => isSy (ev i)
  | .makeSlice _ x _ => isSy (ev x)
  | .call c => match c.callee, c.args.toList with
    | .builtin .len, [x] => isSy (ev x)
    | .builtin .append, [s, x] => isSy (ev s) || isSy (ev x)
    | .builtin .min, xs => xs.any fun x => isSy (ev x)
    | .builtin .max, xs => xs.any fun x => isSy (ev x)
    | _, _ => false
  | _ => false
noncomputable def opT (P : Program) (_sy : SyT) (f : Nat → Value) (o : Oper) (W : Tw) : Option (Next × Tw) :=
  if o.op.operands.all opdOk then
    match hasSy (ev f) o.op with
    | true => symR P (ev f) o.op W
    | false => match quietT P f o with
      | some v => some (.value v, W)
      | none => if !spFirst o.op && opOk P (ev f) o then runT P (execOp (ev f) o) W else match exT P f o with
        | some v => some (.value v, W)
        | none => (spT P (ev f) o W).bind fun p => some (.value p.1, p.2)
  else none
theorem Local.opT (P : Program) (sy : SyT) (f : Nat → Value) (o : Oper) : Local (Mo.opT P sy f o) := by
  unfold Mo.opT
  split
  · split
    · exact Local.symR _ _ _
    · split
      · exact Local.ret _
      · split
        · exact runT_local _
        · split
          · exact Local.ret _
          · exact Local.bind (Local.spT P (ev f) o) fun v => Local.ret (Next.value v)
  · exact Local.fails

structure SR (ρ : Ren) (sl : Nat → Value) (a : Act) : Prop where
  at' : ∀ t, VR ρ (sl t) (a.tmps.getD t undef)

section
variable {P : Program} {w0 : Bs} {ρ : Ren}
theorem ev_VR {sl : Nat → Value} {a : Act} {x : Operand} (h : ∀ t, x = .tmp t → VR ρ (sl t) (a.tmps.getD t undef)) (hx : opdOk x = true) : VR ρ (ev sl x) (a.eval x) := by
  cases x with
  | tmp t => exact h t rfl
  | const v => exact plain_VR ρ _ v hx
  | func f => exact .func _ rfl rfl rfl (fun i hi => absurd hi (by simp)) (fun i hi => absurd hi (by simp))
  | global g => cases hx

theorem op_sound {sy : SyT} (hzs : ZSz P) {W W' : Tw} {w : World} {sl : Nat → Value} {a : Act} {o : Oper} {n : Next} (hW : WR w0 ρ W w) (hs : ∀ t, .tmp t ∈ o.op.operands → VR ρ (sl t) (a.tmps.getD t undef)) (h : opT P sy sl o W = some (n, W')) :
    ∃ ρ2 m w', ρ.le ρ2 ∧ (∀ k, ρ2.dom k → ρ.dom k ∨ (W.nx ≤ k ∧ k < W'.nx)) ∧ WR w0 ρ2 W' w' ∧ (execOp a.eval o).run P w = .ok m w' ∧ NR ρ2 n m ∧ W.nx ≤ W'.nx ∧ W'.lim = W.lim := by
  unfold opT at h
  split at h
  · rename_i hop
    rw [Array.all_eq_true_iff_forall_mem] at hop
    have hv : ∀ x ∈ o.op.operands, VR ρ (ev sl x) (a.eval x) := fun x hx => ev_VR (fun t ht => hs t (ht ▸ hx)) (hop x hx)
    have qB : ∀ v, (∀ cs b, o.op ≠ .select cs b) → (o.op.operands.all (fun x => plainD depth (ev sl x))) = true → quietB P sl o = some v →
        ∃ ρ2 m w', ρ.le ρ2 ∧ (∀ k, ρ2.dom k → ρ.dom k ∨ (W.nx ≤ k ∧ k < W.nx)) ∧ WR w0 ρ2 W w' ∧ (execOp a.eval o).run P w = .ok m w' ∧ NR ρ2 (.value v) m ∧ W.nx ≤ W.nx ∧ W.lim = W.lim := by
      intro v hsel hpl hq0
      rw [Array.all_eq_true_iff_forall_mem] at hpl
      have he : ∀ x ∈ o.op.operands, ev sl x = a.eval x := fun x hx => VR_plain _ (hpl x hx) (hv x hx)
      unfold quietB at hq0
      split at hq0
      · rename_i v' T hr
        split at hq0
        · rename_i hp
          cases hq0
          obtain ⟨-, h2⟩ := quiet _ rfl rfl hr
          refine ⟨ρ, .value v, w, .rfl', fun k hk => .inl hk, hW, ?_, .value (plain_VR ρ _ v hp), Nat.le_refl _, rfl⟩
          rw [← execOp_congr o hsel he]
          exact h2 w
        · cases hq0
      · cases hq0
    split at h
    · obtain ⟨m, w', e1, ρ2, e2, e3, e4, e5, e6, e7⟩ := symR_sound hv hW h
      exact ⟨ρ2, m, w', e2, e3, e4, e1, e5, e6, e7⟩
    · split at h
      · rename_i v hq0
        cases h
        unfold quietT at hq0
        split at hq0
        · rename_i hq
          simp only [Bool.and_eq_true] at hq
          exact qB _ (fun cs b hc => by rw [hc] at hq; exact absurd hq.1 Bool.false_ne_true) hq.2 hq0
        · cases hq0
      · split at h
        · rename_i hok
          simp only [Bool.and_eq_true] at hok
          have hok := hok.2
          obtain ⟨ρ2, m, w', e1, e2, e3, e4, e5, e6, e7⟩ := sim_op trivial hzs hv hok ρ W w n W' .rfl' hW h
          exact ⟨ρ2, m, w', e1, e2, e3, e4, e5, e6, e7⟩
        · split at h
          · rename_i v hq0
            cases h
            unfold exT at hq0
            split at hq0
            · rename_i hq
              simp only [Bool.and_eq_true] at hq
              exact qB _ (fun cs b hc => by rw [hc] at hq; exact absurd hq.1 Bool.false_ne_true) hq.2 hq0
            · cases hq0
          · obtain ⟨v, W1, h1, h2⟩ := bind_some h
            cases h2
            obtain ⟨ρ2, y, w', e1, e2, e3, e4, e5, e6, e7⟩ := sp_sound hv hW h1
            exact ⟨ρ2, _, w', e1, e2, e3, e4, .value e5, e6, e7⟩
  · cases h
end
end Mo

namespace Mo
open Go

/-! ## Code on the twin -/
noncomputable def getS (sl : Tr Value) (t : Nat) : Value := (sl.get t).getD undef
noncomputable def putS (N : Nat) (d : Option Nat) (v : Value) (sl : Tr Value) : Option (Tr Value) := match d with
  | none => some sl
  | some t => if Nat.blt t N && Nat.blt t 1073741824 then fT (some v) 31 sl t fun t => some t else none
abbrev CallT := FuncId → Array Value → Tw → Option (Value × Tw)
abbrev RndT := Nat → Array Value → Code → Code → Tw → Option (Value × Tw)
abbrev OpF := (Nat → Value) → Oper → Tw → Option (Next × Tw)
noncomputable def castB : TV → Option Bool
  | ⟨.bool, b⟩ => some b
  | _ => none
theorem castB_some {p : TV} {b : Bool} (h : castB p = some b) : p = ⟨.bool, b⟩ := by
  obtain ⟨t, x⟩ := p
  cases t <;> first | (cases h; done) | (cases h; rfl)
/-- A bool, or a symbol that stands for one. -/
noncomputable def condT (v : Value) (W : Tw) : Option (Bool × Tw) := match v with
  | .bool b => some (b, W)
  | v => (payT v W).bind fun p => (castB p.1).map fun b => (b, p.2)
/-- A condition. -/
noncomputable def condO (sl : Nat → Value) (x : Operand) (W : Tw) : Option (Bool × Tw) := match x with
  | .tmp t => condT (sl t) W
  | .const (.bool b) => some (b, W)
  | _ => none
/-- Whether a guarded operation is wanted. -/
noncomputable def wantT (ops : Array Oper) (f : Nat → Value) (o : Oper) (W : Tw) : Option (Bool × Tw) := match o.guard with
  | none => some (true, W)
  | some (j, b) => match (ops[j]?).bind (·.dst) with
    | some d => match f d with
      | .tuple _ => some (false, W)
      | v => (condT v W).bind fun p => some (p.1 == b, p.2)
    | none => none
noncomputable def finT (call : CallT) (rnd : RndT) : Next → Tw → Option (Value × Tw)
  | .value v, W => some (v, W)
  | .skip, W => some (undef, W)
  | .enter g args, W => call g args W
  | .round l _ ts as bd, W => rnd l ts as bd W
  | _, _ => none
/-- What an operation yields is reckoned out: as far as it isn't already. -/
noncomputable def forV {α : Type} (o : Oper) (v : Value) (k : Value → α) : α := match o.op with
  | .move _ => fW v k
  | .assign _ => fW v k
  | .pick _ _ _ => fW v k
  | .extract _ _ => fW v k
  | .nilCheck _ => fW v k
  | .store _ _ _ => k v
  | .load _ _ => fW v k
  | .call c => match c.callee with
    | .value _ => fW v k
    | _ => fV 7 v k
  | _ => fV 7 v k
theorem forV_eq {α : Type} {o : Oper} {v : Value} {k : Value → α} : forV o v k = k v := by
  unfold forV; repeat' split
  all_goals simp only [fV_eq, fW_eq]
noncomputable def opV (op : OpF) (call : CallT) (rnd : RndT) (ops : Array Oper) (o : Oper) (f : Nat → Value) (W : Tw) : Option (Value × Tw) := (wantT ops f o W).bind fun q => match q.1 with
  | true => (op f o q.2).bind fun p => finT call rnd p.1 p.2
  | false => some (undef, q.2)
/-- With a log of its own. -/
noncomputable def subT {α : Type} (F : Tw → Option (α × Tw)) (W : Tw) : Option ((α × Lg × Lg) × Tw) := match W with
  | ⟨t, nx, lim, rd0, wr0⟩ => (F ⟨t, nx, lim, [], []⟩).bind fun p => match p with
    | (a, ⟨t, nx, lim, rd, wr⟩) => Lg.fjoin rd0 rd fun rd1 => Lg.fjoin wr0 wr fun wr1 => some ((a, rd, wr), ⟨t, nx, lim, rd1, wr1⟩)
theorem subT_eq {α : Type} (F : Tw → Option (α × Tw)) (W : Tw) : subT F W =
    (F { W with rd := [], wr := [] }).map fun p => ((p.1, p.2.rd, p.2.wr), { p.2 with rd := Lg.join W.rd p.2.rd, wr := Lg.join W.wr p.2.wr }) := by
  obtain ⟨t, nx, lim, rd, wr⟩ := W
  unfold subT
  simp only
  cases F ⟨t, nx, lim, [], []⟩ with
  | none => rfl
  | some p => simp only [Option.bind_some, Lg.fjoin_eq, Option.map_some]
noncomputable def evL (op : OpF) (call : CallT) (rnd : RndT) (N : Nat) (ops : Array Oper) : List Oper → Tr Value → Tw → Option (Tr Value × Tw)
  | [], sl, W => some (sl, W)
  | o :: r, sl, W => (opV op call rnd ops o (getS sl) W).bind fun p => match p with
    | (v, W') => forV o v fun v => match putS N o.dst v sl with
      | some sl' => evL op call rnd N ops r sl' W'
      | none => none
noncomputable def evD (op : OpF) (call : CallT) (rnd : RndT) (N : Nat) (ops : Array Oper) : List Oper → Tr Value → Tw → Option ((Tr Value × List (Lg × Lg)) × Tw)
  | [], sl, W => some ((sl, []), W)
  | o :: r, sl, W => (subT (opV op call rnd ops o (getS sl)) W).bind fun p => match p with
    | ((v, lg), W') => forV o v fun v => match putS N o.dst v sl with
      | some sl' => (evD op call rnd N ops r sl' W').bind fun q => match q with
        | ((s, ls), W2) => some ((s, lg :: ls), W2)
      | none => none

/-- Memory: who is not told to wait touches nothing that the other one writes. -/
noncomputable def memAll (m : Nat) (b : Lg × Lg) : List (Lg × Lg) → Nat → Bool
  | [], _ => true
  | a :: r, j => (match a, b with
      | ([], []), _ => true
      | _, ([], []) => true
      | (r1, w1), (r2, w2) => m.testBit j || (Lg.disj w1 r2 && Lg.disj w1 w2 && Lg.disj r1 w2)) && memAll m b r (j + 1)
noncomputable def memOk (ms : List Nat) (all : List (Lg × Lg)) : List (Lg × Lg) → Nat → Bool
  | [], _ => true
  | b :: r, i => (match b with
      | ([], []) => true
      | _ => memAll (ms.getD i 0) b (all.take i) 0) && memOk ms all r (i + 1)
abbrev St := Tr Value × List Nat
/-- The slots as a row. -/
noncomputable def arrL (sl : Tr Value) : Nat → Nat → List Value
  | _, 0 => []
  | k, n + 1 => getS sl k :: arrL sl (k + 1) n
/-- The blocks that a range over a function leaves to be shut. -/
def mkN : List Deferred → Option (List Nat)
  | [] => some []
  | d :: r => match d.target, d.args, mkN r with
    | .collected n, ⟨[]⟩, some l => some (n :: l)
    | _, _, _ => none
/-- The first region of a code. -/
def hdC : Code → Option Nat
  | .region id _ _ => some id
  | .seq a b => match hdC a with
    | some n => some n
    | none => hdC b
  | .block _ b => hdC b
  | .loop b => hdC b
  | .scope b => hdC b
  | _ => none
/-- What is known of a loop. -/
def lpOf (lp : Nat → Option LoopC) (b : Code) : Option LoopC := match hdC b with
  | some n => lp n
  | none => none
noncomputable def evC (P : Program) (op : OpF) (call : CallT) (rnd : RndT) (cl : FuncId → Bool) (ro : Option Nat) (lp : Nat → Option LoopC) (N : Nat) : Nat → Code → St → Tw → Option ((Ex × St) × Tw)
  | 0, _, _, _ => none
  | n + 1, c, s, W => match c with
    | .skip => some ((.normal, s), W)
    | .label _ => some ((.normal, s), W)
    | .ret => some ((.ret, s), W)
    | .exit id => some ((.exit id, s), W)
    | .seq a b => (evC P op call rnd cl ro lp N n a s W).bind fun p => match p.1 with
      | (.normal, s') => evC P op call rnd cl ro lp N n b s' p.2
      | r => some (r, p.2)
    | .cond x a b => (condO (getS s.1) x W).bind fun q => match q.1 with
      | true => evC P op call rnd cl ro lp N n a s q.2
      | false => evC P op call rnd cl ro lp N n b s q.2
    | .block id b => (evC P op call rnd cl ro lp N n b s W).bind fun p => match p.1 with
      | (.exit i, s') => if i = id then some ((.normal, s'), p.2) else some ((.exit i, s'), p.2)
      | r => some (r, p.2)
    | .loop b => match lpOf lp b with
      | some c => match s.2 with
        | [] => (c.F s.1 W).bind fun p => some ((p.1.1, (p.1.2, [])), p.2)
        | _ :: _ => none
      | none => (evC P op call rnd cl ro lp N n b s W).bind fun p => match p.1 with
        | (.normal, s') => evC P op call rnd cl ro lp N n (.loop b) s' p.2
        | r => some (r, p.2)
    | .region _ ops false => (evL op call rnd N ops ops.toList s.1 W).bind fun p => some ((.normal, (p.1, s.2)), p.2)
    | .region _ ops true => if Nat.ble W.nx W.lim then (evD op call rnd N ops ops.toList s.1 W).bind fun p => if memOk (masks ops ops.size) p.1.2 p.1.2 0 then some ((.normal, (p.1.1, s.2)), p.2) else none else none
    | .rangeFunc g ps as bd => match ev (getS s.1) g with
      | .func (.func gf) xs ys => if cl gf && opdOk g then (runT P (Instr.enterLoop 0 ⟨arrL s.1 0 N⟩ ps as bd ro) W).bind fun p => match mkN p.1.2 with
          | some mk => (call gf ⟨xs.toList ++ (.func (.yield p.1.1) #[] #[] :: ys.toList)⟩ p.2).bind fun q => (runT P (Instr.endLoop p.1.1) q.2).bind fun r => match r.1 with
            | none => some ((.normal, (s.1, mk ++ s.2)), r.2)
            | some .ret => some ((.ret, (s.1, mk ++ s.2)), r.2)
            | some (.exit id) => some ((.exit id, (s.1, mk ++ s.2)), r.2)
            | _ => none
          | none => none
        else none
      | _ => none
    | _ => none

noncomputable def putL : List Value → Nat → Tr Value → Tr Value
  | [], _, t => t
  | v :: r, i, t => fT (some v) 31 t i fun t => putL r (i + 1) t
noncomputable def resT (fn : Func) (sl : Nat → Value) : Sem Value := do
  let vs ← fn.results.mapM fun
    | .tmp t => pure (sl t)
    | .cell a t => do loadVar t (← asAddr (sl a))
  pure (if h : vs.size = 1 then vs[0] else .tuple vs)
/-- How a round is left. -/
def jmp : Ex → Option Code
  | .normal => none
  | .ret => some .ret
  | .exit id => some (.exit id)
/-- Names, from one to another one. -/
noncomputable def rngK {α : Type} (n0 : Nat) (c : Nat) : Lg → (Lg → α) → α := Nat.rec (motive := fun _ => Lg → (Lg → α) → α) (fun a k => k a) (fun m ih a k => fN (Nat.add n0 m) fun x => ih (x :: a) k) c
def rngL (n0 : Nat) : Nat → Lg → Lg
  | 0, a => a
  | m + 1, a => rngL n0 m ((n0 + m) :: a)
theorem rngK_eq {α : Type} (n0 : Nat) : ∀ (c : Nat) (a : Lg) (k : Lg → α), rngK n0 c a k = k (rngL n0 c a)
  | 0, _, _ => rfl
  | m + 1, a, k => by
    show fN (Nat.add n0 m) (fun x => rngK n0 m (x :: a) k) = _
    rw [fN_eq, rngK_eq n0 m]
    rfl
theorem rngL_has (n0 : Nat) : ∀ (c : Nat) (a : Lg) (i : Nat), Lg.has (rngL n0 c a) i = true ↔ (n0 ≤ i ∧ i < n0 + c) ∨ a.has i = true
  | 0, a, i => by
    rw [rngL]
    constructor
    · exact .inr
    · rintro (h | h)
      · omega
      · exact h
  | m + 1, a, i => by
    rw [rngL, rngL_has n0 m]
    unfold Lg.has
    simp only [List.contains_cons, Bool.or_eq_true, beq_iff_eq]
    constructor
    · rintro (h | h | h)
      · exact .inl (by omega)
      · exact .inl (by omega)
      · exact .inr h
    · rintro (h | h)
      · by_cases hi : i = n0 + m
        · exact .inr (.inl hi)
        · exact .inl (by omega)
      · exact .inr (.inr h)
/-- What was read of what is elder, and all that is new. -/
noncomputable def oldK {α : Type} (n0 n1 : Nat) (l : Lg) : (Lg → α) → α := List.rec (motive := fun _ => (Lg → α) → α) (fun k => k []) (fun x _ ih k => ih fun r => Bool.rec (motive := fun _ => α) (k (x :: r)) (k r) (Nat.ble n0 x && Nat.blt x n1)) l
def oldL (n0 n1 : Nat) : Lg → Lg
  | [] => []
  | x :: l => match Nat.ble n0 x && Nat.blt x n1 with
    | true => oldL n0 n1 l
    | false => x :: oldL n0 n1 l
theorem oldK_eq {α : Type} (n0 n1 : Nat) : ∀ (l : Lg) (k : Lg → α), oldK n0 n1 l k = k (oldL n0 n1 l)
  | [], _ => rfl
  | x :: l, k => by
    show oldK n0 n1 l (fun r => Bool.rec (motive := fun _ => α) (k (x :: r)) (k r) (Nat.ble n0 x && Nat.blt x n1)) = _
    rw [oldK_eq n0 n1 l, oldL]
    cases Nat.ble n0 x && Nat.blt x n1 <;> rfl
theorem oldL_has {n0 n1 : Nat} : ∀ {l : Lg} {i : Nat}, l.has i = true → (n0 ≤ i ∧ i < n1) ∨ (oldL n0 n1 l).has i = true
  | [], i, h => by cases h
  | x :: l, i, h => by
    unfold Lg.has at h
    simp only [List.contains_cons, Bool.or_eq_true, beq_iff_eq] at h
    rw [oldL]
    cases hb : Nat.ble n0 x && Nat.blt x n1 with
    | true =>
      rw [Bool.and_eq_true, Nat.ble_eq, Nat.blt_eq] at hb
      rcases h with h | h
      · exact .inl (by omega)
      · exact oldL_has h
    | false =>
      simp only
      rcases h with h | h
      · right
        unfold Lg.has
        simp [h]
      · rcases oldL_has (n0 := n0) (n1 := n1) h with h | h
        · exact .inl h
        · right
          unfold Lg.has at h ⊢
          simp only [List.contains_cons, Bool.or_eq_true, beq_iff_eq]
          exact .inr h
noncomputable def tidyK {α : Type} (n0 n1 : Nat) (rd : Lg) (k : Lg → α) : α := oldK n0 n1 rd fun r => rngK n0 (Nat.sub n1 n0) r k
def tidyL (n0 n1 : Nat) (rd : Lg) : Lg := rngL n0 (Nat.sub n1 n0) (oldL n0 n1 rd)
theorem tidyK_eq {α : Type} (n0 n1 : Nat) (rd : Lg) (k : Lg → α) : tidyK n0 n1 rd k = k (tidyL n0 n1 rd) := by
  unfold tidyK
  rw [oldK_eq, rngK_eq]
  rfl
theorem tidyL_has {n0 n1 : Nat} {l : Lg} {i : Nat} (h : l.has i = true) : (tidyL n0 n1 l).has i = true := by
  unfold tidyL
  rw [rngL_has]
  rcases oldL_has (n0 := n0) (n1 := n1) h with h | h
  · exact .inl ⟨h.1, by have : Nat.sub n1 n0 = n1 - n0 := rfl; rw [this]; omega⟩
  · exact .inr h
/-- What was read is written down in one way only. -/
noncomputable def tidyT {α : Type} (F : Tw → Option (α × Tw)) (W : Tw) : Option (α × Tw) := match W with
  | ⟨t, nx, lim, rd0, wr0⟩ => (F ⟨t, nx, lim, [], wr0⟩).bind fun p => match p with
    | (a, ⟨t1, nx1, lim1, rd1, wr1⟩) => tidyK nx nx1 rd1 fun c => Lg.fjoin rd0 c fun rd2 => some (a, ⟨t1, nx1, lim1, rd2, wr1⟩)
theorem tidyT_eq {α : Type} (F : Tw → Option (α × Tw)) (W : Tw) : tidyT F W =
    (F { W with rd := [] }).map fun p => (p.1, { p.2 with rd := Lg.join W.rd (tidyL W.nx p.2.nx p.2.rd) }) := by
  obtain ⟨t, nx, lim, rd, wr⟩ := W
  unfold tidyT
  simp only
  cases F ⟨t, nx, lim, [], wr⟩ with
  | none => rfl
  | some p => simp only [Option.bind_some, tidyK_eq, Lg.fjoin_eq, Option.map_some]
/-- One round. -/
noncomputable def evR0 (P : Program) (op : OpF) (call : CallT) (rnd : RndT) (cl : FuncId → Bool) (L : Nat) : RndT := fun l ts as bd W =>
  if Nat.blt ts.size 1073741824 then (evC P op call rnd cl (some l) (fun _ => none) ts.size L as (putL ts.toList 0 .lf, []) W).bind fun p => match p.1 with
    | (.normal, (s1, [])) => (runT P (Instr.beginRound l) p.2).bind fun b => (evC P op call rnd cl (some l) (fun _ => none) ts.size L bd (s1, []) b.2).bind fun q => match q.1 with
      | (ex, (_, [])) => runT P (Instr.endRound l (jmp ex)) q.2
      | _ => none
    | _ => none
  else none
noncomputable def evR (P : Program) (op : OpF) (call : CallT) (rnd : RndT) (cl : FuncId → Bool) (L : Nat) : RndT := fun l ts as bd => tidyT (evR0 P op call rnd cl L l ts as bd)
/-- The blocks are shut. -/
noncomputable def takeA (P : Program) : List Nat → Tw → Option (Unit × Tw)
  | [], W => some ((), W)
  | d :: r, W => (runT P (Instr.takeDeferred d) W).bind fun p => match p.1 with
    | [] => takeA P r p.2
    | _ => none
/-- What is known of calls. -/
noncomputable def knT (kn : FuncId → Option CallC) (c : CallT) : CallT := fun f args W => match kn f with
  | some q => q.F args.toList W
  | none => c f args W
noncomputable def callB (P : Program) (sy : SyT) (L : Nat) (call : CallT) (rnd : RndT) : CallT := fun f args W => match P.funcs[f]? with
    | some fn => match fn.body with
      | some c => if Nat.ble args.size fn.ntmps && Nat.blt fn.ntmps 1073741824 then
          (evC P (opT P sy) call rnd (callable P) none (sy.lp f) fn.ntmps L c (putL args.toList 0 .lf, []) W).bind fun p => match p.1 with
            | (.normal, s) => (takeA P s.2 p.2).bind fun q => runT P (resT fn (getS s.1)) q.2
            | (.ret, s) => (takeA P s.2 p.2).bind fun q => runT P (resT fn (getS s.1)) q.2
            | _ => none
        else none
      | none => none
    | none => none
noncomputable def evFR (P : Program) (sy : SyT) (L : Nat) : Nat → CallT × RndT
  | 0 => (fun _ _ _ => none, fun _ _ _ _ _ => none)
  | n + 1 => (knT sy.kn (callB P sy L (evFR P sy L n).1 (evFR P sy L n).2), evR P (opT P sy) (evFR P sy L n).1 (evFR P sy L n).2 (callable P) L)
noncomputable def evF (P : Program) (sy : SyT) (L n : Nat) : CallT := (evFR P sy L n).1

/-! ### What is yielded hangs on what is touched -/
/-- What is told hangs on what is touched. -/
structure SLo (sy : SyT) : Prop where
  kn : ∀ f c, sy.kn f = some c → ∀ args, Local (c.F args)
  lp : ∀ f n c, sy.lp f n = some c → ∀ sl, Local (c.F sl)
/-- What is told with what follows is what is told. -/
structure SKo (sy : SyT) : Prop where
  kk : ∀ f c, sy.kn f = some c → ∀ args W k r, c.K args W k = some r → ∃ v W', c.F args W = some (v, W') ∧ k v W' = some r
  lk : ∀ f n c, sy.lp f n = some c → ∀ sl W k r, c.K sl W k = some r → ∃ e sl' W', c.F sl W = some ((e, sl'), W') ∧ k e sl' W' = some r
section
variable {P : Program} {sy : SyT} {call : CallT} {rnd : RndT}
theorem Local.condT (v : Value) : Local (Mo.condT v) := by
  unfold Mo.condT
  split
  · exact Local.ret _
  · exact Local.map (Local.payT _) castB
theorem Local.condO (sl : Nat → Value) (x : Operand) : Local (Mo.condO sl x) := by
  unfold Mo.condO
  split
  · exact Local.condT _
  · exact Local.ret _
  · exact Local.fails
theorem Local.wantT (ops : Array Oper) (f : Nat → Value) (o : Oper) : Local (Mo.wantT ops f o) := by
  unfold Mo.wantT
  split
  · exact Local.ret _
  · split
    · split
      · exact Local.ret _
      · exact Local.bind (G := fun b W => some (b == _, W)) (Local.condT _) fun b => Local.ret _
    · exact Local.fails
def CallL (call : CallT) (rnd : RndT) : Prop := (∀ f args, Local (call f args)) ∧ ∀ l ts as bd, Local (rnd l ts as bd)
theorem Local.finT (hc : CallL call rnd) (n : Next) : Local (Mo.finT call rnd n) := by
  cases n with
  | value v => exact Local.ret v
  | skip => exact Local.ret undef
  | enter g args => exact hc.1 g args
  | round l f ts as bd => exact hc.2 l ts as bd
  | _ => exact Local.fails
theorem Local.opV (hc : CallL call rnd) (ops : Array Oper) (o : Oper) (f : Nat → Value) : Local (Mo.opV (Mo.opT P sy) call rnd ops o f) := by
  unfold Mo.opV
  refine Local.bind (G := fun b W => match b with
    | true => (Mo.opT P sy f o W).bind fun p => Mo.finT call rnd p.1 p.2
    | false => some (undef, W)) (Local.wantT ops f o) fun b => ?_
  cases b with
  | true => exact Local.bind (Local.opT P sy f o) fun n => Local.finT hc n
  | false => exact Local.ret undef
theorem Local.subT {α : Type} {F : Tw → Option (α × Tw)} (hF : Local F) : Local (Mo.subT F) := by
  refine ⟨fun {W W' a} h => ?_, fun {W W' V a} h hl => ?_⟩
  · rw [subT_eq] at h
    cases hf : F { W with rd := [], wr := [] } with
    | none => rw [hf] at h; cases h
    | some p =>
      rw [hf] at h
      have m := hF.mono (W' := p.2) (a := p.1) hf
      cases h
      exact ⟨m.nx, m.lim, fun n hn => by
        show Lg.has (Lg.join W.rd p.2.rd) n = true
        rw [Lg.has_join, hn]; rfl, fun n hn => by
        show Lg.has (Lg.join W.wr p.2.wr) n = true
        rw [Lg.has_join, hn]; rfl, m.room⟩
  · rw [subT_eq] at h
    cases hf : F { W with rd := [], wr := [] } with
    | none => rw [hf] at h; cases h
    | some p =>
      obtain ⟨b, W1⟩ := p
      rw [hf] at h
      have m := hF.mono hf
      cases h
      have hl' : Like { W with rd := [], wr := [] } W1 { V with rd := [], wr := [] } := by
        refine ⟨hl.nx, rfl, rfl, hl.room, fun n hn => hl.at' n ?_, fun n hn => ?_⟩
        · rcases hn with hn | hn
          · left; show Lg.has (Lg.join W.rd W1.rd) n = true; rw [Lg.has_join, hn, Bool.or_true]
          · right; show Lg.has (Lg.join W.wr W1.wr) n = true; rw [Lg.has_join, hn, Bool.or_true]
        · exact absurd hn (by simp [Lg.has])
      obtain ⟨V1, e1, e2⟩ := hF.loc hf hl'
      refine ⟨{ V1 with rd := Lg.join V.rd V1.rd, wr := Lg.join V.wr V1.wr }, ?_, ⟨e2.nx, e2.lim, ?_, ?_, fun n hn => ?_, fun n hn => ?_, fun n hn => ?_⟩⟩
      · rw [subT_eq, e1, Option.map_some, e2.rd, e2.wr]
      · show Lg.join V.rd V1.rd = Lg.join W.rd W1.rd
        rw [hl.rd, e2.rd]
      · show Lg.join V.wr V1.wr = Lg.join W.wr W1.wr
        rw [hl.wr, e2.wr]
      · have hn' : Lg.has (Lg.join W.wr W1.wr) n = true := hn
        rw [Lg.has_join, Bool.or_eq_true] at hn'
        by_cases h1 : W1.wr.has n = true
        · exact e2.got n h1
        · have h2 := hn'.resolve_right h1
          show V1.get n = W1.get n
          rw [e2.kept n h1, e2.keptW n h1]
          exact hl.atw n h2
      · have hn' : ¬ Lg.has (Lg.join W.wr W1.wr) n = true := hn
        rw [Lg.has_join, Bool.or_eq_true] at hn'
        exact e2.kept n fun h => hn' (.inr h)
      · have hn' : ¬ Lg.has (Lg.join W.wr W1.wr) n = true := hn
        rw [Lg.has_join, Bool.or_eq_true] at hn'
        exact e2.keptW n fun h => hn' (.inr h)
theorem Local.evL (hc : CallL call rnd) (N : Nat) (ops : Array Oper) : ∀ (l : List Oper) (sl : Tr Value), Local (Mo.evL (Mo.opT P sy) call rnd N ops l sl)
  | [], sl => Local.ret sl
  | o :: r, sl => by
    refine Local.congr (fun W => ?_) (Local.bind (G := fun v W => match putS N o.dst v sl with
      | some sl' => Mo.evL (Mo.opT P sy) call rnd N ops r sl' W
      | none => none) (Local.opV (P := P) (sy := sy) hc ops o (getS sl)) fun v => ?_)
    · rw [Mo.evL]
      cases Mo.opV (Mo.opT P sy) call rnd ops o (getS sl) W with
      | none => rfl
      | some p => simp only [Option.bind_some, forV_eq]
    · cases putS N o.dst v sl with
      | none => exact Local.fails
      | some sl' => exact Local.evL hc N ops r sl'
theorem Local.evD (hc : CallL call rnd) (N : Nat) (ops : Array Oper) : ∀ (l : List Oper) (sl : Tr Value), Local (Mo.evD (Mo.opT P sy) call rnd N ops l sl)
  | [], sl => Local.ret (sl, [])
  | o :: r, sl => by
    refine Local.congr (fun W => ?_) (Local.bind (G := fun v W => match putS N o.dst v.1 sl with
      | some sl' => (Mo.evD (Mo.opT P sy) call rnd N ops r sl' W).bind fun q => some ((q.1.1, v.2 :: q.1.2), q.2)
      | none => none) (Local.subT (Local.opV (P := P) (sy := sy) hc ops o (getS sl))) fun v => ?_)
    · rw [Mo.evD]
      cases Mo.subT (Mo.opV (Mo.opT P sy) call rnd ops o (getS sl)) W with
      | none => rfl
      | some p => simp only [Option.bind_some, forV_eq]
    · cases putS N o.dst v.1 sl with
      | none => exact Local.fails
      | some sl' => exact Local.bind (Local.evD hc N ops r sl') fun q => Local.ret (q.1, v.2 :: q.2)
theorem Local.guardNx {α : Type} {F : Tw → Option (α × Tw)} (hF : Local F) : Local (fun W => if Nat.ble W.nx W.lim then F W else none) := by
  refine ⟨fun {W W' a} h => ?_, fun {W W' V a} h hl => ?_⟩
  · split at h
    · exact hF.mono h
    · cases h
  · split at h
    · rename_i hb
      obtain ⟨V', e1, e2⟩ := hF.loc h hl
      refine ⟨V', ?_, e2⟩
      rw [if_pos]
      · exact e1
      · rw [Nat.ble_eq, hl.nx]
        exact Nat.le_trans (hF.mono h).nx hl.room
    · cases h
theorem Local.evC (hc : CallL call rnd) (cl : FuncId → Bool) (ro : Option Nat) {lp : Nat → Option LoopC} (hlp : ∀ n c, lp n = some c → ∀ sl, Local (c.F sl)) (N : Nat) : ∀ (n : Nat) (c : Code) (s : St), Local (Mo.evC P (Mo.opT P sy) call rnd cl ro lp N n c s) := by
  intro n
  induction n with
  | zero => intro c s; exact Local.fails
  | succ n ih =>
    intro c s
    cases c with
    | skip => exact Local.ret _
    | label l => exact Local.ret _
    | ret => exact Local.ret _
    | exit id => exact Local.ret _
    | seq a b =>
      simp only [Mo.evC]
      refine Local.congr (fun W => rfl) (Local.bind (G := fun r W => match r with
        | (.normal, s') => Mo.evC P (Mo.opT P sy) call rnd cl ro lp N n b s' W
        | r => some (r, W)) (ih a s) fun r => ?_)
      split
      · exact ih _ _
      · exact Local.ret _
    | cond x a b =>
      simp only [Mo.evC]
      refine Local.bind (G := fun q W => match q with
        | true => Mo.evC P (Mo.opT P sy) call rnd cl ro lp N n a s W
        | false => Mo.evC P (Mo.opT P sy) call rnd cl ro lp N n b s W) (Local.condO _ _) fun q => ?_
      cases q <;> exact ih _ _
    | block id b =>
      simp only [Mo.evC]
      refine Local.congr (fun W => rfl) (Local.bind (G := fun r W => match r with
        | (.exit i, s') => if i = id then some ((Ex.normal, s'), W) else some ((Ex.exit i, s'), W)
        | r => some (r, W)) (ih b s) fun r => ?_)
      split
      · split <;> exact Local.ret _
      · exact Local.ret _
    | loop b =>
      simp only [Mo.evC]
      cases hb : lpOf lp b with
      | some c =>
        simp only
        unfold lpOf at hb
        split at hb
        · cases s.2 with
          | nil => exact Local.bind (G := fun r W => some ((r.1, (r.2, [])), W)) (hlp _ _ hb s.1) fun r => Local.ret _
          | cons _ _ => exact Local.fails
        · cases hb
      | none =>
        simp only
        refine Local.congr (fun W => rfl) (Local.bind (G := fun r W => match r with
          | (.normal, s') => Mo.evC P (Mo.opT P sy) call rnd cl ro lp N n (.loop b) s' W
          | r => some (r, W)) (ih b s) fun r => ?_)
        split
        · exact ih _ _
        · exact Local.ret _
    | region id ops dr =>
      cases dr with
      | false =>
        simp only [Mo.evC]
        exact Local.bind (Local.evL hc N ops _ s.1) fun sl' => Local.ret (Ex.normal, (sl', s.2))
      | true =>
        simp only [Mo.evC]
        refine Local.guardNx ?_
        refine Local.congr (fun W => rfl) (Local.bind (G := fun r W => if memOk (masks ops ops.size) r.2 r.2 0 then some ((Ex.normal, (r.1, s.2)), W) else none) (Local.evD hc N ops _ s.1) fun r => ?_)
        split
        · exact Local.ret _
        · exact Local.fails
    | rangeFunc g ps as bd =>
      simp only [Mo.evC]
      split
      · rename_i gf xs ys _
        split
        · refine Local.congr (fun W => rfl) (Local.bind (G := fun (p : Nat × List Deferred) (W : Tw) => match mkN p.2 with
            | some mks => (call gf ⟨xs.toList ++ (.func (.yield p.1) #[] #[] :: ys.toList)⟩ W).bind fun q => (runT P (Instr.endLoop p.1) q.2).bind fun r => match r.1 with
              | none => some ((Ex.normal, (s.1, mks ++ s.2)), r.2)
              | some .ret => some ((Ex.ret, (s.1, mks ++ s.2)), r.2)
              | some (.exit id) => some ((Ex.exit id, (s.1, mks ++ s.2)), r.2)
              | _ => none
            | none => none) (runT_local _) fun p => ?_)
          split
          · rename_i mks _
            refine Local.congr (fun W => rfl) (Local.bind (G := fun (_ : Value) (W : Tw) => (runT P (Instr.endLoop p.1) W).bind fun r => match r.1 with
              | none => some ((Ex.normal, (s.1, mks ++ s.2)), r.2)
              | some .ret => some ((Ex.ret, (s.1, mks ++ s.2)), r.2)
              | some (.exit id) => some ((Ex.exit id, (s.1, mks ++ s.2)), r.2)
              | _ => none) (hc.1 gf ⟨xs.toList ++ (.func (.yield p.1) #[] #[] :: ys.toList)⟩) fun q => ?_)
            refine Local.congr (fun W => rfl) (Local.bind (G := fun (r : Option Code) (W : Tw) => match r with
              | none => some ((Ex.normal, (s.1, mks ++ s.2)), W)
              | some .ret => some ((Ex.ret, (s.1, mks ++ s.2)), W)
              | some (.exit id) => some ((Ex.exit id, (s.1, mks ++ s.2)), W)
              | _ => none) (runT_local _) fun r => ?_)
            split
            · exact Local.ret _
            · exact Local.ret _
            · exact Local.ret _
            · exact Local.fails
          · exact Local.fails
        · exact Local.fails
      · exact Local.fails
    | _ => exact Local.fails
theorem Local.tidyT {α : Type} {F : Tw → Option (α × Tw)} (hF : Local F) : Local (Mo.tidyT F) := by
  refine ⟨fun {W W' a} h => ?_, fun {W W' V a} h hl => ?_⟩
  · rw [tidyT_eq] at h
    cases hf : F { W with rd := [] } with
    | none => rw [hf] at h; cases h
    | some p =>
      rw [hf] at h
      have m := hF.mono (W' := p.2) (a := p.1) hf
      cases h
      exact ⟨m.nx, m.lim, fun n hn => by
        show Lg.has (Lg.join W.rd _) n = true
        rw [Lg.has_join, hn]; rfl, fun n hn => m.wr n hn, m.room⟩
  · rw [tidyT_eq] at h
    cases hf : F { W with rd := [] } with
    | none => rw [hf] at h; cases h
    | some p =>
      obtain ⟨b, W1⟩ := p
      rw [hf] at h
      have m := hF.mono hf
      cases h
      have hl' : Like { W with rd := [] } W1 { V with rd := [] } := by
        refine ⟨hl.nx, rfl, hl.wr, hl.room, fun n hn => hl.at' n ?_, fun n hn => hl.atw n hn⟩
        rcases hn with hn | hn
        · left; show Lg.has (Lg.join W.rd (tidyL W.nx W1.nx W1.rd)) n = true; rw [Lg.has_join, tidyL_has hn, Bool.or_true]
        · exact .inr hn
      obtain ⟨V1, e1, e2⟩ := hF.loc hf hl'
      refine ⟨{ V1 with rd := Lg.join V.rd (tidyL V.nx V1.nx V1.rd) }, ?_, ⟨e2.nx, e2.lim, ?_, e2.wr, fun n hn => e2.got n hn, fun n hn => e2.kept n hn, fun n hn => e2.keptW n hn⟩⟩
      · rw [tidyT_eq, e1, Option.map_some]
      · show Lg.join V.rd (tidyL V.nx V1.nx V1.rd) = Lg.join W.rd (tidyL W.nx W1.nx W1.rd)
        rw [hl.rd, e2.rd, e2.nx, hl.nx]
theorem Local.evR0 (hc : CallL call rnd) (cl : FuncId → Bool) (L l : Nat) (ts : Array Value) (as bd : Code) : Local (Mo.evR0 P (Mo.opT P sy) call rnd cl L l ts as bd) := by
  unfold Mo.evR0
  split
  · refine Local.congr (fun W => rfl) (Local.bind (G := fun r W => match r with
      | (.normal, (s1, [])) => (runT P (Instr.beginRound l) W).bind fun b => (Mo.evC P (Mo.opT P sy) call rnd cl (some l) (fun _ => none) ts.size L bd (s1, []) b.2).bind fun q => match q.1 with
        | (ex, (_, [])) => runT P (Instr.endRound l (jmp ex)) q.2
        | _ => none
      | _ => none) (Local.evC hc cl (some l) (lp := fun _ => none) (fun _ _ h => (nomatch h)) ts.size L as _) fun r => ?_)
    split
    · rename_i s1
      refine Local.congr (fun W => rfl) (Local.bind (G := fun (_ : Unit) (W : Tw) => (Mo.evC P (Mo.opT P sy) call rnd cl (some l) (fun _ => none) ts.size L bd (s1, []) W).bind fun q => match q.1 with
        | (ex, (_, [])) => runT P (Instr.endRound l (jmp ex)) q.2
        | _ => none) (runT_local _) fun u => ?_)
      refine Local.congr (fun W => rfl) (Local.bind (G := fun r W => match r with
        | (ex, (_, [])) => runT P (Instr.endRound l (jmp ex)) W
        | _ => none) (Local.evC hc cl (some l) (lp := fun _ => none) (fun _ _ h => (nomatch h)) ts.size L bd _) fun r => ?_)
      split
      · exact runT_local _
      · exact Local.fails
    · exact Local.fails
  · exact Local.fails
theorem Local.evR (hc : CallL call rnd) (cl : FuncId → Bool) (L l : Nat) (ts : Array Value) (as bd : Code) : Local (Mo.evR P (Mo.opT P sy) call rnd cl L l ts as bd) := Local.tidyT (Local.evR0 hc cl L l ts as bd)
theorem Local.takeA : ∀ l : List Nat, Local (Mo.takeA P l)
  | [] => Local.ret ()
  | d :: r => by
    refine Local.congr (fun W => by rw [Mo.takeA]) (Local.bind (G := fun (p : List Deferred) (W : Tw) => match p with
      | [] => Mo.takeA P r W
      | _ => none) (runT_local (Instr.takeDeferred d)) fun p => ?_)
    split
    · exact Local.takeA r
    · exact Local.fails
theorem Local.callB (hs : SLo sy) (hc : CallL call rnd) (L : Nat) (f : FuncId) (args : Array Value) : Local (Mo.callB P sy L call rnd f args) := by
  unfold Mo.callB
  split
  · rename_i fn _
    split
    · rename_i c _
      split
      · refine Local.congr (fun W => rfl) (Local.bind (G := fun r W => match r with
          | (.normal, s) => (Mo.takeA P s.2 W).bind fun q => runT P (resT fn (getS s.1)) q.2
          | (.ret, s) => (Mo.takeA P s.2 W).bind fun q => runT P (resT fn (getS s.1)) q.2
          | _ => none) (Local.evC (P := P) (sy := sy) hc (callable P) none (hs.lp f) fn.ntmps L c _) fun r => ?_)
        split
        · exact Local.bind (Local.takeA _) fun _ => runT_local _
        · exact Local.bind (Local.takeA _) fun _ => runT_local _
        · exact Local.fails
      · exact Local.fails
    · exact Local.fails
  · exact Local.fails
theorem Local.knT (hs : SLo sy) {c : CallT} (hc : ∀ f args, Local (c f args)) (f : FuncId) (args : Array Value) : Local (Mo.knT sy.kn c f args) := by
  unfold Mo.knT
  split
  · rename_i q hq
    exact hs.kn f q hq _
  · exact hc _ _
theorem Local.evFR (hs : SLo sy) (L : Nat) : ∀ n, CallL (Mo.evFR P sy L n).1 (Mo.evFR P sy L n).2 := by
  intro n
  induction n with
  | zero => exact ⟨fun f args => Local.fails, fun l ts as bd => Local.fails⟩
  | succ n ih => exact ⟨fun f args => Local.knT hs (Local.callB (sy := sy) hs ih L) f args, fun l ts as bd => Local.evR ih (callable P) L l ts as bd⟩
end
end Mo

namespace Mo
open Go

/-! ## Code is sound: what is not drawn -/
structure Ext (ρ : Ren) (W : Tw) (ρ2 : Ren) (W2 : Tw) : Prop where
  le : ρ.le ρ2
  dom : ∀ k, ρ2.dom k → ρ.dom k ∨ (W.nx ≤ k ∧ k < W2.nx)
  nx : W.nx ≤ W2.nx
  lim : W2.lim = W.lim
theorem Ext.refl (ρ : Ren) (W : Tw) : Ext ρ W ρ W := ⟨.rfl', fun _ h => .inl h, Nat.le_refl _, rfl⟩
theorem Ext.trans {ρ ρ2 ρ3 : Ren} {W W2 W3 : Tw} (h : Ext ρ W ρ2 W2) (k : Ext ρ2 W2 ρ3 W3) : Ext ρ W ρ3 W3 := by
  refine ⟨h.le.trans k.le, fun n hn => ?_, Nat.le_trans h.nx k.nx, k.lim.trans h.lim⟩
  have := h.nx; have := k.nx
  rcases k.dom n hn with h1 | ⟨h1, h2⟩
  · rcases h.dom n h1 with h3 | ⟨h3, h4⟩
    · exact .inl h3
    · exact .inr ⟨h3, by omega⟩
  · exact .inr ⟨by omega, h2⟩

/-- The fence: all functions; within a round, or not. -/
def FF (fr : Option Nat) : Fence := { Fence.wide with round := fr }
/-- The blocks that are to be shut. -/
structure MkR (ρ : Ren) (ms : List Nat) (ds : List Deferred) : Prop where
  eq : ds = ms.map fun D => { target := .collected (ρ.b D), args := #[] }
  dom : ∀ D ∈ ms, ρ.dom D
theorem MkR.le {ρ ρ' : Ren} (hl : ρ.le ρ') {ms : List Nat} {ds : List Deferred} (h : MkR ρ ms ds) : MkR ρ' ms ds :=
  ⟨by rw [h.eq]; exact List.map_congr_left fun D hD => by rw [hl.b _ (h.dom D hD)], fun D hD => hl.dom _ (h.dom D hD)⟩
/-- The evaluator's state and the world's. -/
structure ER (w0 : Bs) (N : Nat) (ρ : Ren) (s : St) (W : Tw) (a : Act) (w : World) : Prop where
  W : WR w0 ρ W w
  sl : SR ρ (getS s.1) a
  df : MkR ρ s.2 a.defers
  N : a.tmps.size = N
def CallS (P : Program) (w0 : Bs) (call : CallT) : Prop := ∀ ρ W w f args args' r W', WR w0 ρ W w → AR ρ args args' → call f args W = some (r, W') →
  Calls P f args' w fun e w' => ∃ ρ2 y, e = .returned y ∧ Ext ρ W ρ2 W' ∧ WR w0 ρ2 W' w' ∧ VR ρ2 r y
def RndS (P : Program) (w0 : Bs) (rnd : RndT) : Prop := ∀ ρ W w l fn ts ts' as bd r W' n, WR w0 ρ W w → ρ.dom l → AR ρ ts ts' → codeOk as = true → codeOk bd = true → rnd l ts as bd W = some (r, W') →
  RoundIn Fence.wide n P (ρ.b l) fn ts' as bd w fun e w' => ∃ ρ2 y, e = .returned y ∧ Ext ρ W ρ2 W' ∧ WR w0 ρ2 W' w' ∧ VR ρ2 r y
def exm : Ex → Exit → Prop
  | .normal, .normal => True
  | .exit i, .exit j => i = j
  | .ret, .ret => True
  | _, _ => False

section
variable {P : Program} {sy : SyT} {w0 : Bs} {N : Nat} {ρ : Ren} {call : CallT} {rnd : RndT} {fr : Option Nat} {rm : Nat}
theorem SR.le {ρ' : Ren} (hl : ρ.le ρ') {f : Nat → Value} {a : Act} (h : SR ρ f a) : SR ρ' f a := ⟨fun t => (h.at' t).le hl⟩

theorem putS_some {N : Nat} {d : Option Nat} {v : Value} {sl sl' : Tr Value} (h : putS N d v sl = some sl') : (∀ t, d = some t → t < N) ∧ ∀ i, getS sl' i = if d = some i then v else getS sl i := by
  cases d with
  | none => cases h; exact ⟨fun _ h => (by cases h), fun i => by simp⟩
  | some t =>
    simp only [putS] at h
    split at h
    · rename_i hc
      simp only [Bool.and_eq_true, Nat.blt_eq] at hc
      rw [fT_eq] at h
      cases h
      refine ⟨fun _ h => (by cases h; exact hc.1), fun i => ?_⟩
      simp only [getS]
      rw [Tr.get_put _ 30 _ _ (by omega)]
      by_cases he : i = t
      · subst he; simp
      · rw [if_neg he, if_neg (by simpa using Ne.symm he)]
    · cases h
theorem SR.put {f f' : Nat → Value} {a : Act} (h : SR ρ f a) {d : Option Nat} {v y : Value} (hv : VR ρ v y) (hd : ∀ t, d = some t → t < a.tmps.size) (hf : ∀ i, f' i = if d = some i then v else f i) : SR ρ f' (a.put d y) := by
  refine ⟨fun i => ?_⟩
  rw [hf]
  cases d with
  | none => rw [if_neg (by simp)]; exact h.at' i
  | some t =>
    have ht := hd t rfl
    simp only [Act.put]
    rw [Array.getD_eq_getD_getElem?, Array.getElem?_setIfInBounds]
    by_cases he : t = i
    · subst he
      rw [if_pos rfl, if_pos rfl, if_pos ht]
      exact hv
    · rw [if_neg (by simpa using he), if_neg he, ← Array.getD_eq_getD_getElem?]
      exact h.at' i
theorem ER.put {sl sl' : Tr Value} {ms : List Nat} {W : Tw} {a : Act} {w : World} (h : ER w0 N ρ (sl, ms) W a w) {d : Option Nat} {v y : Value} (hv : VR ρ v y) (hp : putS N d v sl = some sl') : ER w0 N ρ (sl', ms) W (a.put d y) w := by
  obtain ⟨h1, h2⟩ := putS_some hp
  refine ⟨h.W, h.sl.put hv (fun t ht => by rw [h.N]; exact h1 t ht) h2, ?_, ?_⟩
  · cases d <;> exact h.df
  · cases d with
    | none => exact h.N
    | some t => simp only [Act.put, Array.size_setIfInBounds]; exact h.N

theorem cond_sound {v y : Value} {W W' : Tw} {w : World} {b : Bool} (hW : WR w0 ρ W w) (hv : VR ρ v y) (h : condT v W = some (b, W')) : y = .bool b ∧ WR w0 ρ W' w ∧ W'.nx = W.nx ∧ W'.lim = W.lim := by
  unfold condT at h
  split at h
  · cases h; cases hv; exact ⟨rfl, hW, rfl, rfl⟩
  · obtain ⟨p, W1, h1, h2⟩ := bind_some h
    obtain ⟨k1, k2, k3, k4⟩ := payT_sound hW hv h1
    simp only at h2
    cases hc : castB p with
    | none => rw [hc] at h2; cases h2
    | some x =>
      rw [hc] at h2
      cases h2
      rw [castB_some hc] at k1
      exact ⟨rd_bool k1, k2, k3, k4⟩
theorem want_sound {f : Nat → Value} {a : Act} {W W' : Tw} {w : World} {ops : Array Oper} {o : Oper} {b : Bool} (hW : WR w0 ρ W w) (h : ∀ t ∈ o.looksAt ops, VR ρ (f t) (a.tmps.getD t undef)) (hw : wantT ops f o W = some (b, W')) :
    Region.wanted o (yielded ops a.tmps) = b ∧ WR w0 ρ W' w ∧ W'.nx = W.nx ∧ W'.lim = W.lim := by
  unfold wantT at hw
  unfold Region.wanted
  split at hw
  · rename_i hg
    cases hw
    rw [hg]
    exact ⟨rfl, hW, rfl, rfl⟩
  · rename_i j c hg
    rw [hg]
    split at hw
    · rename_i d hd
      split at hw
      · rename_i xs hv
        cases hw
        have := h d (by simp [Oper.looksAt, hg, hd])
        rw [hv] at this
        have e : ∃ ys, a.tmps.getD d undef = .tuple ys := by
          generalize a.tmps.getD d undef = z at this
          cases this; exact ⟨_, rfl⟩
        obtain ⟨ys, e⟩ := e
        have e2 : a.tmps[d]? = none ∨ a.tmps[d]? = some (.tuple ys) := by
          rw [Array.getD_eq_getD_getElem?] at e
          cases hq : a.tmps[d]? with
          | none => exact .inl rfl
          | some z => rw [hq] at e; simp only [Option.getD_some] at e; exact .inr (by rw [e])
        refine ⟨?_, hW, rfl, rfl⟩
        rcases e2 with e2 | e2 <;> simp only [yielded, hd, Option.bind_some, Option.bind_none, e2] <;> rfl
      · obtain ⟨v, W1, h1, h2⟩ := bind_some hw
        cases h2
        obtain ⟨e, k2, k3, k4⟩ := cond_sound hW (h d (by simp [Oper.looksAt, hg, hd])) h1
        have e2 : a.tmps[d]? = some (.bool v) := by
          rw [Array.getD_eq_getD_getElem?] at e
          cases hq : a.tmps[d]? with
          | none => rw [hq] at e; cases e
          | some z => rw [hq] at e; simp only [Option.getD_some] at e; rw [e]
        refine ⟨?_, k2, k3, k4⟩
        simp only [yielded, hd, Option.bind_some, e2]
        cases v <;> cases c <;> rfl
    · cases hw

theorem VR_undef : VR ρ undef undef := plain_VR ρ 2 undef (by decide)

/-- One operation of a region, guard and all: what it yields is put into its slot. -/
theorem opV_sound (hzs : ZSz P) (hc : CallS P w0 call) (hr : RndS P w0 rnd) {ops : Array Oper} {o : Oper} {f : Nat → Value} {W W' : Tw} {v : Value} {a : Act} {w : World} (hW : WR w0 ρ W w) (hs : ∀ t ∈ o.looksAt ops, VR ρ (f t) (a.tmps.getD t undef)) (he : opV (opT P sy) call rnd ops o f W = some (v, W')) (Q : Exit → Act → World → Prop) :
    if Region.wanted o (yielded ops a.tmps) then o.wpIn (FF fr) rm P a w (fun a' w' => ∃ ρ2 y, Ext ρ W ρ2 W' ∧ WR w0 ρ2 W' w' ∧ VR ρ2 v y ∧ a' = a.put o.dst y) Q else v = undef ∧ WR w0 ρ W' w ∧ W'.nx = W.nx ∧ W'.lim = W.lim := by
  unfold opV at he
  obtain ⟨b, W0, hwt, he⟩ := bind_some he
  obtain ⟨hwd, hW0, hn0, hl0⟩ := want_sound hW hs hwt
  cases b with
  | true =>
    rw [if_pos hwd]
    obtain ⟨n, W1, ho, hf⟩ := bind_some he
    obtain ⟨ρ2, m, w', e1, e2, e3, e4, e5, e6, e7⟩ := op_sound hzs hW0 (fun t ht => hs t (List.mem_append_left _ (List.mem_filterMap.2 ⟨.tmp t, by simpa using ht, rfl⟩))) ho
    have ex : Ext ρ W ρ2 W1 := ⟨e1, fun k hk => by rw [← hn0]; exact e2 k hk, by rw [← hn0]; exact e6, e7.trans hl0⟩
    have hnd : ∀ c, o.op ≠ .defer c := by
      intro c hc0
      have e : execOp a.eval o = (do pure (.defer (← resolve a.eval c o.type)) : Sem Next) := by
        unfold execOp; rw [hc0]
      rw [e] at e4
      have e4' : (Sem.bind _ _).run P w = _ := e4
      rw [run_bind] at e4'
      split at e4'
      · simp only [Pure.pure, Sem.run, Result.ok.injEq] at e4'
        rw [← e4'.1] at e5
        cases e5
      · cases e4'
    unfold Oper.wpIn
    refine ⟨fun _ _ => trivial, ?_⟩
    rw [Oper.semAt_eq _ _ _ hnd, e4]
    cases e5 with
    | value hv =>
      cases hf
      exact ⟨ρ2, _, ex, e3, hv, rfl⟩
    | skip =>
      cases hf
      exact ⟨ρ2, _, ex, e3, VR_undef, rfl⟩
    | enter g hA =>
      refine ⟨fun h => (by cases h), ?_⟩
      have h0 := (callsIn_wide (n := rm - 1)).2 (hc ρ2 W1 w' g _ _ v W' e3 hA hf)
      have h1 : CallsIn (FF fr) (rm - 1) P g _ w' _ := h0
      refine CallsIn.mono h1 ?_
      rintro e w2 ⟨ρ3, y, rfl, g1, g2, g3⟩
      exact ⟨ρ3, y, ex.trans g1, g2, g3, rfl⟩
    | round l f1 g hl hA ha hb =>
      refine ⟨fun h => (by cases h), ?_⟩
      have h0 := hr ρ2 W1 w' l g _ _ _ _ v W' (rm - 1) e3 hl hA ha hb hf
      have h1 : RoundIn (FF fr) (rm - 1) P (ρ2.b l) g _ _ _ w' _ := h0
      refine RoundIn.mono h1 ?_
      rintro e w2 ⟨ρ3, y, rfl, g1, g2, g3⟩
      exact ⟨ρ3, y, ex.trans g1, g2, g3, rfl⟩
  | false =>
    rw [if_neg (by rw [hwd]; exact Bool.false_ne_true)]
    cases he
    exact ⟨rfl, hW0, hn0, hl0⟩

theorem evL_sound (hzs : ZSz P) (hc : CallS P w0 call) (hrn : RndS P w0 rnd) {ops : Array Oper} {slf : Tr Value} {ms : List Nat} {Wf : Tw} {Q : Exit → Act → World → Prop} : ∀ (l : List Oper) (k : Nat) (ρ : Ren) (sl : Tr Value) (W : Tw) (a : Act) (w : World),
    (∀ a' w' ρ2, Ext ρ W ρ2 Wf → ER w0 N ρ2 (slf, ms) Wf a' w' → Q .normal a' w') → (∀ i, i < l.length → ops[k + i]? = l[i]?) → ER w0 N ρ (sl, ms) W a w → evL (opT P sy) call rnd N ops l sl W = some (slf, Wf) → wpOpsIn (FF fr) rm P ops Q (List.range' k l.length) a w
  | [], k, ρ, sl, W, a, w, hQ, _, hr, he => by
    simp only [evL, Option.some.injEq, Prod.mk.injEq] at he
    obtain ⟨rfl, rfl⟩ := he
    exact hQ a w ρ (.refl _ _) hr
  | o :: r, k, ρ, sl, W, a, w, hQ, hi, hr, he => by
    have h0 : ops[k]? = some o := hi 0 (Nat.zero_lt_succ _)
    simp only [evL] at he
    simp only [List.length_cons, List.range'_succ, wpOpsIn, h0]
    have hn : ∀ i, i < r.length → ops[k + 1 + i]? = r[i]? := fun i h => by have := hi (i + 1) (Nat.succ_lt_succ h); rw [show k + 1 + i = k + (i + 1) by omega]; exact this
    obtain ⟨v, W1, h1, h2⟩ := bind_some he
    simp only [forV_eq] at h2
    cases hp : putS N o.dst v sl with
    | none => rw [hp] at h2; cases h2
    | some sl1 =>
      rw [hp] at h2
      have hstep := opV_sound (fr := fr) (rm := rm) hzs hc hrn hr.W (fun t _ => hr.sl.at' t) h1 Q
      split
      · rename_i hw
        rw [if_pos hw] at hstep
        refine Oper.wpIn_mono (fun a' w' hr' => ?_) hstep
        obtain ⟨ρ2, y, x1, x2, x3, rfl⟩ := hr'
        have hE : ER w0 N ρ2 (sl, ms) W1 a w' := ⟨x2, hr.sl.le x1.le, hr.df.le x1.le, hr.N⟩
        exact evL_sound hzs hc hrn r (k + 1) ρ2 sl1 W1 _ w' (fun a2 w2 ρ3 y1 y2 => hQ a2 w2 ρ3 (x1.trans y1) y2) hn (hE.put x3 hp) h2
      · rename_i hw
        rw [if_neg hw] at hstep
        obtain ⟨rfl, g1, g2, g3⟩ := hstep
        have hE : ER w0 N ρ (sl, ms) W1 a w := ⟨g1, hr.sl, hr.df, hr.N⟩
        have hx : Ext ρ W ρ W1 := ⟨.rfl', fun _ h => .inl h, by omega, g3⟩
        exact ⟨fun _ _ => trivial, evL_sound hzs hc hrn r (k + 1) ρ sl1 W1 _ w (fun a2 w2 ρ3 y1 y2 => hQ a2 w2 ρ3 (hx.trans y1) y2) hn (hE.put VR_undef hp) h2⟩
end
end Mo

namespace Mo
open Go

/-! ## Drawn regions -/
section
/-! ### The last writer -/
variable {K : Type} {A : Type} {val : Nat → K → A} {D : Nat → K → Prop}
open Classical in
noncomputable def cont (val : Nat → K → A) (D : Nat → K → Prop) (S : Nat → Prop) : Nat → K → A
  | 0, x => val 0 x
  | m + 1, x => if S m ∧ D m x then val (m + 1) x else cont val D S m x
theorem cont_congr {S S' : Nat → Prop} {x : K} : ∀ {n : Nat}, (∀ j, j < n → ((S j ∧ D j x) ↔ (S' j ∧ D j x))) → cont val D S n x = cont val D S' n x
  | 0, _ => rfl
  | n + 1, h => by
    unfold cont
    have ih := cont_congr (n := n) fun j hj => h j (by omega)
    have h0 := h n (Nat.lt_succ_self n)
    by_cases h1 : S n ∧ D n x
    · rw [if_pos h1, if_pos (h0.1 h1)]
    · rw [if_neg h1, if_neg (fun h2 => h1 (h0.2 h2)), ih]
theorem cont_pre {S : Nat → Prop} {x : K} (hfr : ∀ k, ¬ D k x → val (k + 1) x = val k x) : ∀ {n : Nat}, (∀ j, j < n → S j) → cont val D S n x = val n x
  | 0, _ => rfl
  | n + 1, h => by
    unfold cont
    by_cases h1 : S n ∧ D n x
    · rw [if_pos h1]
    · rw [if_neg h1, cont_pre hfr fun j hj => h j (by omega), hfr n fun hd => h1 ⟨h n (Nat.lt_succ_self n), hd⟩]
theorem cont_skip {S : Nat → Prop} {x : K} {i : Nat} : ∀ {n : Nat}, i ≤ n → (∀ j, i ≤ j → j < n → ¬ (S j ∧ D j x)) → cont val D S n x = cont val D S i x
  | 0, h, _ => by have : i = 0 := by omega
                  subst this; rfl
  | n + 1, h, hs => by
    by_cases hi : i = n + 1
    · subst hi; rfl
    · have e : cont val D S (n + 1) x = cont val D S n x := by
        rw [cont]
        exact if_neg (hs n (by omega) (by omega))
      rw [e]
      exact cont_skip (by omega) fun j h1 h2 => hs j h1 (by omega)
/-- What `i` finds, where it is not hindered. -/
theorem cont_at {S : Nat → Prop} {x : K} {i n : Nat} (hfr : ∀ k, ¬ D k x → val (k + 1) x = val k x) (hi : i ≤ n) (h1 : ∀ j, j < i → D j x → S j) (h2 : ∀ j, i ≤ j → j < n → ¬ (S j ∧ D j x)) : cont val D S n x = val i x := by
  rw [cont_skip hi h2, cont_congr (S' := fun j => j < i) fun j hj => ⟨fun h => ⟨hj, h.2⟩, fun h => ⟨h1 j hj h.2, h.2⟩⟩, cont_pre hfr fun j hj => hj]
/-- What is found behind `i`. -/
theorem cont_add {S S' : Nat → Prop} {x : K} {i n : Nat} (hi : i < n) (hS : ∀ j, S' j ↔ S j ∨ j = i) (hD : D i x) (h2 : ∀ j, i < j → j < n → ¬ (S j ∧ D j x)) : cont val D S' n x = val (i + 1) x := by
  rw [cont_skip (i := i + 1) (by omega) fun j h3 h4 h5 => ?_]
  · rw [cont, if_pos ⟨(hS i).2 (.inr rfl), hD⟩]
  · rcases (hS j).1 h5.1 with h6 | h6
    · exact h2 j (by omega) h4 ⟨h6, h5.2⟩
    · omega
theorem cont_keep {S S' : Nat → Prop} {x : K} {i n : Nat} (hS : ∀ j, S' j ↔ S j ∨ j = i) (hD : ¬ D i x) : cont val D S' n x = cont val D S n x :=
  cont_congr fun j _ => ⟨fun h => ⟨((hS j).1 h.1).resolve_right fun e => hD (e ▸ h.2), h.2⟩, fun h => ⟨(hS j).2 (.inl h.1), h.2⟩⟩
end

/-! ### Who waits for whom -/
theorem masks_length {ops : Array Oper} : ∀ n, (masks ops n).length = n
  | 0 => rfl
  | n + 1 => by simp [masks, masks_length n]
theorem masks_get {ops : Array Oper} : ∀ (n k : Nat), k < n → (masks ops n).getD k 0 = waitOf ops (masks ops k) k
  | n + 1, k, h => by
    simp only [masks, List.getD_eq_getElem?_getD]
    by_cases hk : k < n
    · rw [List.getElem?_append_left (by rw [masks_length]; exact hk), ← List.getD_eq_getElem?_getD, masks_get n k hk]
    · obtain rfl : k = n := by omega
      rw [List.getElem?_append_right (by rw [masks_length]; exact Nat.le_refl _), masks_length]
      simp
theorem foldl_wait (acc : List Nat) (j : Nat) : ∀ (l : List Edge) (s : Nat), (l.foldl (waitF acc) s).testBit j = true →
    s.testBit j = true ∨ ∃ e ∈ l, Region.binds .any e = true ∧ (e.on = j ∨ (acc.getD e.on 0).testBit j = true)
  | [], s, h => .inl h
  | e :: l, s, h => by
    rcases foldl_wait acc j l _ h with h1 | ⟨e', he, hb, hh⟩
    · unfold waitF at h1
      split at h1
      · rename_i hb
        rw [Nat.testBit_or, Nat.testBit_or, Bool.or_eq_true, Bool.or_eq_true] at h1
        rcases h1 with (h1 | h1) | h1
        · exact .inl h1
        · refine .inr ⟨e, List.mem_cons_self .., hb, .inl ?_⟩
          rw [Nat.testBit_two_pow] at h1
          simpa using h1
        · exact .inr ⟨e, List.mem_cons_self .., hb, .inr h1⟩
      · exact .inl h1
    · exact .inr ⟨e', List.mem_cons_of_mem _ he, hb, hh⟩
/-- What has come up has all come up that it waits for. -/
def Down (ops : Array Oper) (listed : Array Bool) : Prop := ∀ k o, ops[k]? = some o → listed.getD k false = true → ∀ e ∈ o.after, Region.binds .any e = true → listed.getD e.on false = true
theorem wait_listed {ops : Array Oper} {listed : Array Bool} (hdown : Down ops listed) (hback : ∀ i o, ops[i]? = some o → ∀ e ∈ o.after, Region.binds .any e = true → e.on < i) {j : Nat} :
    ∀ (i : Nat) (o : Oper), ops[i]? = some o → (∀ e ∈ o.after, Region.binds .any e = true → listed.getD e.on false = true) → (waitOf ops (masks ops i) i).testBit j = true → listed.getD j false = true := by
  intro i
  induction i using Nat.strongRecOn with
  | _ i ih =>
    intro o ho hd hbit
    unfold waitOf at hbit
    rw [ho] at hbit
    rcases foldl_wait _ j _ _ hbit with h | ⟨e, he, hb, h⟩
    · simp at h
    · have hem : e ∈ o.after := by simpa using he
      have hlt := hback i o ho e hem hb
      have hl := hd e hem hb
      rcases h with rfl | h
      · exact hl
      · rw [masks_get i e.on hlt] at h
        cases hoe : ops[e.on]? with
        | none => unfold waitOf at h; rw [hoe] at h; simp at h
        | some oe => exact ih e.on hlt oe hoe (hdown e.on oe hoe hl) h

/-! ### What the check says -/
/-- `i` waits for `j`. -/
def Waits (ops : Array Oper) (i j : Nat) : Prop := ((masks ops ops.size).getD i 0).testBit j = true
def Lone (a b : Lg × Lg) : Prop := ∀ n, ¬ (a.2.has n = true ∧ (b.1.has n = true ∨ b.2.has n = true)) ∧ ¬ (b.2.has n = true ∧ a.1.has n = true)
theorem lf_lone1 (b : Lg × Lg) : Lone ([], []) b := fun n => ⟨fun h => by simp [Lg.has] at h, fun h => by simp [Lg.has] at h⟩
theorem lf_lone2 (a : Lg × Lg) : Lone a ([], []) := fun n => ⟨fun h => by simp [Lg.has] at h, fun h => by simp [Lg.has] at h⟩
theorem memAll_spec {ops : Array Oper} {i : Nat} {b : Lg × Lg} : ∀ (l : List (Lg × Lg)) (k : Nat), memAll ((masks ops ops.size).getD i 0) b l k = true → ∀ j (h : j < l.length), Waits ops i (k + j) ∨ Lone l[j] b
  | [], _, _, j, h => absurd h (by simp)
  | a :: r, k, hm, j, h => by
    unfold memAll at hm
    rw [Bool.and_eq_true] at hm
    cases j with
    | succ j =>
      have := memAll_spec r (k + 1) hm.2 j (by simpa using h)
      rw [show k + (j + 1) = k + 1 + j by omega]
      simpa using this
    | zero =>
      have h1 := hm.1
      simp only [List.getElem_cons_zero, Nat.add_zero]
      split at h1
      · exact .inr (lf_lone1 _)
      · exact .inr (lf_lone2 _)
      · rename_i r1 w1 r2 w2 _ _
        rw [Bool.or_eq_true, Bool.and_eq_true, Bool.and_eq_true] at h1
        rcases h1.symm with h1 | h1
        · refine .inr fun n => ⟨fun h2 => ?_, fun h2 => ?_⟩
          · rcases h2.2 with h3 | h3
            · exact Lg.disj_spec h1.1.1 n ⟨h2.1, h3⟩
            · exact Lg.disj_spec h1.1.2 n ⟨h2.1, h3⟩
          · exact Lg.disj_spec h1.2 n ⟨h2.2, h2.1⟩
        · exact .inl h1
theorem memOk_spec {ops : Array Oper} {all : List (Lg × Lg)} : ∀ (l : List (Lg × Lg)) (k : Nat), memOk (masks ops ops.size) all l k = true → ∀ i (h : i < l.length) j (hj : j < k + i) (hj2 : j < all.length), Waits ops (k + i) j ∨ Lone all[j] l[i]
  | [], _, _, i, h, _, _, _ => absurd h (by simp)
  | b :: r, k, hm, i, h, j, hj, hj2 => by
    unfold memOk at hm
    rw [Bool.and_eq_true] at hm
    cases i with
    | succ i =>
      have := memOk_spec r (k + 1) hm.2 i (by simpa using h) j (by omega) hj2
      rw [show k + (i + 1) = k + 1 + i by omega]
      simpa using this
    | zero =>
      have h1 := hm.1
      simp only [List.getElem_cons_zero, Nat.add_zero] at hj ⊢
      split at h1
      · exact .inr (lf_lone2 _)
      · have := memAll_spec _ 0 h1 j (by simp; omega)
        rw [Nat.zero_add] at this
        rcases this with h2 | h2
        · exact .inl h2
        · rw [List.getElem_take] at h2
          exact .inr h2
end Mo

namespace Mo
open Go

section
variable {P : Program} {sy : SyT} {w0 : Bs} {N : Nat} {ρ : Ren} {call : CallT} {rnd : RndT} {fr : Option Nat} {rm : Nat} {ops : Array Oper}
theorem WR.span {W : Tw} {w : World} (h : WR w0 ρ W w) {nx lim : Nat} {rd wr : Lg} (hf : ∀ n, nx ≤ n → n < lim → ¬ ρ.dom n) (hl : lim ≤ 2 ^ 63) : WR w0 ρ { W with nx := nx, lim := lim, rd := rd, wr := wr } w :=
  ⟨h.row, h.dom, h.mine, h.sep, h.prw, h.prd, h.prn, hf, hl, h.small, h.os, h.tape, h.output, h.size, h.old, h.r0⟩

/-- The list's own order, step by step. -/
structure Trace (P : Program) (sy : SyT) (call : CallT) (rnd : RndT) (N : Nat) (ops : Array Oper) (l : List Oper) (T : Nat → Tr Value × Tw) (v : Nat → Value) (U : Nat → Tw) : Prop where
  run : ∀ k (h : k < l.length), opV (opT P sy) call rnd ops l[k] (getS (T k).1) { (T k).2 with rd := [], wr := [] } = some (v k, U k)
  put : ∀ k (h : k < l.length), putS N l[k].dst (v k) (T k).1 = some (T (k + 1)).1
  get : ∀ k, k < l.length → ∀ n, (T (k + 1)).2.get n = (U k).get n
  nx : ∀ k, k < l.length → (T (k + 1)).2.nx = (U k).nx
  lim : ∀ k, k < l.length → (T (k + 1)).2.lim = (U k).lim
theorem evD_trace : ∀ (l : List Oper) (sl : Tr Value) (W : Tw) {slf : Tr Value} {ls : List (Lg × Lg)} {Wf : Tw}, evD (opT P sy) call rnd N ops l sl W = some ((slf, ls), Wf) →
    ∃ T v U, Trace P sy call rnd N ops l T v U ∧ T 0 = (sl, W) ∧ T l.length = (slf, Wf) ∧ ls.length = l.length ∧ ∀ k (h : k < ls.length), ls[k] = ((U k).rd, (U k).wr)
  | [], sl, W, slf, ls, Wf, h => by
    simp only [evD, Option.some.injEq, Prod.mk.injEq] at h
    obtain ⟨⟨rfl, rfl⟩, rfl⟩ := h
    exact ⟨fun _ => (sl, W), fun _ => undef, fun _ => W, ⟨fun k h => absurd h (by simp), fun k h => absurd h (by simp), fun k h => absurd h (by simp), fun k h => absurd h (by simp), fun k h => absurd h (by simp)⟩, rfl, rfl, rfl, fun k h => absurd h (by simp)⟩
  | o :: r, sl, W, slf, ls, Wf, h => by
    simp only [evD] at h
    obtain ⟨p, W1, h1, h2⟩ := bind_some h
    simp only [forV_eq] at h2
    cases hp : putS N o.dst p.1 sl with
    | none => rw [hp] at h2; cases h2
    | some sl1 =>
      rw [hp] at h2
      obtain ⟨q, W2, h3, h4⟩ := bind_some h2
      simp only [Option.some.injEq, Prod.mk.injEq] at h4
      obtain ⟨⟨e1, e2⟩, e3⟩ := h4
      obtain ⟨T, v, U, t, t0, t1, t2, t3⟩ := evD_trace r sl1 W1 h3
      rw [subT_eq] at h1
      cases hf : opV (opT P sy) call rnd ops o (getS sl) { W with rd := [], wr := [] } with
      | none => rw [hf] at h1; cases h1
      | some u =>
        obtain ⟨v0, U0⟩ := u
        rw [hf] at h1
        simp only [Option.map_some, Option.some.injEq, Prod.mk.injEq] at h1
        obtain ⟨rfl, rfl⟩ := h1
        refine ⟨fun k => match k with
          | 0 => (sl, W)
          | k + 1 => T k, fun k => match k with
          | 0 => v0
          | k + 1 => v k, fun k => match k with
          | 0 => U0
          | k + 1 => U k, ⟨fun k hk => ?_, fun k hk => ?_, fun k hk n => ?_, fun k hk => ?_, fun k hk => ?_⟩, rfl, ?_, ?_, fun k hk => ?_⟩
        · cases k with
          | zero => exact hf
          | succ k => exact t.run k (by simpa using hk)
        · cases k with
          | zero => show putS N o.dst v0 sl = some (T 0).1; rw [t0]; exact hp
          | succ k => exact t.put k (by simpa using hk)
        · cases k with
          | zero => show (T 0).2.get n = U0.get n; rw [t0]; rfl
          | succ k => exact t.get k (by simpa using hk) n
        · cases k with
          | zero => show (T 0).2.nx = U0.nx; rw [t0]
          | succ k => exact t.nx k (by simpa using hk)
        · cases k with
          | zero => show (T 0).2.lim = U0.lim; rw [t0]
          | succ k => exact t.lim k (by simpa using hk)
        · show T r.length = _
          rw [t1, e1, e3]
        · rw [← e2]; simp [t2]
        · subst e2
          cases k with
          | zero => rfl
          | succ k => exact t3 k (by simpa using hk)

theorem slotsOk_spec (h : slotsOk ops = true) : (∀ i o, ops[i]? = some o → ∀ e ∈ o.after, Region.binds .any e = true → e.on < i) ∧
    (∀ i o j oj, ops[i]? = some o → ops[j]? = some oj → j < i → Waits ops i j ∨ oj.apart ops o = true) := by
  constructor
  · intro i o hi e he hb
    have hlt : i < ops.size := (Array.getElem?_eq_some_iff.1 hi).1
    have h1 := List.all_eq_true.1 h i (List.mem_range.2 hlt)
    rw [hi] at h1
    simp only [Bool.and_eq_true] at h1
    have := List.all_eq_true.1 h1.1 e (by simpa using he)
    rw [hb] at this
    simpa using this
  · intro i o j oj hi hj hji
    have hlt : i < ops.size := (Array.getElem?_eq_some_iff.1 hi).1
    have h1 := List.all_eq_true.1 h i (List.mem_range.2 hlt)
    rw [hi] at h1
    simp only [Bool.and_eq_true] at h1
    have := List.all_eq_true.1 h1.2 j (List.mem_range.2 hji)
    rw [hj] at this
    unfold Waits
    simpa only [Bool.or_eq_true] using this

/-- Where a drawn region stands: `listed` is done. -/
structure At (w0 : Bs) (N : Nat) (ρ : Ren) (ops : Array Oper) (T : Nat → Tr Value × Tw) (U : Nat → Tw) (df : List Deferred) (listed : Array Bool) (ρ' : Ren) (a : Act) (w : World) : Prop where
  mem : ∃ V : Tw, WR w0 ρ' V w ∧ V.nx = (T ops.size).2.nx ∧ V.lim = (T 0).2.lim ∧ ∀ m, V.get m = cont (fun k n => (T k).2.get n) (fun k n => (U k).wr.has n = true) (fun j => listed.getD j false = true) ops.size m
  le : ρ.le ρ'
  dom : ∀ m, ρ'.dom m → ρ.dom m ∨ ∃ j, j < ops.size ∧ listed.getD j false = true ∧ (T j).2.nx ≤ m ∧ m < (T (j + 1)).2.nx
  sl : SR ρ' (fun t => cont (fun k t => getS (T k).1 t) (fun k t => (ops[k]?).bind (·.dst) = some t) (fun j => listed.getD j false = true) ops.size t) a
  df : a.defers = df
  N : a.tmps.size = N

theorem getD_set {listed : Array Bool} {i : Nat} (hi : i < listed.size) (j : Nat) : (listed.setIfInBounds i true).getD j false = true ↔ listed.getD j false = true ∨ j = i := by
  rw [Array.getD_eq_getD_getElem?, Array.getD_eq_getD_getElem?]
  by_cases hj : i = j
  · subst hj
    rw [Array.getElem?_setIfInBounds_self_of_lt hi]
    simp
  · rw [Array.getElem?_setIfInBounds_ne hj]
    constructor
    · exact .inl
    · rintro (h | h)
      · exact h
      · exact absurd h.symm hj

/-- One operation that is ready, in whatever order. -/
theorem at_step (hzs : ZSz P) (hc : CallS P w0 call) (hrn : RndS P w0 rnd) (hcl : CallL call rnd) {T : Nat → Tr Value × Tw} {v : Nat → Value} {U : Nat → Tw} (ht : Trace P sy call rnd N ops ops.toList T v U) (hs : slotsOk ops = true)
    (hlone : ∀ i j, j < i → i < ops.size → Waits ops i j ∨ Lone ((U j).rd, (U j).wr) ((U i).rd, (U i).wr)) (hroom : (T 0).2.nx ≤ (T 0).2.lim) {w1 : World} (hW0 : WR w0 ρ (T 0).2 w1)
    {listed : Array Bool} (hsz : listed.size = ops.size) (hdown : Down ops listed) {i : Nat} {o : Oper} (hi : ops[i]? = some o) (hu : listed.getD i false = false) (hdep : ∀ e ∈ o.after, Region.binds .any e = true → listed.getD e.on false = true)
    {df : List Deferred} {ρ' : Ren} {a : Act} {w : World} (h : At w0 N ρ ops T U df listed ρ' a w) (Q : Exit → Act → World → Prop) :
    if Region.wanted o (yielded ops a.tmps) then o.wpIn (FF fr) rm P a w (fun a' w' => ∃ ρ2, At w0 N ρ ops T U df (listed.setIfInBounds i true) ρ2 a' w') Q else At w0 N ρ ops T U df (listed.setIfInBounds i true) ρ' (a.put o.dst undef) w := by
  obtain ⟨hback, hpair⟩ := slotsOk_spec hs
  have hlt : i < ops.size := (Array.getElem?_eq_some_iff.1 hi).1
  have hll : ops.toList.length = ops.size := by simp
  have hget : ∀ k (hk : k < ops.size), ops.toList[k]'(by simpa using hk) = ops[k] := fun k hk => by simp
  have hoi : ops.toList[i]'(by simpa using hlt) = o := by rw [hget i hlt]; exact (Array.getElem?_eq_some_iff.1 hi).2
  have hmono : ∀ k, k < ops.size → (T k).2.nx ≤ (T (k + 1)).2.nx ∧ (T (k + 1)).2.lim = (T k).2.lim ∧ ((T k).2.nx ≤ (T k).2.lim → (T (k + 1)).2.nx ≤ (T (k + 1)).2.lim) := fun k hk => by
    have hk' : k < ops.toList.length := by simpa using hk
    have m := (Local.opV (P := P) (sy := sy) hcl ops ops.toList[k] (getS (T k).1)).mono (ht.run k hk')
    rw [ht.nx k hk', ht.lim k hk']
    exact ⟨m.nx, m.lim, m.room⟩
  have hlims : ∀ k, k ≤ ops.size → (T k).2.lim = (T 0).2.lim ∧ (T k).2.nx ≤ (T k).2.lim := by
    intro k
    induction k with
    | zero => intro _; exact ⟨rfl, hroom⟩
    | succ k ih =>
      intro hk
      obtain ⟨i1, i2⟩ := ih (by omega)
      obtain ⟨_, j2, j3⟩ := hmono k (by omega)
      exact ⟨j2.trans i1, j3 i2⟩
  have hnx : ∀ d k, k + d ≤ ops.size → (T k).2.nx ≤ (T (k + d)).2.nx := by
    intro d
    induction d with
    | zero => intro k _; exact Nat.le_refl _
    | succ d ih =>
      intro k hk
      exact Nat.le_trans (ih k (by omega)) (hmono (k + d) (by omega)).1
  have hnx' : ∀ j k, j ≤ k → k ≤ ops.size → (T j).2.nx ≤ (T k).2.nx := fun j k h1 h2 => by
    have := hnx (k - j) j (by omega)
    rwa [show j + (k - j) = k by omega] at this
  -- what isn't written stays
  have hfm : ∀ k, k < ops.size → ∀ m, ¬ (U k).wr.has m = true → (T (k + 1)).2.get m = (T k).2.get m := fun k hk m hm => by
    have hk' : k < ops.toList.length := by simpa using hk
    have L := Local.opV (P := P) (sy := sy) hcl ops ops.toList[k] (getS (T k).1)
    have hr := ht.run k hk'
    obtain ⟨V', _, hl⟩ := L.loc hr (V := { (T k).2 with rd := [], wr := [] }) ⟨rfl, rfl, rfl, by
      have := (hlims (k + 1) (by omega)).2
      rw [ht.nx k hk', ht.lim k hk'] at this
      rw [(L.mono hr).lim] at this
      exact this, fun _ _ => rfl, fun _ _ => rfl⟩
    rw [ht.get k hk' m]
    exact hl.keptW m hm
  have hfs : ∀ k, k < ops.size → ∀ t, ¬ (ops[k]?).bind (·.dst) = some t → getS (T (k + 1)).1 t = getS (T k).1 t := fun k hk t hd => by
    have hk' : k < ops.toList.length := by simpa using hk
    obtain ⟨_, h2⟩ := putS_some (ht.put k hk')
    rw [h2, if_neg]
    intro he
    refine hd ?_
    rw [Array.getElem?_eq_getElem hk]
    rw [hget k hk] at he
    exact he
  -- who waits
  have hS1 : ∀ j, Waits ops i j → listed.getD j false = true := fun j hj => by
    unfold Waits at hj
    rw [masks_get _ _ hlt] at hj
    exact wait_listed hdown hback i o hi hdep hj
  have hS2 : ∀ j, j < ops.size → listed.getD j false = true → ¬ Waits ops j i := fun j hj hl hw => by
    unfold Waits at hw
    rw [masks_get _ _ hj] at hw
    have hoj : ops[j]? = some ops[j] := Array.getElem?_eq_getElem hj
    have := wait_listed hdown hback j _ hoj (fun e he hb => hdown j _ hoj hl e he hb) hw
    rw [hu] at this
    cases this
  obtain ⟨V, v1, v2, v3, v4⟩ := h.mem
  -- memory that is touched is as in the list's order
  have hmem : ∀ m, (U i).touched m → V.get m = (T i).2.get m := by
    intro m hm
    rw [v4]
    have hfr' : ∀ k, ¬ ((U k).wr.has m = true ∧ k < ops.size) → k < ops.size → (T (k + 1)).2.get m = (T k).2.get m := fun k h1 h2 => hfm k h2 m fun h3 => h1 ⟨h3, h2⟩
    have key : ∀ S : Nat → Prop, (∀ j, j < i → (U j).wr.has m = true → S j) → (∀ j, i ≤ j → j < ops.size → ¬ (S j ∧ (U j).wr.has m = true)) → cont (fun k n => (T k).2.get n) (fun k n => (U k).wr.has n = true) S ops.size m = (T i).2.get m := by
      intro S h1 h2
      rw [cont_skip (x := m) (D := fun k n => (U k).wr.has n = true) (Nat.le_of_lt hlt) h2]
      have : ∀ k, k ≤ i → cont (fun k n => (T k).2.get n) (fun k n => (U k).wr.has n = true) S k m = (T k).2.get m := by
        intro k
        induction k with
        | zero => intro _; rfl
        | succ k ih =>
          intro hk
          rw [cont]
          by_cases hd : S k ∧ (U k).wr.has m = true
          · rw [if_pos hd]
          · rw [if_neg hd, ih (by omega)]
            exact (hfm k (by omega) m fun h3 => hd ⟨h1 k (by omega) h3, h3⟩).symm
      exact this i (Nat.le_refl _)
    refine key _ (fun j hj hw => ?_) (fun j hj hj2 hw => ?_)
    · rcases hlone i j hj hlt with h1 | h1
      · exact hS1 j h1
      · exact absurd ⟨hw, hm⟩ (h1 m).1
    · rcases Nat.lt_or_eq_of_le hj with h1 | h1
      · rcases hlone j i h1 hj2 with h2 | h2
        · exact hS2 j hj2 hw.1 h2
        · rcases hm with h3 | h3
          · exact (h2 m).2 ⟨hw.2, h3⟩
          · exact (h2 m).1 ⟨h3, .inr hw.2⟩
      · subst h1
        rw [hu] at hw
        cases hw.1
  -- slots that are looked at, too
  have hslot : ∀ t, (∀ j, j < i → (ops[j]?).bind (·.dst) = some t → listed.getD j false = true) → (∀ j, i ≤ j → j < ops.size → ¬ (listed.getD j false = true ∧ (ops[j]?).bind (·.dst) = some t)) →
      cont (fun k t => getS (T k).1 t) (fun k t => (ops[k]?).bind (·.dst) = some t) (fun j => listed.getD j false = true) ops.size t = getS (T i).1 t := by
    intro t h1 h2
    rw [cont_skip (x := t) (D := fun k t => (ops[k]?).bind (·.dst) = some t) (Nat.le_of_lt hlt) h2]
    have : ∀ k, k ≤ i → cont (fun k t => getS (T k).1 t) (fun k t => (ops[k]?).bind (·.dst) = some t) (fun j => listed.getD j false = true) k t = getS (T k).1 t := by
      intro k
      induction k with
      | zero => intro _; rfl
      | succ k ih =>
        intro hk
        rw [cont]
        by_cases hd : listed.getD k false = true ∧ (ops[k]?).bind (·.dst) = some t
        · rw [if_pos hd]
        · rw [if_neg hd, ih (by omega)]
          exact (hfs k (by omega) t fun h3 => hd ⟨h1 k (by omega) h3, h3⟩).symm
    exact this i (Nat.le_refl _)
  have hdst : ∀ (j t : Nat), (ops[j]?).bind (fun (x : Oper) => x.dst) = some t → ∃ oj : Oper, ops[j]? = some oj ∧ oj.dst = some t := fun j t h1 => by
    cases hj : ops[j]? with
    | none => rw [hj] at h1; cases h1
    | some oj => rw [hj] at h1; exact ⟨oj, rfl, h1⟩
  have hlook : ∀ t ∈ o.looksAt ops, VR ρ' (getS (T i).1 t) (a.tmps.getD t undef) := by
    intro t htl
    have := h.sl.at' t
    rw [hslot t ?_ ?_] at this
    · exact this
    · intro j hj hd
      obtain ⟨oj, e1, e2⟩ := hdst j t hd
      rcases hpair i o j oj hi e1 hj with h1 | h1
      · exact hS1 j h1
      · exact absurd htl ((Oper.apart_spec h1).1 t e2)
    · intro j hj hj2 hd
      obtain ⟨oj, e1, e2⟩ := hdst j t hd.2
      rcases Nat.lt_or_eq_of_le hj with h1 | h1
      · rcases hpair j oj i o e1 hi h1 with h2 | h2
        · exact hS2 j hj2 hd.1 h2
        · exact (Oper.apart_spec h2).2.2 t e2 htl
      · subst h1
        rw [hu] at hd
        cases hd.1
  -- the run
  have hi' : i < ops.toList.length := by simpa using hlt
  have hrun := ht.run i hi'
  rw [hoi] at hrun
  have hnxi : (U i).nx = (T (i + 1)).2.nx := (ht.nx i hi').symm
  have hlim0 := hW0.lim
  have hVi : WR w0 ρ' { V with nx := (T i).2.nx, lim := (T (i + 1)).2.nx, rd := [], wr := [] } w := by
    refine v1.span (fun m h1 h2 hd => ?_) ?_
    · rcases h.dom m hd with h3 | ⟨j, j1, j2, j3, j4⟩
      · refine hW0.free m ?_ ?_ h3
        · exact Nat.le_trans (hnx' 0 i (by omega) (by omega)) h1
        · have := (hlims (i + 1) (by omega))
          omega
      · rcases Nat.lt_trichotomy j i with h5 | h5 | h5
        · have := hnx' (j + 1) i (by omega) (by omega); omega
        · subst h5; rw [hu] at j2; cases j2
        · have := hnx' (i + 1) j (by omega) (by omega); omega
    · have := (hlims (i + 1) (by omega)); omega
  have hlike : Like { (T i).2 with rd := [], wr := [] } (U i) { V with nx := (T i).2.nx, lim := (T (i + 1)).2.nx, rd := [], wr := [] } :=
    ⟨rfl, rfl, rfl, by rw [hnxi]; exact Nat.le_refl _, fun m hm => hmem m hm, fun m hm => absurd hm (by simp [Lg.has])⟩
  obtain ⟨V1, g1, g2⟩ := (Local.opV (P := P) (sy := sy) hcl ops o (getS (T i).1)).loc hrun hlike
  have hstep := opV_sound (fr := fr) (rm := rm) hzs hc hrn hVi hlook g1 Q
  have hput := ht.put i hi'
  rw [hoi] at hput
  obtain ⟨p1, p2⟩ := putS_some hput
  have hii : i < listed.size := by omega
  have fin : ∀ (ρ2 : Ren) (y : Value) (w' : World), Ext ρ' { V with nx := (T i).2.nx, lim := (T (i + 1)).2.nx, rd := [], wr := [] } ρ2 V1 → WR w0 ρ2 V1 w' → VR ρ2 (v i) y → At w0 N ρ ops T U df (listed.setIfInBounds i true) ρ2 (a.put o.dst y) w' := by
    intro ρ2 y w' hx hW hv
    have hV1nx : V1.nx = (T (i + 1)).2.nx := by rw [g2.nx, hnxi]
    refine ⟨⟨{ V1 with nx := (T ops.size).2.nx, lim := (T 0).2.lim, rd := V1.rd, wr := V1.wr }, hW.span (fun m h1 h2 hd => ?_) hlim0, rfl, rfl, fun m => ?_⟩, h.le.trans hx.le, fun m hd => ?_, ⟨fun t => ?_⟩, ?_, ?_⟩
    · rcases hx.dom m hd with h3 | ⟨h3, h4⟩
      · exact v1.free m (by rw [v2]; exact h1) (by rw [v3]; exact h2) h3
      · rw [hV1nx] at h4
        have := hnx' (i + 1) ops.size (by omega) (Nat.le_refl _)
        omega
    · show V1.get m = _
      by_cases hd : (U i).wr.has m = true
      · rw [g2.got m hd, cont_add (x := m) (D := fun k n => (U k).wr.has n = true) (i := i) hlt (fun j => getD_set hii j) hd ?_, ht.get i hi']
        intro j h1 h2 h3
        rcases hlone j i h1 h2 with h4 | h4
        · exact hS2 j h2 h3.1 h4
        · exact (h4 m).1 ⟨hd, .inr h3.2⟩
      · rw [g2.kept m hd, cont_keep (x := m) (D := fun k n => (U k).wr.has n = true) (i := i) (fun j => getD_set hii j) hd]
        exact v4 m
    · rcases hx.dom m hd with h3 | ⟨h3, h4⟩
      · rcases h.dom m h3 with h5 | ⟨j, j1, j2, j3⟩
        · exact .inl h5
        · exact .inr ⟨j, j1, (getD_set hii j).2 (.inl j2), j3⟩
      · exact .inr ⟨i, hlt, (getD_set hii i).2 (.inr rfl), h3, by rw [← hV1nx]; exact h4⟩
    · have hbase := (h.sl.le hx.le)
      have hput2 := SR.put (f' := fun t => if o.dst = some t then v i else cont (fun k t => getS (T k).1 t) (fun k t => (ops[k]?).bind (·.dst) = some t) (fun j => listed.getD j false = true) ops.size t) hbase hv (d := o.dst) (fun t ht2 => by rw [h.N]; exact p1 t ht2) (fun _ => rfl)
      have := hput2.at' t
      by_cases hd : o.dst = some t
      · rw [if_pos hd] at this
        rw [cont_add (x := t) (D := fun k t => (ops[k]?).bind (·.dst) = some t) (i := i) hlt (fun j => getD_set hii j) (by rw [hi]; exact hd) ?_, p2, if_pos hd]
        · exact this
        · intro j h1 h2 h3
          obtain ⟨oj, e1, e2⟩ := hdst j t h3.2
          rcases hpair j oj i o e1 hi h1 with h4 | h4
          · exact hS2 j h2 h3.1 h4
          · exact (Oper.apart_spec h4).2.1 t hd e2
      · rw [if_neg hd] at this
        rw [cont_keep (x := t) (D := fun k t => (ops[k]?).bind (·.dst) = some t) (i := i) (fun j => getD_set hii j) (by rw [hi]; exact hd)]
        exact this
    · cases o.dst <;> exact h.df
    · cases o.dst with
      | none => exact h.N
      | some t => simp only [Act.put, Array.size_setIfInBounds]; exact h.N
  split
  · rename_i hw
    rw [if_pos hw] at hstep
    refine Oper.wpIn_mono (fun a' w' hr => ?_) hstep
    obtain ⟨ρ2, y, x1, x2, x3, rfl⟩ := hr
    exact ⟨ρ2, fin ρ2 y w' x1 x2 x3⟩
  · rename_i hw
    rw [if_neg hw] at hstep
    obtain ⟨e1, k1, k2, k3⟩ := hstep
    exact fin ρ' undef w ⟨.rfl', fun _ h => .inl h, by rw [k2]; exact Nat.le_refl _, k3⟩ k1 (by rw [e1]; exact VR_undef)
end
end Mo

