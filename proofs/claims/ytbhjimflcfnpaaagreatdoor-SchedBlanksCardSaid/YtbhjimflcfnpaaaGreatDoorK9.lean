import Derived.Test.YtbhjimflcfnpaaaGreatDoorK8
set_option linter.all false
namespace Mo
open Go

/-! ## Functions told by typed values -/
noncomputable def conK (c : Con) (args : List Value) (W : Tw) (k : Value → Tw → AnV) : AnV :=
  opb (argsT c.as args W) fun x W => Bool.rec (motive := fun _ => AnV) none (opb (impR c.rs (c.fn x) W) k) (c.pre x)
theorem conK_ok (c : Con) (args : List Value) (W : Tw) (k : Value → Tw → AnV) (r : Value × Tw) (h : conK c args W k = some r) : ∃ v W', conT c args W = some (v, W') ∧ k v W' = some r := by
  obtain ⟨x, W1, h1, h2⟩ := opb_some h
  cases hf : c.pre x with
  | false => rw [hf] at h2; cases h2
  | true =>
    rw [hf] at h2
    obtain ⟨v, W2, h3, h4⟩ := opb_some h2
    refine ⟨v, W2, ?_, h4⟩
    unfold conT
    have hF : c.F x = some (c.fn x) := by unfold Con.F; rw [hf]
    rw [h1, Option.bind_some]
    simp only [hF]
    exact h3
noncomputable def Con.call (c : Con) : CallC := ⟨conT c, conK c⟩
section
variable {P : Program} {w0 : Bs} {ρ : Ren}
theorem conT_sound {Q : Pt → Prop} (hmn : MonoQ Q) (hq0 : Q w0.r0.pr) {f : FuncId} {c : Con} (hc : c.Ok P Q f) {W W' : Tw} {w : World} {args args' : Array Value} {r : Value} (hW : WR w0 ρ W w) (hA : AR ρ args args') (h : conT c args.toList W = some (r, W')) :
    Calls P f args' w fun e w' => ∃ ρ2 y, e = .returned y ∧ Ext ρ W ρ2 W' ∧ WR w0 ρ2 W' w' ∧ VR ρ2 r y := by
  unfold conT at h
  obtain ⟨x, W1, h1, h2⟩ := bind_some h
  simp only at h2
  split at h2
  · rename_i y hy
    have hL : LR' ρ args.toList args'.toList := ⟨by simpa using hA.size, fun i h3 h4 => by
      have h3' : i < args.size := by simpa using h3
      have h4' : i < args'.size := by simpa using h4
      have := hA.at' i h3'
      simpa [Array.getD, h3', h4'] using this⟩
    obtain ⟨pr1, k0, k2, k3, k4, k1⟩ := argsT_sound hW hL h1
    refine (hc pr1 w args' x y (hmn _ _ (hW.r0.pr.trans k0) hq0) k2.prw k1 hy).mono ?_
    rintro e w' ⟨z, pr', rfl, hb, hle, hok, hn, hr⟩
    obtain ⟨hl, hW2⟩ := k2.grow hb hle hok hn
    obtain ⟨ρ2, m1, m2, m3, m4, m5, m6⟩ := impR_sound hW2 h2 hr
    refine ⟨ρ2, z, rfl, ⟨((Ren.le_pr k0).trans hl).trans m1, fun k hk => ?_, ?_, m6.trans k4⟩, m3, m4⟩
    · rcases m2 k hk with h5 | h5
      · exact .inl h5
      · exact .inr (by rw [← k3]; exact h5)
    · rw [← k3]; exact m5
  · cases h2
end
/-! ### A result, in a form of its own -/
noncomputable def W0 : Tw := ⟨.lf, 0, 9223372036854775808, [], []⟩
noncomputable def argR (rs : List AT) (v : Value) (W : Tw) : Option (AD rs × Tw) := match rs with
  | [a] => (argA a v W).bind fun p => some ((p.1, ()), p.2)
  | rs => match v with
    | .tuple ⟨l⟩ => argsT rs l W
    | _ => none
noncomputable def canon (rs : List AT) (y : AD rs) : AnV := impR rs y W0
noncomputable def decode (rs : List AT) (p : Value × Tw) : Option (AD rs) := (argR rs p.1 p.2).map (·.1)
/-- What is there stays. -/
def Keep (W V : Tw) : Prop := ∀ n, n < W.nx → V.get n = W.get n
theorem kEq_refl (k : IntKind) : kEq k k = true := by cases k <;> rfl
mutual
theorem Ty.beq_refl : ∀ t : Ty, t.beq t = true
  | .int k => by unfold Ty.beq; exact kEq_refl k
  | .bool => by unfold Ty.beq; rfl
  | .str => by unfold Ty.beq; rfl
  | .sl c => by unfold Ty.beq; exact Tys.beq_refl c
theorem Tys.beq_refl : ∀ t : Tys, t.beq t = true
  | .one t => by unfold Tys.beq; exact Ty.beq_refl t
  | .cons t r => by unfold Tys.beq; rw [Ty.beq_refl t, Tys.beq_refl r]; rfl
end
theorem castT_same : ∀ (t : Ty) (x : t.D), castT ⟨t, x⟩ t = some x
  | .int k, x => by
    show castI k k x = some x
    unfold castI
    rw [kEq_refl]
  | .bool, x => rfl
  | .str, x => rfl
  | .sl c, x => by
    show castL c c x = some x
    unfold castL
    rw [dif_pos (Tys.beq_refl c)]
    rfl
theorem symN_back {t : TV} {W W' : Tw} {v : Value} (h : symN t W = some (v, W')) : W.nx < W'.nx ∧ Keep W W' ∧ ∀ V, Keep W' V → ∃ V', payT v V = some (t, V') ∧ ∀ n, V'.get n = V.get n := by
  obtain ⟨n, W1, h1, h2⟩ := bind_some h
  cases h2
  have hlt := lay_lt h1
  obtain ⟨hx, rfl, rfl⟩ := lay_some h1
  have hget : ∀ i, (Tw.wrote { W.set W.nx (some ⟨[], 0, false, 0, some (.p t)⟩) with nx := W.nx + 1 } W.nx).get i = if i = W.nx then some ⟨[], 0, false, 0, some (.p t)⟩ else W.get i := Tw.get_set W hlt _
  refine ⟨Nat.lt_succ_self _, fun k hk => by rw [hget, if_neg (by omega)], fun V hV => ⟨V.read W.nx, ?_, fun _ => rfl⟩⟩
  have hg : V.get W.nx = some ⟨[], 0, false, 0, some (.p t)⟩ := by
    rw [hV W.nx (Nat.lt_succ_self _), hget, if_pos rfl]
  unfold payT
  simp only [look_eq, hg, Option.bind_some]
theorem Keep.trans {W V U : Tw} (h : Keep W V) (hn : W.nx ≤ V.nx) (k : Keep V U) : Keep W U := fun n hn' => (k n (by omega)).trans (h n hn')
theorem argV_back {t : Ty} {x : t.D} {W W' : Tw} {v : Value} (h : symN ⟨t, x⟩ W = some (v, W')) : ∀ V, Keep W' V → ∃ V', argV t v V = some (x, V') ∧ ∀ n, V'.get n = V.get n := by
  intro V hV
  obtain ⟨-, -, h1⟩ := symN_back h
  obtain ⟨n, W1, h4, h5⟩ := bind_some h
  cases h5
  have pay : ∀ V, Keep W' V → ∃ V', castP t (.chan (some n)) V = some (x, V') ∧ ∀ n, V'.get n = V.get n := by
    intro V hV
    obtain ⟨V', h2, h3⟩ := h1 V hV
    refine ⟨V', ?_, h3⟩
    unfold castP
    rw [h2, Option.bind_some]
    simp only [castT_same]
    rfl
  cases t with
  | sl c =>
    obtain ⟨hx, hn, rfl⟩ := lay_some h4
    subst hn
    have hlt := lay_lt h4
    have hg : V.get W.nx = some ⟨[], 0, false, 0, some (.p ⟨.sl c, x⟩)⟩ := by
      rw [hV W.nx (Nat.lt_succ_self _)]
      show (Tw.wrote { W.set W.nx _ with nx := W.nx + 1 } W.nx).get W.nx = _
      have := Tw.get_set W hlt (some ⟨[], 0, false, 0, some (.p ⟨.sl c, x⟩)⟩) W.nx
      rw [if_pos rfl] at this
      exact this
    have hs : shutT W.nx V = some ((), V.read W.nx) := by
      unfold shutT
      rw [look_eq, hg]
      rfl
    obtain ⟨V', h2, h3⟩ := pay (V.read W.nx) hV
    refine ⟨V', ?_, h3⟩
    unfold argV
    show (shutT W.nx V).bind _ = _
    rw [hs]
    exact h2
  | _ => unfold argV; exact pay V hV
theorem symL_back : ∀ {c : Tys} {x : c.D} {W W' : Tw} {vs : List Value}, symL (c.tvs x) W = some (vs, W') → W.nx ≤ W'.nx ∧ Keep W W' ∧ ∀ V, Keep W' V → ∃ V', argC c vs V = some (x, V') ∧ ∀ n, V'.get n = V.get n
  | .one t, x, W, W', vs, h => by
    obtain ⟨v, W1, h1, h2⟩ := bind_some h
    obtain ⟨us, W2, h3, h4⟩ := bind_some h2
    cases h3
    cases h4
    obtain ⟨k1, k2, -⟩ := symN_back h1
    exact ⟨Nat.le_of_lt k1, k2, fun V hV => argV_back h1 V hV⟩
  | .cons t r, x, W, W', vs, h => by
    obtain ⟨v, W1, h1, h2⟩ := bind_some h
    obtain ⟨us, W2, h3, h4⟩ := bind_some h2
    cases h4
    obtain ⟨k1, k2, -⟩ := symN_back h1
    obtain ⟨m1, m2, m3⟩ := symL_back (c := r) h3
    have k1' : W.nx < W1.nx := k1
    have m1' : W1.nx ≤ W'.nx := m1
    refine ⟨by show W.nx ≤ W'.nx; omega, k2.trans (by omega) m2, fun V hV => ?_⟩
    obtain ⟨V1, e1, e2⟩ := argV_back h1 V (m2.trans m1 hV)
    obtain ⟨V2, e3, e4⟩ := m3 V1 fun n hn => (e2 n).trans (hV n hn)
    refine ⟨V2, ?_, fun n => (e4 n).trans (e2 n)⟩
    show (argV t v V).bind _ = _
    rw [e1, Option.bind_some]
    simp only
    rw [e3]
    rfl
theorem impA_back {a : AT} {x : a.D} {W W' : Tw} {v : Value} (h : impA a x W = some (v, W')) : W.nx ≤ W'.nx ∧ Keep W W' ∧ ∀ V, Keep W' V → ∃ V', argA a v V = some (x, V') ∧ ∀ n, V'.get n = V.get n := by
  cases a with
  | v t =>
    obtain ⟨k1, k2, -⟩ := symN_back h
    exact ⟨Nat.le_of_lt k1, k2, fun V hV => argV_back h V hV⟩
  | a c =>
    obtain ⟨l, W1, h1, h2⟩ := bind_some h
    cases h2
    exact symL_back h1
theorem impL_back : ∀ {rs : List AT} {x : AD rs} {W W' : Tw} {vs : List Value}, impL rs x W = some (vs, W') → W.nx ≤ W'.nx ∧ Keep W W' ∧ ∀ V, Keep W' V → ∃ V', argsT rs vs V = some (x, V') ∧ ∀ n, V'.get n = V.get n
  | [], x, W, W', vs, h => by
    cases h
    exact ⟨Nat.le_refl _, fun _ _ => rfl, fun V _ => ⟨V, rfl, fun _ => rfl⟩⟩
  | a :: r, x, W, W', vs, h => by
    obtain ⟨v, W1, h1, h2⟩ := bind_some h
    obtain ⟨us, W2, h3, h4⟩ := bind_some h2
    cases h4
    obtain ⟨k1, k2, k3⟩ := impA_back h1
    obtain ⟨m1, m2, m3⟩ := impL_back h3
    have k1' : W.nx ≤ W1.nx := k1
    have m1' : W1.nx ≤ W'.nx := m1
    refine ⟨by show W.nx ≤ W'.nx; omega, k2.trans k1 m2, fun V hV => ?_⟩
    obtain ⟨V1, e1, e2⟩ := k3 V (m2.trans m1 hV)
    obtain ⟨V2, e3, e4⟩ := m3 V1 fun n hn => (e2 n).trans (hV n hn)
    refine ⟨V2, ?_, fun n => (e4 n).trans (e2 n)⟩
    show (argA a v V).bind _ = _
    rw [e1, Option.bind_some]
    simp only
    rw [e3]
    rfl
theorem decode_canon {rs : List AT} {y : AD rs} {p : Value × Tw} (h : canon rs y = some p) : decode rs p = some y := by
  obtain ⟨v, W'⟩ := p
  unfold canon at h
  unfold decode
  have gen : ∀ {l : List Value} {V : Tw}, impL rs y W0 = some (l, V) → ∃ V', argsT rs l V = some (y, V') := by
    intro l V hl
    obtain ⟨-, -, k3⟩ := impL_back hl
    obtain ⟨V', e1, -⟩ := k3 V fun _ _ => rfl
    exact ⟨V', e1⟩
  cases rs with
  | nil =>
    have h' : (impL [] y W0).bind (fun p => some (.tuple ⟨p.1⟩, p.2)) = some (v, W') := h
    obtain ⟨l, W1, h1, h2⟩ := bind_some h'
    obtain ⟨V', e1⟩ := gen h1
    cases h2
    show (argsT [] l W1).map _ = _
    rw [e1]; rfl
  | cons a r => cases r with
    | nil =>
      have h' : impA a y.1 W0 = some (v, W') := h
      obtain ⟨-, -, k3⟩ := impA_back h'
      obtain ⟨V', e1, -⟩ := k3 W' fun _ _ => rfl
      show ((argA a v W').bind _).map _ = _
      rw [e1]; rfl
    | cons b r =>
      have h' : (impL (a :: b :: r) y W0).bind (fun p => some (.tuple ⟨p.1⟩, p.2)) = some (v, W') := h
      obtain ⟨l, W1, h1, h2⟩ := bind_some h'
      obtain ⟨V', e1⟩ := gen h1
      cases h2
      show (argsT (a :: b :: r) l W1).map _ = _
      rw [e1]; rfl
/-- A function, run on whatever values. -/
noncomputable def run (P : Program) (sy : SyT) (tb : Tb) (L n : Nat) (f : FuncId) (as rs : List AT) (x : AD as) : AnV :=
  opb (impL as x W0) fun args W => (zFR P sy tb L n).1 f args W fun v W => opb (argR rs v W) fun y _ => canon rs y
section
variable {P : Program} {w0 : Bs} {ρ : Ren}
theorem argR_sound {rs : List AT} {v y : Value} {W W' : Tw} {w : World} {x : AD rs} (hW : WR w0 ρ W w) (hv : VR ρ v y) (h : argR rs v W = some (x, W')) : Fz w0 ρ W w W' fun ρ' => RdR ρ'.pr rs x y := by
  have gen : ∀ {l : List Value}, v = .tuple ⟨l⟩ → argsT rs l W = some (x, W') → Fz w0 ρ W w W' fun ρ' => ∃ vs : Array Value, y = .tuple vs ∧ RdA ρ'.pr rs x vs.toList := by
    intro l hl ha
    subst hl
    cases hv with
    | tuple hx hh =>
      rename_i xs'
      refine (argsT_sound hW ⟨by simpa using hx, fun i h1 h2 => ?_⟩ ha).mono fun ρ' _ hr => ⟨xs', rfl, hr⟩
      have h2' : i < xs'.size := by simpa using h2
      have := hh i (by simpa using h1)
      simpa [Array.getD, h1, h2'] using this
  cases rs with
  | nil =>
    cases v <;> first | (cases h; done) | skip
    rename_i xs
    obtain ⟨l⟩ := xs
    exact gen rfl h
  | cons a r => cases r with
    | nil =>
      have h' : (argA a v W).bind (fun p => some ((p.1, ()), p.2)) = some (x, W') := h
      obtain ⟨z, W1, h1, h2⟩ := bind_some h'
      cases h2
      exact argA_sound hW hv h1
    | cons b r =>
      cases v <;> first | (cases h; done) | skip
      rename_i xs
      obtain ⟨l⟩ := xs
      exact gen rfl h
/-- What there is ahead of a run. -/
def b0 (w : World) (pr : Pt) : Bs := { toWorld := w, r0 := ⟨fun _ => False, fun _ => 0, fun _ => 0, fun _ => 0, fun _ => 0, fun _ => 0, fun _ _ => False, pr⟩, ex := fun _ => False }
theorem b0_WR {w : World} {pr : Pt} (hpr : PrOk pr w) : WR (b0 w pr) (b0 w pr).r0 W0 w := by
  have hget : ∀ n, W0.get n = none := fun n => by
    unfold Tw.get W0
    split
    · exact Tr.get_lf n
    · rfl
  refine ⟨fun n r hn => ?_, fun n r hn => ?_, fun n r hn => ?_, fun n m r q hn => ?_, hpr, fun n r hn => ?_, fun b k h0 h1 => absurd h0 h1, fun n _ _ h => h, Nat.le_refl _, fun n h => absurd h id, rfl, rfl, rfl, Nat.le_refl _, fun _ _ _ => rfl, .rfl'⟩
  all_goals (rw [hget] at hn; cases hn)
/-- From arguments laid to the answer. -/
theorem fin_sound {sy : SyT} {Q : Pt → Prop} (hp : ∀ w0, Q w0.r0.pr → POk P w0 sy) {tb : Tb} (htb : TbOk P tb) {L n : Nat} {f : FuncId} {rs : List AT} {vs : List Value} {args : Array Value} {w : World} {pr : Pt} {ρ2 : Ren} {W1 : Tw} {p : Value × Tw} {r : AD rs} (hq : Q pr) (hle : pr.le ρ2.pr) (hW : WR (b0 w pr) ρ2 W1 w)
    (hA : LR' ρ2 vs args.toList) (h : (zFR P sy tb L n).1 f vs W1 (fun v W => opb (argR rs v W) fun y _ => canon rs y) = some p) (hr : decode rs p = some r) :
    Calls P f args w fun e w' => ∃ y pr', e = .returned y ∧ RowKit.Below w.heap.size w w' ∧ pr.le pr' ∧ PrOk pr' w' ∧ (∀ b k, pr b k = none → pr' b k ≠ none → w.heap.size ≤ b) ∧ RdR pr' rs r y := by
  obtain ⟨v, W2, g1, g2⟩ := (zFR_le (hp (b0 w pr) hq).zero.ko htb L n).1 f vs W1 _ _ h
  have hA' : AR ρ2 ⟨vs⟩ args := ⟨by simpa using hA.len, fun i hi => by
    have hi' : i < vs.length := by simpa using hi
    have hi2 : i < args.size := by have := hA.len; simp at this; omega
    have := hA.at' i hi' (by simpa using hi2)
    simpa [Array.getD, hi', hi2] using this⟩
  refine (evFq_sound (hp (b0 w pr) hq) htb L n ρ2 W1 w f ⟨vs⟩ args v W2 hW hA' g1).mono ?_
  rintro e w' ⟨ρ3, y, rfl, m1, m2, m3⟩
  obtain ⟨y', W3, g3, g4⟩ := opb_some g2
  have hd := decode_canon g4
  rw [hd] at hr
  cases hr
  obtain ⟨pr4, n1, n2, -, -, n5⟩ := argR_sound m2 m3 g3
  refine ⟨y, pr4, rfl, ⟨m2.os, m2.tape, m2.output, m2.size, fun b hb => m2.old b hb id⟩, (hle.trans m1.le.pr).trans n1, n2.prw, fun b k h0 h1 => ?_, n5⟩
  rcases n2.prn b k h0 h1 with h5 | h5
  · exact h5
  · exact absurd h5 id
/-- What a run comes to, the function answers. -/
theorem con_of_run {sy : SyT} {Q : Pt → Prop} (hp : ∀ w0, Q w0.r0.pr → POk P w0 sy) {tb : Tb} (htb : TbOk P tb) {L n : Nat} {f : FuncId} {c : Con} (h : ∀ x, c.pre x = true → (run P sy tb L n f c.as c.rs x).bind (decode c.rs) = some (c.fn x)) : c.Ok P Q f := by
  intro pr w args x r hq hpr hx hF
  obtain ⟨h0, rfl⟩ := Con.F_some hF
  have hr := h x h0
  cases hK : run P sy tb L n f c.as c.rs x with
  | none => rw [hK] at hr; cases hr
  | some p =>
    rw [hK] at hr
    obtain ⟨vs, W1, h1, h2⟩ := opb_some hK
    obtain ⟨ρ2, e1, e2, e3, e4, e5, e6⟩ := impL_sound (b0_WR hpr) h1 hx
    exact fin_sound hp htb hq e1.pr e3 e4 h2 hr
/-- A slice that is not nil. -/
noncomputable def symM (t : TV) (W : Tw) : Option (Value × Tw) := (W.lay ⟨[], 1, false, 0, some (.p t)⟩).bind fun p => some (.chan (some p.1), p.2)
theorem symM_sound {W W' : Tw} {w : World} {v : Value} {a : Addr} {k j : Nat} {t : TV} (hW : WR w0 ρ W w) (h : symM t W = some (v, W')) (hy : t.Rd ρ.pr (.slice (some a) k j)) : Nxt w0 ρ W w W' w fun ρ2 => VR ρ2 v (.slice (some a) k j) := by
  obtain ⟨n, W1, h1, h2⟩ := bind_some h
  cases h2
  have hlt : W.nx < D0 := by have := lay_lt h1; unfold D0; omega
  obtain ⟨rfl, h3⟩ := lay_soft (b := 0) (s := 0) (M := fun z => z = .slice (some a) k j) hW h1 (fun h => h) (RR.mkp rfl (fun y hy2 => by
    have : y = .slice (some a) k j := by simpa [Ren.exm, hlt] using hy2
    rw [this]; exact hy) (hel := fun _ y hy2 => ⟨a, k, j, by simpa [Ren.exm, hlt] using hy2⟩))
  refine h3.mono fun ρ2 hl he => ?_
  subst he
  exact .sym _ _ (.inr rfl) (by simp [Ren.exm, hlt]) hy.basic
/-- A function of one slice, run on one that is nil, and on one that isn't. -/
noncomputable def run0 (P : Program) (sy : SyT) (tb : Tb) (L n : Nat) (f : FuncId) (rs : List AT) : AnV := (zFR P sy tb L n).1 f [.slice none 0 0] W0 fun v W => opb (argR rs v W) fun y _ => canon rs y
noncomputable def runN (P : Program) (sy : SyT) (tb : Tb) (L n : Nat) (f : FuncId) (c : Tys) (rs : List AT) (l : List c.D) : AnV := opb (symM ⟨.sl c, l⟩ W0) fun v W => (zFR P sy tb L n).1 f [v] W fun v W => opb (argR rs v W) fun y _ => canon rs y
theorem con_of_nil {sy : SyT} {Q : Pt → Prop} (hp : ∀ w0, Q w0.r0.pr → POk P w0 sy) {tb : Tb} (htb : TbOk P tb) {L n : Nat} {f : FuncId} {c : Tys} {rs : List AT} {pre : List c.D → Bool} {F : List c.D → AD rs} (h0 : pre [] = true → (run0 P sy tb L n f rs).bind (decode rs) = some (F []))
    (h : ∀ l, pre l = true → (runN P sy tb L n f c rs l).bind (decode rs) = some (F l)) : (Con.mk [.v (.sl c)] rs (fun x => pre x.1) fun x => F x.1).Ok P Q f := by
  intro pr w args x r hq hpr hx hF
  obtain ⟨l, u⟩ := x
  obtain ⟨hpl, hF'⟩ := Con.F_some hF
  have hpl : pre l = true := hpl
  have hF' : F l = r := hF'
  match ha : args.toList, hx with
  | [y], hx =>
    have hrd : (Ty.sl c).Rd pr l y := hx.1
    obtain ⟨a, cap, rfl, k1, k2⟩ := sl_rd.1 hrd
    rcases k2 with ⟨rfl, k2, rfl⟩ | ⟨b, off, rfl, k2⟩
    · have hl : l = [] := List.eq_nil_of_length_eq_zero k2
      subst hl
      have hF2 := h0 hpl
      rw [hF'] at hF2
      cases hr : run0 P sy tb L n f rs with
      | none => rw [hr] at hF2; cases hF2
      | some p =>
        rw [hr] at hF2
        refine fin_sound hp htb (ρ2 := (b0 w pr).r0) (vs := [.slice none 0 0]) hq .rfl' (b0_WR hpr) ?_ hr hF2
        rw [ha]
        exact ⟨rfl, fun i h1 h2 => by
          have : i = 0 := by simpa using h1
          subst this
          exact .sl0 _ _⟩
    · have hF2 := h l hpl
      rw [hF'] at hF2
      cases hr : runN P sy tb L n f c rs l with
      | none => rw [hr] at hF2; cases hF2
      | some p =>
        rw [hr] at hF2
        obtain ⟨v, W1, h1, h2⟩ := opb_some hr
        obtain ⟨ρ2, e1, e2, e3, e4, e5, e6⟩ := symM_sound (b0_WR hpr) h1 (show (TV.mk (.sl c) l).Rd (b0 w pr).r0.pr _ from hrd)
        refine fin_sound hp htb hq e1.pr e3 (vs := [v]) ?_ h2 hF2
        rw [ha]
        exact ⟨rfl, fun i h1 h2 => by
          have : i = 0 := by simpa using h1
          subst this
          exact e4⟩
end
end Mo

namespace Mo
open Go

/-! ## What is carried over a loop: typed values, and lists of one's own (none: nil) -/
inductive VT where
  | t (a : AT)
  | o (c : Tys) (e : TypeId)
  /-- A pointer to cells that aren't written any more. -/
  | p (c : Tys)
@[reducible] def VT.D : VT → Type
  | .t a => a.D
  | .o c _ => Option (List c.D)
  | .p c => c.D
@[reducible] def VD : List VT → Type
  | [] => Unit
  | v :: r => v.D × VD r
/-- A block of one's own, with a list in it. -/
def OwnAt (pr : Pt) (w : World) (c : Tys) (e : TypeId) (l : List c.D) (b s X : Nat) : Prop :=
  ∃ a lo hi, w.heap[b]? = some (.cells a e (lo, hi)) ∧ (lo = hi ∨ a.size ≤ lo) ∧ a.size = s + (List.length l + X) * c.n ∧ AtL pr c l a s ∧ ∀ k, pr b k = none
def ORd (pr : Pt) (w : World) (c : Tys) (e : TypeId) : Option (List c.D) → Value → List Nat → Prop
  | none, y, fp => fp = [] ∧ y = .slice none 0 0
  | some l, y, fp => ∃ b s X, fp = [b] ∧ y = .slice (some ⟨b, s, none⟩) (List.length l) (List.length l + X) ∧ OwnAt pr w c e l b s X
def VT.Rd (pr : Pt) (w : World) : (v : VT) → v.D → Value → List Nat → Prop
  | .t a, x, y, fp => fp = [] ∧ a.Rd pr x y
  | .o c e, x, y, fp => ORd pr w c e x y fp
  | .p c, x, y, fp => fp = [] ∧ ∃ b o, y = .pointer (some ⟨b, o, none⟩) ∧ c.Rd pr x b o
def RdV (pr : Pt) (w : World) : (vs : List VT) → VD vs → List Value → List Nat → Prop
  | [], _, [], fp => fp = []
  | v :: r, x, y :: s, fp => ∃ f1 f2, fp = f1 ++ f2 ∧ v.Rd pr w x.1 y f1 ∧ RdV pr w r x.2 s f2
  | _, _, _, _ => False
/-! ### Read out of the twin -/
/-- A slice that one may append to gets a name. -/
noncomputable def normO (c : Tys) (e : TypeId) (v : Value) (W : Tw) : Option (Option Nat × Tw) := match v with
  | .slice none 0 0 => some (none, W)
  | .chan (some n) => some (some n, W)
  | .slice (some ⟨n, o, none⟩) l cap => (Tw.look n W).bind fun r => if isN r.1.ob && rowOk r.1 e c.n o l cap then (rowsL (argC c) c.n l (r.1.cs.drop o) r.2).bind fun (q, W1) => (killO n W1).bind fun (_, W2) => (W2.lay (rowL c q e)).bind fun (m, W3) => some (some m, W3) else none
  | _ => none
def VT.PD : VT → Type
  | .t a => a.D
  | .o _ _ => Option Nat
  | .p c => c.D
noncomputable def ptrR (c : Tys) (v : Value) (W : Tw) : Option (c.D × Tw) := match v with
  | .pointer (some ⟨n, o, none⟩) => (shutT n W).bind fun p => (Tw.look n p.2).bind fun q => if isV q.1.ob then (rowsL (argC c) c.n 1 (q.1.cs.drop o) q.2).bind fun r => match r.1 with
    | [x] => some (x, r.2)
    | _ => none else none
  | _ => none
def PD : List VT → Type
  | [] => Unit
  | v :: r => v.PD × PD r
noncomputable def prepA : (v : VT) → Value → Tw → Option (v.PD × Tw)
  | .t a => argA a
  | .o c e => normO c e
  | .p c => ptrR c
noncomputable def prepV : (vs : List VT) → List Value → Tw → Option (PD vs × Tw)
  | [], [], W => some ((), W)
  | v :: r, y :: s, W => (prepA v y W).bind fun (x, W1) => (prepV r s W1).bind fun (z, W2) => some ((x, z), W2)
  | _, _, _ => none
noncomputable def takeN (c : Tys) (e : TypeId) (n : Nat) (W : Tw) : Option (List c.D × Tw) := (Tw.look n W).bind fun r => match isL e c r.1 with
  | some l => (killO n r.2).bind fun (_, W1) => some (l, W1)
  | none => none
noncomputable def takeA1 : (v : VT) → v.PD → Tw → Option (v.D × Tw)
  | .t _, x, W => some (x, W)
  | .p _, x, W => some (x, W)
  | .o _ _, none, W => some (none, W)
  | .o c e, some n, W => (takeN c e n W).bind fun (l, W1) => some (some l, W1)
noncomputable def takeV : (vs : List VT) → PD vs → Tw → Option (VD vs × Tw)
  | [], _, W => some ((), W)
  | v :: r, x, W => (takeA1 v x.1 W).bind fun (y, W1) => (takeV r x.2 W1).bind fun (z, W2) => some ((y, z), W2)
noncomputable def readV (vs : List VT) (ys : List Value) (W : Tw) : Option (VD vs × Tw) := (prepV vs ys W).bind fun p => takeV vs p.1 p.2
/-! ### Laid in the twin -/
noncomputable def impO (c : Tys) (e : TypeId) (x : Option (List c.D)) (W : Tw) : Option (Value × Tw) := match x with
  | none => some (.slice none 0 0, W)
  | some l => (W.lay (rowL c l e)).bind fun (n, W1) => some (.chan (some n), W1)
noncomputable def impU : (v : VT) → v.D → Tw → Option (Value × Tw)
  | .t a => impA a
  | .o c e => impO c e
  | .p c => viewT c
noncomputable def impV : (vs : List VT) → VD vs → Tw → Option (List Value × Tw)
  | [], _, W => some ([], W)
  | v :: r, x, W => (impU v x.1 W).bind fun (y, W1) => (impV r x.2 W1).bind fun (l, W2) => some (y :: l, W2)

theorem Local.killO (n : Nat) : Local (Mo.killO n) := Local.upd n _
theorem Local.normO (c : Tys) (e : TypeId) (v : Value) : Local (Mo.normO c e v) := by
  unfold Mo.normO
  split
  · exact Local.ret _
  · exact Local.ret _
  · rename_i n o l cap
    refine Local.bind (G := fun (r : Row) W => if isN r.ob && rowOk r e c.n o l cap then (Mo.rowsL (Mo.argC c) c.n l (r.cs.drop o) W).bind fun q => (Mo.killO n q.2).bind fun u => (u.2.lay (rowL c q.1 e)).bind fun p => some (some p.1, p.2) else none) (Local.look n) fun r => ?_
    split
    · refine Local.bind (G := fun q W => (Mo.killO n W).bind fun u => (u.2.lay (rowL c q e)).bind fun p => some (some p.1, p.2)) (Local.rowsL (Local.argC c) _ _ _) fun q => ?_
      refine Local.bind (G := fun (_ : Unit) W => (W.lay (rowL c q e)).bind fun p => some (some p.1, p.2)) (Local.killO n) fun _ => ?_
      exact Local.bind (G := fun p W => some (some p, W)) (Local.lay _) fun p => Local.ret _
    · exact Local.fails
  · exact Local.fails
theorem Local.ptrR (c : Tys) (v : Value) : Local (Mo.ptrR c v) := by
  unfold Mo.ptrR
  split
  · rename_i n o
    refine Local.bind (G := fun (_ : Unit) W => (Tw.look n W).bind fun q => if isV q.1.ob then (Mo.rowsL (Mo.argC c) c.n 1 (q.1.cs.drop o) q.2).bind fun r => match r.1 with
      | [x] => some (x, r.2)
      | _ => none else none) (Local.shutT n) fun _ => ?_
    refine Local.bind (G := fun (r : Row) W => if isV r.ob then (Mo.rowsL (Mo.argC c) c.n 1 (r.cs.drop o) W).bind fun r => match r.1 with
      | [x] => some (x, r.2)
      | _ => none else none) (Local.look n) fun r => ?_
    split
    · refine Local.bind (G := fun (l : List c.D) (W : Tw) => (match l with
        | [x] => some (x, W)
        | _ => none : Option (c.D × Tw))) (Local.rowsL (Local.argC c) _ _ _) fun l => ?_
      split
      · exact Local.ret _
      · exact Local.fails
    · exact Local.fails
  · exact Local.fails
theorem Local.prepA : ∀ (v : VT) (y : Value), Local (Mo.prepA v y)
  | .p c, y => Local.ptrR c y
  | .t a, y => Local.argA a y
  | .o c e, y => Local.normO c e y
theorem Local.prepV : ∀ (vs : List VT) (ys : List Value), Local (Mo.prepV vs ys)
  | [], [] => Local.ret _
  | [], _ :: _ => Local.fails
  | _ :: _, [] => Local.fails
  | v :: r, y :: s => Local.bind (G := fun x W => (Mo.prepV r s W).bind fun q => some ((x, q.1), q.2)) (Local.prepA v y) fun x => Local.bind (G := fun z W => some ((x, z), W)) (Local.prepV r s) fun z => Local.ret _
theorem Local.takeN (c : Tys) (e : TypeId) (n : Nat) : Local (Mo.takeN c e n) := by
  refine Local.bind (G := fun (r : Row) W => match isL e c r with
    | some l => (Mo.killO n W).bind fun u => some (l, u.2)
    | none => none) (Local.look n) fun r => ?_
  split
  · rename_i l _
    exact Local.bind (G := fun (_ : Unit) W => some (l, W)) (Local.killO n) fun _ => Local.ret _
  · exact Local.fails
theorem Local.takeA1 : ∀ (v : VT) (x : v.PD), Local (Mo.takeA1 v x)
  | .p _, x => Local.ret _
  | .t _, x => Local.ret _
  | .o _ _, none => Local.ret _
  | .o c e, some n => Local.bind (G := fun l W => some (some l, W)) (Local.takeN c e n) fun l => Local.ret _
theorem Local.takeV : ∀ (vs : List VT) (x : PD vs), Local (Mo.takeV vs x)
  | [], _ => Local.ret _
  | v :: r, x => Local.bind (G := fun y W => (Mo.takeV r x.2 W).bind fun q => some ((y, q.1), q.2)) (Local.takeA1 v x.1) fun y => Local.bind (G := fun z W => some ((y, z), W)) (Local.takeV r x.2) fun z => Local.ret _
theorem Local.readV (vs : List VT) (ys : List Value) : Local (Mo.readV vs ys) := Local.bind (Local.prepV vs ys) fun x => Local.takeV vs x
theorem Local.impU : ∀ (v : VT) (x : v.D), Local (Mo.impU v x)
  | .p c, x => Local.viewT c x
  | .t a, x => Local.impA a x
  | .o c e, none => Local.ret _
  | .o c e, some l => Local.bind (G := fun p W => some (Value.chan (some p), W)) (Local.lay _) fun p => Local.ret _
theorem Local.impV : ∀ (vs : List VT) (x : VD vs), Local (Mo.impV vs x)
  | [], _ => Local.ret _
  | v :: r, x => Local.bind (G := fun y W => (Mo.impV r x.2 W).bind fun q => some (y :: q.1, q.2)) (Local.impU v x.1) fun y => Local.bind (G := fun l W => some (y :: l, W)) (Local.impV r x.2) fun l => Local.ret _

theorem OwnAt.mono {p q : Pt} {w : World} {c : Tys} {e : TypeId} {l : List c.D} {b s X : Nat} (h : OwnAt p w c e l b s X) (hl : p.le q) (hq : ∀ k, q b k = none) : OwnAt q w c e l b s X := by
  obtain ⟨a, lo, hi, h1, h2, h3, h4, -⟩ := h
  exact ⟨a, lo, hi, h1, h2, h3, h4.mono hl, hq⟩
section
variable {P : Program} {w0 : Bs} {ρ : Ren}
theorem killO_sound {n : Nat} {W W' : Tw} {w : World} {u : Unit} (hW : WR w0 ρ W w) (h : killO n W = some (u, W')) : ∃ r, W.get n = some r ∧ r.phys ∧ W' = (W.set n none).wrote n ∧ WR w0 ρ W' w ∧ ∀ m q, W'.get m = some q → q.phys → W.get m = some q ∧ ρ.b m ≠ ρ.b n := by
  obtain ⟨r, h1, h2, rfl⟩ := killO_some h
  obtain ⟨h3, h4⟩ := own_free hW h1 h2
  refine ⟨r, h1, h2, rfl, h3, fun m q hm hq => ⟨?_, h4 m q hm hq⟩⟩
  have hm2 : (W.set n none).get m = some q := hm
  rw [Tw.get_set W (Tw.get_lt h1)] at hm2
  split at hm2
  · cases hm2
  · exact hm2
/-- A value read: as it is, or by a name. -/
def VT.PRd (ρ : Ren) : (v : VT) → v.PD → Value → Prop
  | .t a, x, y => a.Rd ρ.pr x y
  | .o _ _, none, y => y = .slice none 0 0
  | .o _ _, some n, y => VR ρ (.chan (some n)) y
  | .p c, x, y => ∃ b o, y = .pointer (some ⟨b, o, none⟩) ∧ c.Rd ρ.pr x b o
theorem VT.PRd.le {ρ' : Ren} (hl : ρ.le ρ') : ∀ {v : VT} {x : v.PD} {y : Value}, v.PRd ρ x y → v.PRd ρ' x y
  | .t a, x, y, h => AT.Rd.mono hl.pr h
  | .o _ _, none, y, h => h
  | .o _ _, some n, y, h => VR.le hl h
  | .p c, x, y, h => by
    obtain ⟨b, o, h1, h2⟩ := h
    exact ⟨b, o, h1, Tys.Rd.mono hl.pr c h2⟩
theorem ptrR_sound {c : Tys} {v y : Value} {W W' : Tw} {w : World} {x : c.D} (hW : WR w0 ρ W w) (hv : VR ρ v y) (h : ptrR c v W = some (x, W')) : Fz w0 ρ W w W' fun ρ' => ∃ b o, y = .pointer (some ⟨b, o, none⟩) ∧ c.Rd ρ'.pr x b o := by
  unfold ptrR at h
  split at h
  · rename_i n o
    obtain ⟨u, W1, h1, h2⟩ := bind_some h
    obtain ⟨r, W2, h3, h4⟩ := bind_some h2
    obtain ⟨hg, rfl⟩ := look_some h3
    simp only at h4
    split at h4
    · rename_i ho0
      have ho := isV_some ho0
      obtain ⟨l, W4, h5, h6⟩ := bind_some h4
      have hyy : y = .pointer (some ⟨ρ.b n, ρ.s n + o, none⟩) := by
        cases hv with
        | ptr a hd => rfl
      subst hyy
      obtain ⟨pr', g1, g2, g3, g4, -⟩ := shutT_sound hW h1
      have hel := (g2.row _ _ hg).el ho
      have hfz : Fz w0 ρ W w (W1.read n) fun ρ' => ρ' = { ρ with pr := pr' } := ⟨pr', g1, g2.read n, g3, g4, rfl⟩
      refine hfz.bind fun ρ1 hl1 hW1 he => ?_
      subst he
      simp only at h6
      split at h6
      · cases h6
        refine (rowsL_sound (c := c) (fun hW hv h => argC_sound c hW hv h) 1 (r.cs.drop o) (b := ρ.b n) (o := ρ.s n + o) hW1 (fun i hi => ?_) h5).mono fun ρ2 hl2 ⟨k1, k2⟩ => ?_
        · have hi' : o + i < r.cs.length := by rw [List.length_drop] at hi; omega
          obtain ⟨y, e1, e2⟩ := hel (o + i) hi'
          refine ⟨y, ?_, by rw [List.getElem_drop]; exact e2⟩
          rw [show ρ.s n + o + i = ρ.s n + (o + i) by omega]
          exact e1
        · refine ⟨_, _, rfl, ?_⟩
          have := k2 0 (by simp)
          simpa using this
      · cases h6
    · cases h4
  · cases h
theorem normO_sound {c : Tys} {e : TypeId} {v y : Value} {W W' : Tw} {w : World} {x : Option Nat} (hW : WR w0 ρ W w) (hv : VR ρ v y) (h : normO c e v W = some (x, W')) : Nxt w0 ρ W w W' w fun ρ2 => (VT.o c e).PRd ρ2 x y := by
  unfold normO at h
  split at h
  · cases h
    refine .refl hW ?_
    cases hv
    rfl
  · cases h
    exact .refl hW hv
  · rename_i n o l cap
    obtain ⟨r, W3, h3, h4⟩ := bind_some h
    obtain ⟨hg, rfl⟩ := look_some h3
    simp only at h4
    split at h4
    · rename_i hok
      rw [Bool.and_eq_true] at hok
      have ho := isN_some hok.1
      obtain ⟨q, W4, h5, h6⟩ := bind_some h4
      obtain ⟨u, W5, h7, h8⟩ := bind_some h6
      obtain ⟨m, W6, h9, h10⟩ := bind_some h8
      cases h10
      have hok2 := hok.2
      unfold rowOk at hok2
      rw [Bool.and_eq_true, Bool.and_eq_true, Bool.and_eq_true] at hok2
      obtain ⟨⟨⟨q1, q2⟩, q3⟩, q4⟩ := hok2
      have he := Nat.eq_of_beq_eq_true q1
      have hlc := Nat.le_of_ble_eq_true q2
      have hoc := Nat.eq_of_beq_eq_true q3
      obtain ⟨cA, lo, hi, m1, m2, m3, m4, m5, m6, m7⟩ := (hW.row _ _ hg).row ho
      have hWr := hW.read n
      refine Fz.step (Fz.ofRead (n := n) (rowsA_sound l (r.cs.drop o) (a := cA) (o := ρ.s n + o) hWr (fun j hj => by
        have hj' : o + j < r.cs.length := by rw [List.length_drop] at hj; omega
        rw [List.getElem_drop, Nat.add_assoc]
        exact m4 (o + j) hj') h5)) fun ρ2 hl2 hW4 ⟨hql, hqa⟩ => ?_
      have hdm := hW.dom _ _ hg
      have hbn := hl2.b _ hdm
      have hs' : ∃ X, y = .slice (some ⟨ρ2.b n, ρ.s n + o, none⟩) (List.length q) (List.length q + X) ∧ cA.size = ρ.s n + o + (List.length q + X) * c.n := by
        rw [hql, hbn]
        cases hv with
        | sl a _ _ hd hb =>
          rw [if_pos hb] at q4
          rw [capK_le hb] at hlc hoc
          have hop : r.op = false := by simpa using q4
          obtain ⟨g1, g2⟩ := m6 hop
          refine ⟨cap - l, by rw [show l + (cap - l) = cap by omega]; rfl, ?_⟩
          rw [show l + (cap - l) = cap by omega, m2, g2, ← hoc]
          omega
        | slo a _ c' hd heq =>
          rw [if_neg (by omega)] at q4
          rw [capK_big] at hlc hoc
          rw [Bool.and_eq_true] at q4
          have hzr := m7 q4.1
          have hzz := Nat.eq_of_beq_eq_true q4.2
          refine ⟨c' + ρ.x n - l, by rw [show l + (c' + ρ.x n - l) = c' + ρ.x n by omega]; rfl, ?_⟩
          rw [show l + (c' + ρ.x n - l) = c' + ρ.x n by omega, m2, hzr, hzz, ← hoc, Nat.add_mul]
          omega
      obtain ⟨X, hs', hX⟩ := hs'
      obtain ⟨r', f1, f2, rfl, f3, f4⟩ := killO_sound hW4 h7
      have key := own_name (b := ρ2.b n) (s := ρ.s n + o) (X := X) (w' := w) f3 h9 (fun m q hm hq => (f4 m q hm hq).2) (hW4.mine _ _ f1 f2) (hW4.prd _ _ f1 f2) (by rw [hbn, ← he]; exact m1) m3 hX hqa (fun _ _ _ => rfl) (Nat.le_refl _) rfl rfl rfl
      rw [hs']
      exact key
    · cases h4
  · cases h
def PRdV (ρ : Ren) : (vs : List VT) → PD vs → List Value → Prop
  | [], _, [] => True
  | v :: r, x, y :: s => v.PRd ρ x.1 y ∧ PRdV ρ r x.2 s
  | _, _, _ => False
theorem PRdV.le {ρ ρ' : Ren} (hl : ρ.le ρ') : ∀ {vs : List VT} {x : PD vs} {ys : List Value}, PRdV ρ vs x ys → PRdV ρ' vs x ys
  | [], _, [], _ => trivial
  | _ :: _, _, _ :: _, h => ⟨h.1.le hl, PRdV.le hl h.2⟩
  | [], _, _ :: _, h => h
  | _ :: _, _, [], h => h
theorem prepA_sound {v : VT} {u y : Value} {W W' : Tw} {w : World} {x : v.PD} (hW : WR w0 ρ W w) (hv : VR ρ u y) (h : prepA v u W = some (x, W')) : Nxt w0 ρ W w W' w fun ρ2 => v.PRd ρ2 x y := by
  cases v with
  | t a => exact (argA_sound (a := a) hW hv h).nxt
  | o c e => exact normO_sound hW hv h
  | p c => exact (ptrR_sound hW hv h).nxt
theorem prepV_sound : ∀ {vs : List VT} {ys zs : List Value} {ρ : Ren} {W W' : Tw} {w : World} {x : PD vs}, WR w0 ρ W w → LR' ρ ys zs → prepV vs ys W = some (x, W') → Nxt w0 ρ W w W' w fun ρ2 => PRdV ρ2 vs x zs
  | [], [], zs, ρ, W, W', w, x, hW, hv, h => by
    cases h
    cases zs with
    | nil => exact .refl hW trivial
    | cons y s => have := hv.len; simp at this
  | [], _ :: _, zs, ρ, W, W', w, x, hW, hv, h => by cases h
  | _ :: _, [], zs, ρ, W, W', w, x, hW, hv, h => by cases h
  | v :: r, u :: s, zs, ρ, W, W', w, x, hW, hv, h => by
    cases zs with
    | nil => have := hv.len; simp at this
    | cons y zs =>
      obtain ⟨p, W1, h1, h2⟩ := bind_some h
      obtain ⟨q, W2, h3, h4⟩ := bind_some h2
      cases h4
      refine (prepA_sound hW (hv.at' 0 (by simp) (by simp)) h1).bind fun ρ1 hl1 hW1 k1 => ?_
      refine (prepV_sound (zs := zs) hW1 ⟨by simpa using hv.len, fun i h1 h2 => (hv.at' (i + 1) (by simpa using h1) (by simpa using h2)).le hl1⟩ h3).mono fun ρ2 hl2 k2 => ?_
      exact ⟨k1.le hl2, k2⟩
theorem takeN_sound {c : Tys} {e : TypeId} {n : Nat} {W W' : Tw} {w : World} {y : Value} {l : List c.D} (hW : WR w0 ρ W w) (hv : VR ρ (.chan (some n)) y) (h : takeN c e n W = some (l, W')) :
    ∃ b, ORd ρ.pr w c e (some l) y [b] ∧ WR w0 ρ W' w ∧ w0.may b ∧ (∃ r, W.get n = some r ∧ r.phys ∧ ρ.b n = b) ∧ (∀ m q, W'.get m = some q → q.phys → W.get m = some q ∧ ρ.b m ≠ b) ∧ W'.nx = W.nx ∧ W'.lim = W.lim := by
  obtain ⟨r, W1, h1, h2⟩ := bind_some h
  obtain ⟨hg, rfl⟩ := look_some h1
  simp only at h2
  split at h2
  · rename_i l' hl
    obtain ⟨u, W2, h3, h4⟩ := bind_some h2
    cases h4
    obtain ⟨ho, he⟩ := isL_some hl
    obtain ⟨a, lo, hi, m1, m2, m3, m4, m5, m6, m7⟩ := (hW.row _ _ hg).ls _ _ ho
    have hWr := hW.read n
    obtain ⟨r', g1, g2, rfl, g3, g4⟩ := killO_sound hWr h3
    have hgl := Tw.get_lt hg
    have hy : y = .slice (some ⟨ρ.b n, ρ.s n, none⟩) (List.length l) (List.length l + ρ.x n) := by
      cases hv with
      | any y => simp [D0] at hgl
      | gho _ y hn hm => simp [D0] at hn; omega
      | sym _ y hd hm hb => exact m7 _ hm
    have hph : r.phys := by unfold Row.phys; rw [ho]; trivial
    refine ⟨ρ.b n, ⟨_, ρ.s n, ρ.x n, rfl, hy, a, lo, hi, by rw [← he]; exact m1, m2, m5, m6, hW.prd _ _ hg hph⟩, g3, hW.mine _ _ hg hph, ⟨r, hg, hph, rfl⟩, fun m q hm hq => g4 m q hm hq, rfl, rfl⟩
  · cases h2
theorem takeV_sound : ∀ {vs : List VT} {x : PD vs} {W W' : Tw} {w : World} {ys : List Value} {z : VD vs} (done : List Nat), WR w0 ρ W w → PRdV ρ vs x ys → (∀ m q, W.get m = some q → q.phys → ρ.b m ∉ done) → takeV vs x W = some (z, W') →
    ∃ fp, RdV ρ.pr w vs z ys fp ∧ WR w0 ρ W' w ∧ fp.Nodup ∧ (∀ b ∈ fp, w0.may b ∧ b ∉ done) ∧ (∀ m q, W'.get m = some q → q.phys → W.get m = some q ∧ ρ.b m ∉ fp) ∧ W'.nx = W.nx ∧ W'.lim = W.lim
  | [], x, W, W', w, ys, z, done, hW, hr, hd, h => by
    cases h
    cases ys with
    | cons _ _ => cases hr
    | nil => exact ⟨[], rfl, hW, List.nodup_nil, fun b h => (nomatch h), fun m q hm hq => ⟨hm, fun h => nomatch h⟩, rfl, rfl⟩
  | v :: r, x, W, W', w, ys, z, done, hW, hr, hd, h => by
    cases ys with
    | nil => cases hr
    | cons y s =>
      obtain ⟨p, W1, h1, h2⟩ := bind_some h
      obtain ⟨q, W2, h3, h4⟩ := bind_some h2
      cases h4
      obtain ⟨hr1, hr2⟩ := hr
      obtain ⟨x1, x2⟩ := x
      have plain : W1 = W → v.Rd ρ.pr w p y [] → ∃ fp, RdV ρ.pr w (v :: r) (p, q) (y :: s) fp ∧ WR w0 ρ W' w ∧ fp.Nodup ∧ (∀ b ∈ fp, w0.may b ∧ b ∉ done) ∧ (∀ m q, W'.get m = some q → q.phys → W.get m = some q ∧ ρ.b m ∉ fp) ∧ W'.nx = W.nx ∧ W'.lim = W.lim := by
        intro hw hx
        subst hw
        obtain ⟨fp, k1, k2, k3, k4, k5, k6, k7⟩ := takeV_sound done hW hr2 hd h3
        exact ⟨fp, ⟨[], fp, rfl, hx, k1⟩, k2, k3, k4, k5, k6, k7⟩
      cases v with
      | t a => cases h1; exact plain rfl ⟨rfl, hr1⟩
      | p c => cases h1; exact plain rfl ⟨rfl, hr1⟩
      | o c e =>
       cases x1 with
       | none => cases h1; exact plain rfl ⟨rfl, hr1⟩
       | some n =>
        obtain ⟨l, W3, g1, g2⟩ := bind_some h1
        cases g2
        obtain ⟨b, m1, m2, m3, ⟨r0, m4, m5, m6⟩, m7, m8, m9⟩ := takeN_sound hW hr1 g1
        obtain ⟨fp, k1, k2, k3, k4, k5, k6, k7⟩ := takeV_sound (b :: done) m2 hr2 (fun m q hm hq hmem => by
          obtain ⟨e1, e2⟩ := m7 m q hm hq
          rcases List.mem_cons.1 hmem with h5 | h5
          · exact e2 h5
          · exact hd m q e1 hq h5) h3
        refine ⟨b :: fp, ⟨[b], fp, rfl, m1, k1⟩, k2, List.nodup_cons.2 ⟨fun h5 => (k4 b h5).2 (List.mem_cons_self ..), k3⟩, fun b' hb' => ?_, fun m q hm hq => ?_, k6.trans m8, k7.trans m9⟩
        · rcases List.mem_cons.1 hb' with h5 | h5
          · subst h5
            exact ⟨m3, by rw [← m6]; exact hd _ _ m4 m5⟩
          · exact ⟨(k4 b' h5).1, fun h6 => (k4 b' h5).2 (List.mem_cons_of_mem _ h6)⟩
        · obtain ⟨e1, e2⟩ := k5 m q hm hq
          obtain ⟨e3, e4⟩ := m7 m q e1 hq
          refine ⟨e3, fun h5 => ?_⟩
          rcases List.mem_cons.1 h5 with h6 | h6
          · exact e4 h6
          · exact e2 h6
theorem readV_sound {vs : List VT} {ys zs : List Value} {W W' : Tw} {w : World} {x : VD vs} (hW : WR w0 ρ W w) (hv : LR' ρ ys zs) (h : readV vs ys W = some (x, W')) :
    Nxt w0 ρ W w W' w fun ρ2 => ∃ fp, RdV ρ2.pr w vs x zs fp ∧ fp.Nodup ∧ (∀ b ∈ fp, w0.may b) ∧ ∀ m q, W'.get m = some q → q.phys → ρ2.b m ∉ fp := by
  obtain ⟨p, W1, h1, h2⟩ := bind_some h
  refine (prepV_sound hW hv h1).bind fun ρ1 hl1 hW1 k1 => ?_
  obtain ⟨fp, k1, k2, k3, k4, k5, k6, k7⟩ := takeV_sound [] hW1 k1 (fun _ _ _ _ h => nomatch h) h2
  exact ⟨ρ1, .rfl', fun _ hk => .inl hk, k2, ⟨fp, k1, k3, fun b hb => (k4 b hb).1, fun m q hm hq => (k5 m q hm hq).2⟩, by omega, k7⟩
/-! ### Laid -/
theorem symN_pr {W W' : Tw} {w : World} {v y : Value} {t : TV} (hW : WR w0 ρ W w) (h : symN t W = some (v, W')) (hy : t.Rd ρ.pr y) : Nxt w0 ρ W w W' w fun ρ2 => VR ρ2 v y ∧ ρ2.pr = ρ.pr ∧ ∀ m q, W'.get m = some q → q.phys → W.get m = some q := by
  obtain ⟨n, W1, h1, h2⟩ := bind_some h
  cases h2
  have hlt : W.nx < D0 := by have := lay_lt h1; unfold D0; omega
  have h1' := h1
  obtain ⟨rfl, h3⟩ := lay_soft (b := 0) (s := 0) (M := fun z => t.Rd ρ.pr z) hW h1 (fun h => h) (RR.mkp rfl fun y hy => by simpa [Ren.exm, hlt] using hy)
  refine h3.mono fun ρ2 hl he => ?_
  subst he
  refine ⟨.sym _ y (.inr rfl) (by simpa [Ren.exm, hlt] using hy) hy.basic, rfl, fun m q hm hq => ?_⟩
  have hlt' := lay_lt h1'
  obtain ⟨-, -, rfl⟩ := lay_some h1'
  have hm' : ({ W.set W.nx (some ⟨[], 0, false, 0, some (.p t)⟩) with nx := W.nx + 1 } : Tw).get m = some q := hm
  have hm2 : (W.set W.nx (some ⟨[], 0, false, 0, some (.p t)⟩)).get m = some q := hm'
  rw [Tw.get_set W hlt'] at hm2
  split at hm2
  · cases hm2; exact absurd hq id
  · exact hm2
theorem symL_pr : ∀ {l : List TV} {ρ : Ren} {W W' : Tw} {w : World} {vs ys : List Value}, WR w0 ρ W w → symL l W = some (vs, W') → RdL ρ.pr l ys → Nxt w0 ρ W w W' w fun ρ2 => LR' ρ2 vs ys ∧ ρ2.pr = ρ.pr ∧ ∀ m q, W'.get m = some q → q.phys → W.get m = some q
  | [], ρ, W, W', w, vs, ys, hW, h, hy => by
    cases ys with
    | cons => cases hy
    | nil => cases h; exact .refl hW ⟨⟨rfl, fun i h => absurd h (by simp)⟩, rfl, fun _ _ h _ => h⟩
  | t :: r, ρ, W, W', w, vs, ys, hW, h, hy => by
    cases ys with
    | nil => cases hy
    | cons y s =>
      obtain ⟨v, W1, h1, h2⟩ := bind_some h
      obtain ⟨us, W2, h3, h4⟩ := bind_some h2
      cases h4
      refine (symN_pr hW h1 hy.1).bind fun ρ2 hl hW1 ⟨hv, hp, hs⟩ => ?_
      refine (symL_pr (ys := s) hW1 h3 (by rw [hp]; exact hy.2)).mono fun ρ3 hl3 hq3 => ?_
      obtain ⟨hu, hp3, hs3⟩ := hq3
      refine ⟨⟨by simp [hu.len], fun i h1 h2 => ?_⟩, hp3.trans hp, fun m q hm hq => hs m q (hs3 m q hm hq) hq⟩
      cases i with
      | zero => exact hv.le hl3
      | succ i => exact hu.at' i (by simpa using h1) (by simpa using h2)
theorem impA_pr {a : AT} {x : a.D} {W W' : Tw} {w : World} {v y : Value} (hW : WR w0 ρ W w) (h : impA a x W = some (v, W')) (hy : a.Rd ρ.pr x y) : Nxt w0 ρ W w W' w fun ρ2 => VR ρ2 v y ∧ ρ2.pr = ρ.pr ∧ ∀ m q, W'.get m = some q → q.phys → W.get m = some q := by
  cases a with
  | v t => exact symN_pr hW h hy
  | a c =>
    obtain ⟨l, W1, h1, h2⟩ := bind_some h
    cases h2
    obtain ⟨vs, rfl, h3, h4⟩ := hy
    refine (symL_pr hW h1 h4.cells).mono fun ρ2 hl ⟨hv, hp⟩ => ⟨?_, hp⟩
    have hlen := hv.len
    simp only [List.length_map, List.length_range] at hlen
    refine .agg (by simp [hlen, h3]) fun i hi => ?_
    have hi' : i < l.length := by simpa using hi
    have := hv.at' i hi' (by simp; omega)
    simpa [Array.getD, hi'] using this
theorem view_pr {c : Tys} {x : c.D} {W W' : Tw} {w : World} {v : Value} {b o : Nat} (hW : WR w0 ρ W w) (h : viewT c x W = some (v, W')) (hx : c.Rd ρ.pr x b o) : Nxt w0 ρ W w W' w fun ρ2 => VR ρ2 v (.pointer (some ⟨b, o, none⟩)) ∧ ρ2.pr = ρ.pr ∧ ∀ m q, W'.get m = some q → q.phys → W.get m = some q := by
  obtain ⟨vs, W1, h1, h2⟩ := bind_some h
  obtain ⟨n, W2, h3, h4⟩ := bind_some h2
  cases h4
  obtain ⟨ys, e1, e2, e3⟩ := hx.cells
  refine (symL_pr hW h1 e1).bind fun ρ1 hl1 hW1 hq1 => ?_
  obtain ⟨hv, hp, hs⟩ := hq1
  have hlt : W1.nx < D0 := by have := lay_lt h3; unfold D0; omega
  have h3' := h3
  have hlen := hv.len
  obtain ⟨rfl, h5⟩ := lay_soft (b := b) (s := o) (M := fun _ => False) hW1 h3 (fun h => h) (RR.mkv rfl fun i hi => by
    have hi' : i < vs.length := hi
    have hi2 : i < ys.length := by omega
    have hle := Ren.le_exm (ρ := ρ1) (n := W1.nx) (b := b) (s := o) (L := 0) (x := 0) (z := 0) (M := fun _ => False) (hW1.free W1.nx (Nat.le_refl _) (by
      obtain ⟨hx, -, -⟩ := lay_some h3'
      exact hx))
    refine ⟨ys[i], ?_, (hv.at' i hi' hi2).le hle⟩
    have e4 := e3 i hi2
    have : ρ1.pr b (o + i) = some (some ys[i]) := by rw [hp]; exact e4
    simpa [Ren.exm] using this)
  refine h5.mono fun ρ2 hl he => ?_
  subst he
  refine ⟨?_, hp, fun m q hm hq => ?_⟩
  · have := VR.ptr (ρ := ρ1.exm W1.nx b o 0 0 0 fun _ => False) ⟨W1.nx, 0, none⟩ (.inr rfl)
    simpa [Ren.adr, Ren.exm] using this
  · have hlt' := lay_lt h3'
    obtain ⟨-, -, rfl⟩ := lay_some h3'
    have hm2 : (W1.set W1.nx (some ⟨vs, 0, false, 0, some .v⟩)).get m = some q := hm
    rw [Tw.get_set W1 hlt'] at hm2
    split at hm2
    · cases hm2; exact absurd hq id
    · exact hs m q hm2 hq
theorem own_pr {W W' : Tw} {w : World} {b s X : Nat} {c : Tys} {l : List c.D} {e : TypeId} {n : Nat} (h : WR w0 ρ W w) (hlay : W.lay (rowL c l e) = some (n, W')) (hb : ∀ m r, W.get m = some r → r.phys → ρ.b m ≠ b) (hb0 : w0.may b) (ho : OwnAt ρ.pr w c e l b s X) :
    Nxt w0 ρ W w W' w fun ρ2 => VR ρ2 (.chan (some n)) (.slice (some ⟨b, s, none⟩) (List.length l) (List.length l + X)) ∧ ρ2.pr = ρ.pr ∧ ∀ m q, W'.get m = some q → q.phys → W.get m = some q ∨ ρ2.b m = b := by
  obtain ⟨a, lo, hi, ha, hf, hsz, hat, hpr⟩ := ho
  have hlt0 := lay_lt hlay
  obtain ⟨hx, hn, rfl⟩ := lay_some hlay
  subst hn
  have hlt : W.nx < D0 := by unfold D0; omega
  let M : Value → Prop := fun y => y = .slice (some ⟨b, s, none⟩) (List.length l) (List.length l + X)
  have hle := Ren.le_exm (ρ := ρ) (n := W.nx) (b := b) (s := s) (L := List.length l) (x := X) (z := c.n) (M := M) (h.free W.nx (Nat.le_refl _) hx)
  refine ⟨ρ.exm W.nx b s (List.length l) X c.n M, hle, fun k hk => ?_, ?_, ⟨?_, rfl, fun m q hm hq => ?_⟩, Nat.le_succ _, rfl⟩
  · rcases hk with hk | hk
    · exact .inl hk
    · exact .inr ⟨by omega, by show k < W.nx + 1; omega⟩
  · refine WR.wrote ?_ _
    refine h.nameM (fun _ => hb) (fun _ => hb0) (fun _ => hpr) (RR.mkl ⟨a, lo, hi, ?_, hf, ?_, ?_, ?_, ?_, ?_⟩) (fun k h1 h2 => rfl) (Nat.le_refl _) rfl rfl rfl hx
    · simpa [Ren.exm] using ha
    · simp [Ren.exm]
    · simp [Ren.exm]
    · simpa [Ren.exm] using hsz
    · have e1 : (ρ.exm W.nx b s (List.length l) X c.n M).s W.nx = s := by simp [Ren.exm]
      rw [e1]; exact hat
    · intro y hy
      have e1 : (ρ.exm W.nx b s (List.length l) X c.n M).s W.nx = s := by simp [Ren.exm]
      have e2 : (ρ.exm W.nx b s (List.length l) X c.n M).b W.nx = b := by simp [Ren.exm]
      have e3 : (ρ.exm W.nx b s (List.length l) X c.n M).x W.nx = X := by simp [Ren.exm]
      have e4 : (ρ.exm W.nx b s (List.length l) X c.n M).m W.nx = M := by simp [Ren.exm, hlt]
      rw [e4] at hy
      rw [e1, e2, e3]; exact hy
  · refine .sym _ _ (.inr rfl) ?_ rfl
    have e4 : (ρ.exm W.nx b s (List.length l) X c.n M).m W.nx = M := by simp [Ren.exm, hlt]
    rw [e4]
  · have hm2 : (W.set W.nx (some (rowL c l e))).get m = some q := hm
    rw [Tw.get_set W hlt0] at hm2
    split at hm2
    · rename_i he; subst he; right; simp [Ren.exm]
    · exact .inl hm2
theorem impV_sound : ∀ {vs : List VT} {x : VD vs} {ρ : Ren} {W W' : Tw} {w : World} {us ys : List Value} {fp : List Nat}, WR w0 ρ W w → impV vs x W = some (us, W') → RdV ρ.pr w vs x ys fp → fp.Nodup → (∀ b ∈ fp, w0.may b) → (∀ m q, W.get m = some q → q.phys → ρ.b m ∉ fp) →
    Nxt w0 ρ W w W' w fun ρ2 => LR' ρ2 us ys ∧ ρ2.pr = ρ.pr
  | [], x, ρ, W, W', w, us, ys, fp, hW, h, hr, _, _, _ => by
    cases h
    cases ys with
    | cons => cases hr
    | nil => exact .refl hW ⟨⟨rfl, fun i h => absurd h (by simp)⟩, rfl⟩
  | v :: r, x, ρ, W, W', w, us, ys, fp, hW, h, hr, hnd, hmay, hdis => by
    cases ys with
    | nil => cases hr
    | cons y s =>
      obtain ⟨u, W1, h1, h2⟩ := bind_some h
      obtain ⟨us', W2, h3, h4⟩ := bind_some h2
      cases h4
      obtain ⟨f1, f2, rfl, hr1, hr2⟩ := hr
      obtain ⟨n1, n2, n3⟩ := List.nodup_append.1 hnd
      have fin : Nxt w0 ρ W w W1 w (fun ρ2 => VR ρ2 u y ∧ ρ2.pr = ρ.pr ∧ ∀ m q, W1.get m = some q → q.phys → W.get m = some q ∨ ρ2.b m ∈ f1) → Nxt w0 ρ W w W' w fun ρ2 => LR' ρ2 (u :: us') (y :: s) ∧ ρ2.pr = ρ.pr := by
        intro hn
        refine hn.bind fun ρ2 hl hW1 ⟨hv, hp, hs⟩ => ?_
        refine (impV_sound (ys := s) hW1 h3 (by rw [hp]; exact hr2) n2 (fun b hb => hmay b (List.mem_append_right _ hb)) fun m q hm hq hmem => ?_).mono fun ρ3 hl3 hq3 => ?_
        · rcases hs m q hm hq with h5 | h5
          · rw [hl.b _ (hW.dom _ _ h5)] at hmem
            exact hdis m q h5 hq (List.mem_append_right _ hmem)
          · exact n3 _ h5 _ hmem rfl
        · obtain ⟨hu, hp3⟩ := hq3
          refine ⟨⟨by simp [hu.len], fun i h1 h2 => ?_⟩, hp3.trans hp⟩
          cases i with
          | zero => exact hv.le hl3
          | succ i => exact hu.at' i (by simpa using h1) (by simpa using h2)
      match v, x, h1, hr1 with
      | .t a, x, h1, hr1 =>
        refine fin ((impA_pr hW h1 hr1.2).mono fun ρ2 hl ⟨k1, k2, k3⟩ => ⟨k1, k2, fun m q hm hq => .inl (k3 m q hm hq)⟩)
      | .p c, x, h1, hr1 =>
        obtain ⟨rfl, b, o, rfl, hr2⟩ := hr1
        refine fin ((view_pr hW h1 hr2).mono fun ρ2 hl hq => ⟨hq.1, hq.2.1, fun m q hm hq' => .inl (hq.2.2 m q hm hq')⟩)
      | .o c e, (none, _), h1, hr1 =>
        cases h1
        obtain ⟨-, rfl⟩ := hr1
        exact fin (.refl hW ⟨.sl0 _ _, rfl, fun m q hm hq => .inl hm⟩)
      | .o c e, (some l, _), h1, hr1 =>
        obtain ⟨n, W3, g1, g2⟩ := bind_some h1
        cases g2
        obtain ⟨b, s0, X, rfl, rfl, ho⟩ := hr1
        refine fin ((own_pr hW g1 (fun m q hm hq he => hdis m q hm hq (by rw [he]; simp)) (hmay b (by simp)) ho).mono fun ρ2 hl ⟨k1, k2, k3⟩ => ⟨k1, k2, fun m q hm hq => ?_⟩)
        rcases k3 m q hm hq with h5 | h5
        · exact .inl h5
        · exact .inr (by rw [h5]; simp)
end
end Mo

namespace Mo
open Go

/-! ## Loops, told by one round -/
/-- A loop's slots: what is carried from round to round, what is nobody's, and what is behind it. -/
structure LS where
  N : Nat
  sl : List Nat
  vs : List VT
  dead : List Nat
  oS : Ex → List Nat
  oV : Ex → List VT
/-- What a round comes to. -/
inductive LRes (S : LS) where
  | cont (v : VD S.vs)
  | out (e : Ex) (o : VD (S.oV e))
/-! ### A form of its own -/
noncomputable def encU : (v : VT) → v.D → Tw → Option (Value × Tw)
  | .t a, x, W => impA a x W
  | .p c, x, W => impA (.a c) x W
  | .o _ _, none, W => some (.nilFunc, W)
  | .o c _, some l, W => symN ⟨.sl c, l⟩ W
noncomputable def encV : (vs : List VT) → VD vs → Tw → Option (List Value × Tw)
  | [], _, W => some ([], W)
  | v :: r, x, W => (encU v x.1 W).bind fun p => (encV r x.2 p.2).bind fun q => some (p.1 :: q.1, q.2)
noncomputable def decU : (v : VT) → Value → Tw → Option (v.D × Tw)
  | .t a, y, W => argA a y W
  | .p c, y, W => argA (.a c) y W
  | .o c _, y, W => match y with
    | .nilFunc => some (none, W)
    | y => (argV (.sl c) y W).bind fun p => some (some p.1, p.2)
noncomputable def decV : (vs : List VT) → List Value → Tw → Option (VD vs × Tw)
  | [], [], W => some ((), W)
  | v :: r, y :: s, W => (decU v y W).bind fun p => (decV r s p.2).bind fun q => some ((p.1, q.1), q.2)
  | _, _, _ => none
theorem encU_back : ∀ {v : VT} {x : v.D} {W W' : Tw} {y : Value}, encU v x W = some (y, W') → W.nx ≤ W'.nx ∧ Keep W W' ∧ ∀ V, Keep W' V → ∃ V', decU v y V = some (x, V') ∧ ∀ n, V'.get n = V.get n
  | .t a, x, W, W', y, h => impA_back h
  | .p c, x, W, W', y, h => impA_back (a := .a c) h
  | .o c e, none, W, W', y, h => by
    cases h
    exact ⟨Nat.le_refl _, fun _ _ => rfl, fun V _ => ⟨V, rfl, fun _ => rfl⟩⟩
  | .o c e, some l, W, W', y, h => by
    obtain ⟨k1, k2, -⟩ := symN_back h
    refine ⟨Nat.le_of_lt k1, k2, fun V hV => ?_⟩
    obtain ⟨V', e1, e2⟩ := argV_back (t := .sl c) (x := l) h V hV
    refine ⟨V', ?_, e2⟩
    obtain ⟨n, W1, h1, h2⟩ := bind_some (show (W.lay _).bind _ = some (y, W') from h)
    cases h2
    show (argV (.sl c) _ V).bind _ = _
    rw [e1]
    rfl
theorem encV_back : ∀ {vs : List VT} {x : VD vs} {W W' : Tw} {us : List Value}, encV vs x W = some (us, W') → W.nx ≤ W'.nx ∧ Keep W W' ∧ ∀ V, Keep W' V → ∃ V', decV vs us V = some (x, V') ∧ ∀ n, V'.get n = V.get n
  | [], x, W, W', us, h => by
    cases h
    exact ⟨Nat.le_refl _, fun _ _ => rfl, fun V _ => ⟨V, rfl, fun _ => rfl⟩⟩
  | v :: r, x, W, W', us, h => by
    obtain ⟨y, W1, h1, h2⟩ := bind_some h
    obtain ⟨us', W2, h3, h4⟩ := bind_some h2
    cases h4
    obtain ⟨k1, k2, k3⟩ := encU_back h1
    obtain ⟨m1, m2, m3⟩ := encV_back h3
    have k1' : W.nx ≤ W1.nx := k1
    have m1' : W1.nx ≤ W2.nx := m1
    refine ⟨by show W.nx ≤ W2.nx; omega, k2.trans k1 m2, fun V hV => ?_⟩
    obtain ⟨V1, e1, e2⟩ := k3 V (m2.trans m1 hV)
    obtain ⟨V2, e3, e4⟩ := m3 V1 fun n hn => (e2 n).trans (hV n hn)
    refine ⟨V2, ?_, fun n => (e4 n).trans (e2 n)⟩
    show (decU v y V).bind _ = _
    rw [e1, Option.bind_some, e3]
    rfl
noncomputable def exV : Ex → Value
  | .normal => .nilIface
  | .exit i => .int .i64 (.ofNat i)
  | .ret => .bool true
noncomputable def canonL {S : LS} : LRes S → AnV
  | .cont v => (encV S.vs v W0).bind fun p => some (.tuple ⟨.nilFunc :: p.1⟩, p.2)
  | .out e o => (encV (S.oV e) o W0).bind fun p => some (.tuple ⟨exV e :: p.1⟩, p.2)
noncomputable def decodeL (S : LS) (p : Value × Tw) : Option (LRes S) := match p.1 with
  | .tuple ⟨.nilFunc :: us⟩ => (decV S.vs us p.2).map fun q => .cont q.1
  | .tuple ⟨.nilIface :: us⟩ => (decV (S.oV .normal) us p.2).map fun q => .out .normal q.1
  | .tuple ⟨.int .i64 (.ofNat i) :: us⟩ => (decV (S.oV (.exit i)) us p.2).map fun q => .out (.exit i) q.1
  | .tuple ⟨.bool true :: us⟩ => (decV (S.oV .ret) us p.2).map fun q => .out .ret q.1
  | _ => none
theorem decode_canonL {S : LS} {r : LRes S} {p : Value × Tw} (h : canonL r = some p) : decodeL S p = some r := by
  cases r with
  | cont v =>
    obtain ⟨us, W1, h1, h2⟩ := bind_some (show (encV S.vs v W0).bind (fun p => some (.tuple ⟨.nilFunc :: p.1⟩, p.2)) = some p from h)
    cases h2
    obtain ⟨V', e1, -⟩ := (encV_back h1).2.2 W1 fun _ _ => rfl
    show (decV S.vs us W1).map _ = _
    rw [e1]; rfl
  | out e o =>
    obtain ⟨us, W1, h1, h2⟩ := bind_some (show (encV (S.oV e) o W0).bind (fun p => some (.tuple ⟨exV e :: p.1⟩, p.2)) = some p from h)
    cases h2
    obtain ⟨V', e1, -⟩ := (encV_back h1).2.2 W1 fun _ _ => rfl
    cases e with
    | normal =>
      show (decV (S.oV .normal) us W1).map _ = _
      rw [e1]; rfl
    | exit i =>
      show (decV (S.oV (.exit i)) us W1).map _ = _
      rw [e1]; rfl
    | ret =>
      show (decV (S.oV .ret) us W1).map _ = _
      rw [e1]; rfl
/-! ### The slots ahead of a round -/
noncomputable def pickU : List Nat → List Value → Nat → Option Value
  | s :: ss, u :: us, t => match Nat.beq s t with
    | true => some u
    | false => pickU ss us t
  | _, _, _ => none
noncomputable def memN : List Nat → Nat → Bool
  | [], _ => false
  | s :: ss, t => match Nat.beq s t with
    | true => true
    | false => memN ss t
noncomputable def slotV (S : LS) (us : List Value) (t : Nat) : Value := match pickU S.sl us t with
  | some u => u
  | none => match memN S.dead t with
    | true => .chan (some D0)
    | false => .chan (some (9223372036854775809 + t))
noncomputable def slotL (S : LS) (us : List Value) : Nat → Nat → List Value
  | 0, _ => []
  | n + 1, t => slotV S us t :: slotL S us n (t + 1)
noncomputable def isGh (v : Value) (t : Nat) : Bool := match v with
  | .chan (some n) => Nat.beq n (9223372036854775809 + t)
  | _ => false
noncomputable def ghOk (S : LS) (sl : Tr Value) : Nat → Nat → Bool
  | 0, _ => true
  | n + 1, t => (memN S.sl t || (memN S.dead t || isGh (getS sl t) t)) && ghOk S sl n (t + 1)
noncomputable def mapS (l : List Nat) (sl : Tr Value) : List Value := match l with
  | [] => []
  | t :: r => getS sl t :: mapS r sl
/-- One round, run. -/
noncomputable def runL (P : Program) (sy : SyT) (tb : Tb) (L n : Nat) (f : FuncId) (S : LS) (bd : Code) (v : VD S.vs) : AnV :=
  opb (impV S.vs v W0) fun us W => zPutL (slotL S us S.N 0) 0 .lf fun sl0 =>
    zC (zB P sy tb (zFR P sy tb L n).1 (zFR P sy tb L n).2 (sy.lp f) S.N) L bd sl0 [] W fun ex sl ms W =>
      List.rec (motive := fun _ => AnV) (Bool.rec (motive := fun _ => AnV) none
        (Ex.rec (motive := fun _ => AnV) (opb (readV S.vs (mapS S.sl sl) W) fun v _ => canonL (S := S) (.cont v)) (fun i => opb (readV (S.oV (.exit i)) (mapS (S.oS (.exit i)) sl) W) fun o _ => canonL (S := S) (.out (.exit i) o)) (opb (readV (S.oV .ret) (mapS (S.oS .ret) sl) W) fun o _ => canonL (S := S) (.out .ret o)) ex) (ghOk S sl S.N 0)) (fun _ _ _ => none) ms
def iterL {S : LS} (step : VD S.vs → Option (LRes S)) : Nat → VD S.vs → Option (Sigma fun e => VD (S.oV e))
  | 0, _ => none
  | n + 1, v => match step v with
    | some (.cont v') => iterL step n v'
    | some (.out e o) => some ⟨e, o⟩
    | none => none
theorem iterL_det {S : LS} {step : VD S.vs → Option (LRes S)} : ∀ {n m : Nat} {v : VD S.vs} {r r'}, iterL step n v = some r → iterL step m v = some r' → r = r'
  | 0, _, _, _, _, h, _ => by cases h
  | _ + 1, 0, _, _, _, _, h => by cases h
  | n + 1, m + 1, v, r, r', h, h' => by
    rw [iterL] at h h'
    cases hs : step v with
    | none => rw [hs] at h; cases h
    | some q =>
      rw [hs] at h h'
      cases q with
      | cont v' => exact iterL_det h h'
      | out e o => cases h; cases h'; rfl

/-! ### The world ahead of a round and behind it -/
structure LF (w w' : World) (p p' : Pt) (fp fp' : List Nat) : Prop where
  os : w'.os = w.os
  tape : w'.tape = w.tape
  output : w'.output = w.output
  size : w.heap.size ≤ w'.heap.size
  old : ∀ b, b < w.heap.size → b ∉ fp → w'.heap[b]? = w.heap[b]?
  pr : p.le p'
  prw : PrOk p' w'
  prn : ∀ b k, p b k = none → p' b k ≠ none → w.heap.size ≤ b ∨ b ∈ fp
  fps : ∀ b ∈ fp', w.heap.size ≤ b ∨ b ∈ fp
  nd : fp'.Nodup
theorem LF.refl {w : World} {pr : Pt} {fp : List Nat} (h : PrOk pr w) (hn : fp.Nodup) : LF w w pr pr fp fp :=
  ⟨rfl, rfl, rfl, Nat.le_refl _, fun _ _ _ => rfl, .rfl', h, fun _ _ h0 h1 => absurd h0 h1, fun _ h => .inr h, hn⟩
theorem LF.trans {w w' w'' : World} {p p' p'' : Pt} {f f' f'' : List Nat} (h : LF w w' p p' f f') (k : LF w' w'' p' p'' f' f'') : LF w w'' p p'' f f'' := by
  have fps : ∀ b, w'.heap.size ≤ b ∨ b ∈ f' → w.heap.size ≤ b ∨ b ∈ f := fun b hb => by
    rcases hb with hb | hb
    · exact .inl (Nat.le_trans h.size hb)
    · exact h.fps b hb
  refine ⟨k.os.trans h.os, k.tape.trans h.tape, k.output.trans h.output, Nat.le_trans h.size k.size, fun b hb hn => ?_, h.pr.trans k.pr, k.prw, fun b j h0 h1 => ?_, fun b hb => fps b (k.fps b hb), k.nd⟩
  · have hb' : b < w'.heap.size := Nat.lt_of_lt_of_le hb h.size
    rw [k.old b hb' fun hm => ?_, h.old b hb hn]
    rcases h.fps b hm with h2 | h2
    · omega
    · exact hn h2
  · by_cases h2 : p' b j = none
    · exact fps b (k.prn b j h2 h1)
    · exact h.prn b j h0 h2
/-- What an act's slots hold. -/
def tmpV (l : List Nat) (a : Act) : List Value := l.map fun t => a.tmps.getD t undef
structure LA (S : LS) (a a' : Act) : Prop where
  df : a'.defers = []
  N : a'.tmps.size = S.N
  gh : ∀ t, memN S.sl t = false → memN S.dead t = false → a'.tmps.getD t undef = a.tmps.getD t undef
def LPost (S : LS) (w : World) (pr : Pt) (fp : List Nat) (a : Act) : LRes S → Exit → Act → World → Prop
  | .cont v, ex, a', w' => ex = .normal ∧ LA S a a' ∧ ∃ pr' fp', LF w w' pr pr' fp fp' ∧ RdV pr' w' S.vs v (tmpV S.sl a') fp'
  | .out e o, ex, a', w' => exm e ex ∧ LA S a a' ∧ ∃ pr' fp', LF w w' pr pr' fp fp' ∧ RdV pr' w' (S.oV e) o (tmpV (S.oS e) a') fp'
/-- What there is ahead of a round. -/
def bL (w : World) (pr : Pt) (fp : List Nat) (a : Act) : Bs := { toWorld := w, r0 := ⟨fun _ => False, fun _ => 0, fun _ => 0, fun _ => 0, fun _ => 0, fun _ => 0, fun n y => D0 < n ∧ y = a.tmps.getD (n - 9223372036854775809) undef, pr⟩, ex := fun b => b ∈ fp }
theorem W0_get (n : Nat) : W0.get n = none := by
  unfold Tw.get W0
  split
  · exact Tr.get_lf n
  · rfl
theorem bL_WR {w : World} {pr : Pt} {fp : List Nat} {a : Act} (hpr : PrOk pr w) : WR (bL w pr fp a) (bL w pr fp a).r0 W0 w := by
  refine ⟨fun n r hn => ?_, fun n r hn => ?_, fun n r hn => ?_, fun n m r q hn => ?_, hpr, fun n r hn => ?_, fun b k h0 h1 => absurd h0 h1, fun n _ _ h => h, Nat.le_refl _, fun n h => absurd h id, rfl, rfl, rfl, Nat.le_refl _, fun _ _ _ => rfl, .rfl'⟩
  all_goals (rw [W0_get] at hn; cases hn)
theorem memN_iff {t : Nat} : ∀ {l : List Nat}, memN l t = true ↔ t ∈ l
  | [] => by simp [memN]
  | s :: ss => by
    rw [memN]
    cases h : Nat.beq s t with
    | true => rw [Nat.beq_eq] at h; subst h; simp
    | false =>
      have hne : ¬ s = t := fun he => by rw [← Nat.beq_eq, h] at he; cases he
      simp only [memN_iff (l := ss), List.mem_cons, Ne.symm hne, false_or]
theorem pickU_some {f : Nat → Value} {ρ : Ren} : ∀ {ss : List Nat} {us : List Value} {t : Nat} {u : Value}, LR' ρ us (ss.map f) → pickU ss us t = some u → VR ρ u (f t)
  | [], us, t, u, _, h => by cases us <;> cases h
  | _ :: _, [], t, u, _, h => by cases h
  | s :: ss, v :: us, t, u, hl, h => by
    rw [pickU] at h
    cases hb : Nat.beq s t with
    | true =>
      rw [hb] at h
      cases h
      rw [Nat.beq_eq] at hb
      subst hb
      exact hl.at' 0 (by simp) (by simp)
    | false =>
      rw [hb] at h
      exact pickU_some (ss := ss) ⟨by have := hl.len; simpa using this, fun i h1 h2 => hl.at' (i + 1) (by simpa using h1) (by simpa using h2)⟩ h
theorem pickU_none : ∀ {ss : List Nat} {us : List Value} {t : Nat}, us.length = ss.length → pickU ss us t = none → memN ss t = false
  | [], us, t, _, h => rfl
  | _ :: _, [], t, hl, h => by simp at hl
  | s :: ss, v :: us, t, hl, h => by
    rw [pickU] at h
    rw [memN]
    cases hb : Nat.beq s t with
    | true => rw [hb] at h; cases h
    | false => rw [hb] at h; exact pickU_none (by simpa using hl) h
theorem slotL_len (S : LS) (us : List Value) : ∀ n t, (slotL S us n t).length = n
  | 0, _ => rfl
  | n + 1, t => by simp [slotL, slotL_len S us n]
theorem slotL_get (S : LS) (us : List Value) : ∀ n t i (h : i < (slotL S us n t).length), (slotL S us n t)[i] = slotV S us (t + i)
  | 0, _, i, h => absurd h (by simp [slotL])
  | n + 1, t, 0, h => rfl
  | n + 1, t, i + 1, h => by
    simp only [slotL, List.getElem_cons_succ]
    rw [slotL_get S us n (t + 1) i, show t + 1 + i = t + (i + 1) by omega]
theorem mapS_eq {sl : Tr Value} : ∀ {l : List Nat}, mapS l sl = l.map (getS sl)
  | [] => rfl
  | t :: r => by rw [mapS, mapS_eq (l := r)]; rfl
theorem mapS_LR {ρ : Ren} {sl : Tr Value} {a : Act} (h : SR ρ (getS sl) a) (l : List Nat) : LR' ρ (mapS l sl) (tmpV l a) := by
  rw [mapS_eq]
  refine ⟨by simp [tmpV], fun i h1 h2 => ?_⟩
  simp only [List.getElem_map, tmpV]
  exact h.at' _
theorem ghOk_some {S : LS} {sl : Tr Value} : ∀ {n t : Nat}, ghOk S sl n t = true → ∀ i, i < n → memN S.sl (t + i) = true ∨ memN S.dead (t + i) = true ∨ getS sl (t + i) = .chan (some (9223372036854775809 + (t + i)))
  | 0, _, _, i, h => absurd h (Nat.not_lt_zero _)
  | n + 1, t, h, i, hi => by
    rw [ghOk, Bool.and_eq_true, Bool.or_eq_true, Bool.or_eq_true] at h
    cases i with
    | zero =>
      rcases h.1 with h1 | h1 | h1
      · exact .inl h1
      · exact .inr (.inl h1)
      · refine .inr (.inr ?_)
        unfold isGh at h1
        split at h1
        · rename_i m hm
          rw [Nat.beq_eq] at h1
          subst h1
          exact hm
        · cases h1
    | succ i =>
      have := ghOk_some h.2 i (by omega)
      rw [show t + 1 + i = t + (i + 1) by omega] at this
      exact this
end Mo

namespace Mo
open Go

section
variable {P : Program} {sy : SyT} {tb : Tb}
/-- From the twin's slots to what they hold. -/
theorem fin_round {S : LS} {w w' : World} {pr : Pt} {fp : List Nat} {a a' : Act} {ρ1 ρ2 : Ren} {W1 W2 W3 : Tw} {sl' : Tr Value} {vs : List VT} {ss : List Nat} {x : VD vs} (e1 : (bL w pr fp a).r0.le ρ1) (m2 : Ext ρ1 W1 ρ2 W2) (m3 : ER (bL w pr fp a) S.N ρ2 (sl', []) W2 a' w')
    (hgh : ghOk S sl' S.N 0 = true) (g1 : readV vs (mapS ss sl') W2 = some (x, W3)) (haN : a.tmps.size = S.N) : LA S a a' ∧ ∃ pr' fp', LF w w' pr pr' fp fp' ∧ RdV pr' w' vs x (tmpV ss a') fp' := by
  obtain ⟨ρ3, q1, q2, q3, ⟨fp', q4, q5, q6, q7⟩, q8, q9⟩ := readV_sound m3.W (mapS_LR m3.sl ss) g1
  refine ⟨⟨by rw [m3.df.eq]; rfl, m3.N, fun t h1 h2 => ?_⟩, ρ3.pr, fp', ⟨q3.os, q3.tape, q3.output, q3.size, fun b hb hn => q3.old b hb hn, (e1.pr.trans m2.le.pr).trans q1.pr, q3.prw, fun b k h0 h1 => q3.prn b k h0 h1, fun b hb => q6 b hb, q5⟩, q4⟩
  by_cases ht : t < S.N
  · have hg := ghOk_some hgh t ht
    rw [Nat.zero_add, h1, h2] at hg
    rcases hg with hg | hg | hg
    · cases hg
    · cases hg
    · have hv := m3.sl.at' t
      rw [hg] at hv
      obtain ⟨n, hn0⟩ : ∃ n, n = 9223372036854775809 + t := ⟨_, rfl⟩
      rw [← hn0] at hv
      generalize a'.tmps.getD t undef = y at hv
      cases hv with
      | any _ => unfold D0 at hn0; omega
      | gho _ _ hn hm =>
        rw [(e1.trans m2.le).g _ hn] at hm
        obtain ⟨-, hm⟩ := hm
        rw [hm, show n - 9223372036854775809 = t by omega]
      | sym _ _ hd hm hb =>
        have := m3.W.small _ hd
        omega
  · rw [Array.getD_eq_getD_getElem?, Array.getD_eq_getD_getElem?, Array.getElem?_eq_none (by rw [m3.N]; omega), Array.getElem?_eq_none (by omega)]
theorem slot_SR {S : LS} {w : World} {pr : Pt} {fp : List Nat} {a : Act} {ρ1 : Ren} {us : List Value} (e1 : (bL w pr fp a).r0.le ρ1) (e4 : LR' ρ1 us (tmpV S.sl a)) (haN : a.tmps.size = S.N) (hN : S.N ≤ 1073741824) : SR ρ1 (getS (putL (slotL S us S.N 0) 0 .lf)) a := by
  refine ⟨fun t => ?_⟩
  simp only [getS]
  rw [get_putL _ _ _ (by rw [slotL_len]; omega), slotL_len]
  by_cases ht : t < S.N
  · have hlt : t < (slotL S us S.N 0).length := by rw [slotL_len]; exact ht
    rw [if_pos ⟨Nat.zero_le _, by omega⟩, Nat.sub_zero, List.getElem?_eq_getElem hlt, slotL_get, Nat.zero_add]
    show VR ρ1 (slotV S us t) _
    unfold slotV
    split
    · rename_i u hu
      exact pickU_some (f := fun t => a.tmps.getD t undef) e4 hu
    · split
      · exact .any _
      · have hd : D0 < 9223372036854775809 + t := by unfold D0; omega
        refine .gho _ _ hd ?_
        rw [e1.g _ hd]
        refine ⟨hd, ?_⟩
        rw [Nat.add_sub_cancel_left]
  · rw [if_neg (by omega), Tr.get_lf, Array.getD_eq_getD_getElem?, Array.getElem?_eq_none (by omega)]
    exact VR_undef
theorem body_sound {Q : Pt → Prop} (hp : ∀ w0, Q w0.r0.pr → POk P w0 sy) (htb : TbOk P tb) {L n : Nat} {f : FuncId} {S : LS} {bd : Code} (hk : codeOk bd = true) (hlo : ∀ w0, Q w0.r0.pr → ∀ b c', Sub (.loop b) bd → lpOf (sy.lp f) b = some c' → LoopOk P w0 S.N b c') (hN : S.N ≤ 1073741824)
    {v : VD S.vs} {r : LRes S} (hr : (runL P sy tb L n f S bd v).bind (decodeL S) = some r) {w : World} {pr : Pt} {fp : List Nat} {a : Act} {rm : Nat} (hq : Q pr) (hpr : PrOk pr w) (hdf : a.defers = []) (haN : a.tmps.size = S.N) (hv : RdV pr w S.vs v (tmpV S.sl a) fp) (hnd : fp.Nodup) :
    bd.wpIn (FF none) rm P (LPost S w pr fp a r) a w := by
  cases hrun : runL P sy tb L n f S bd v with
  | none => rw [hrun] at hr; cases hr
  | some p =>
    rw [hrun] at hr
    obtain ⟨us, W1, h1, h2⟩ := opb_some hrun
    have hW0 := bL_WR (fp := fp) (a := a) hpr
    obtain ⟨ρ1, e1, e2, e3, ⟨e4, e5⟩, e6, e7⟩ := impV_sound hW0 h1 hv hnd (fun b hb => .inr hb) (fun m q hm => by rw [W0_get] at hm; cases hm)
    rw [zPutL_eq _ _ _ _ (by rw [slotL_len]; omega)] at h2
    have hp0 := hp (bL w pr fp a) hq
    obtain ⟨c1, c2⟩ := zFR_le hp0.zero.ko htb L n
    obtain ⟨e, sl', ms', W2, k1, k2⟩ := zC_ok (zB_ok htb c1 c2 (hp0.zero.ko.lk f) S.N) _ _ _ _ _ _ _ h2
    rw [opQT_eq htb] at k1
    obtain ⟨d1, d2⟩ := evFRq_le (P := P) (sy := sy) htb L n
    have k3 := evC_le (P := P) (op := opT P sy) d1 d2 (clQ_ok htb) none (sy.lp f) S.N L bd _ _ _ k1
    have hE : ER (bL w pr fp a) S.N ρ1 (putL (slotL S us S.N 0) 0 .lf, []) W1 a w := ⟨e3, slot_SR e1 e4 haN hN, ⟨by rw [hdf]; rfl, fun D hD => nomatch hD⟩, haN⟩
    have key := evC_sound (fr := none) (rm := rm) hp0 (evFR_sound hp0 L n).1 (evFR_sound hp0 L n).2 (Local.evFR hp0.zero.lo L n) (cl := callable P) (fun _ h => h) (ro := none) (lp := sy.lp f) (.inl rfl) L bd _ _ W1 W2 e ρ1 a w rfl hk (hlo _ hq) hE k3
    refine wpIn_mono key ?_
    rintro ex a' w' ⟨m1, ρ2, m2, m3⟩
    cases ms' with
    | cons _ _ => cases k2
    | nil =>
      cases hgh : ghOk S sl' S.N 0 with
      | false => rw [hgh] at k2; cases k2
      | true =>
        rw [hgh] at k2
        cases e with
        | normal =>
          obtain ⟨x, W3, g1, g2⟩ := opb_some k2
          have hd := decode_canonL g2
          rw [Option.bind_some, hd] at hr
          cases hr
          cases ex <;> try exact absurd m1 id
          exact ⟨rfl, fin_round e1 m2 m3 hgh g1 haN⟩
        | exit i =>
          obtain ⟨x, W3, g1, g2⟩ := opb_some k2
          have hd := decode_canonL g2
          rw [Option.bind_some, hd] at hr
          cases hr
          exact ⟨m1, fin_round e1 m2 m3 hgh g1 haN⟩
        | ret =>
          obtain ⟨x, W3, g1, g2⟩ := opb_some k2
          have hd := decode_canonL g2
          rw [Option.bind_some, hd] at hr
          cases hr
          exact ⟨m1, fin_round e1 m2 m3 hgh g1 haN⟩
theorem LA.trans {S : LS} {a a' a'' : Act} (h : LA S a a') (k : LA S a' a'') : LA S a a'' := ⟨k.df, k.N, fun t h1 h2 => (k.gh t h1 h2).trans (h.gh t h1 h2)⟩
theorem loop_sound {Q : Pt → Prop} (hmn : MonoQ Q) {S : LS} {bd : Code} {step : VD S.vs → Option (LRes S)} {rm : Nat}
    (hb : ∀ {v r}, step v = some r → ∀ {w pr fp} {a : Act}, Q pr → PrOk pr w → a.defers = [] → a.tmps.size = S.N → RdV pr w S.vs v (tmpV S.sl a) fp → fp.Nodup → bd.wpIn (FF none) rm P (LPost S w pr fp a r) a w)
    {n : Nat} {v : VD S.vs} {r : Sigma fun e => VD (S.oV e)} (hr : iterL step n v = some r) {w : World} {pr : Pt} {fp : List Nat} {a : Act} (hq : Q pr) (hpr : PrOk pr w) (hdf : a.defers = []) (haN : a.tmps.size = S.N) (hv : RdV pr w S.vs v (tmpV S.sl a) fp) (hnd : fp.Nodup)
    (hne : ∀ v o, step v = some (.out .normal o) → False) : (Code.loop bd).wpIn (FF none) rm P (LPost S w pr fp a (.out r.1 r.2)) a w := by
  refine wpIn_loop_ghost (fun m a' w' => ∃ v' pr' fp', iterL step m v' = some r ∧ LA S a a' ∧ LF w w' pr pr' fp fp' ∧ RdV pr' w' S.vs v' (tmpV S.sl a') fp') n ⟨v, pr, fp, hr, ⟨hdf, haN, fun _ _ _ => rfl⟩, .refl hpr hnd, hv⟩ ?_
  rintro m a1 w1 ⟨v1, pr1, fp1, i1, i2, i3, i4⟩
  cases m with
  | zero => cases i1
  | succ m =>
    rw [iterL] at i1
    cases hs : step v1 with
    | none => rw [hs] at i1; cases i1
    | some q =>
      rw [hs] at i1
      refine wpIn_mono (hb hs (hmn _ _ i3.pr hq) i3.prw i2.df i2.N i4 i3.nd) ?_
      rintro ex a' w' hq
      cases q with
      | cont v2 =>
        obtain ⟨rfl, j1, pr2, fp2, j2, j3⟩ := hq
        exact ⟨m, Nat.lt_succ_self _, v2, pr2, fp2, i1, i2.trans j1, i3.trans j2, j3⟩
      | out e o =>
        cases i1
        obtain ⟨j0, j1, pr2, fp2, j2, j3⟩ := hq
        cases e with
        | normal => exact (hne _ _ hs).elim
        | exit i =>
          cases ex <;> try exact absurd j0 id
          exact ⟨j0, i2.trans j1, pr2, fp2, i3.trans j2, j3⟩
        | ret =>
          cases ex <;> try exact absurd j0 id
          exact ⟨j0, i2.trans j1, pr2, fp2, i3.trans j2, j3⟩
/-! ### Back into the twin -/
/-- Who has blocks of one's own gives them away; what comes back of them, and more, is protected. -/
theorem WR.back {w0 : Bs} {ρ : Ren} {W : Tw} {w w' : World} {pr' : Pt} {fp fp' : List Nat} (h : WR w0 ρ W w) (hl : LF w w' ρ.pr pr' fp fp') (hmay : ∀ b ∈ fp, w0.may b) (hdis : ∀ m q, W.get m = some q → q.phys → ρ.b m ∉ fp) :
    ρ.le { ρ with pr := pr' } ∧ WR w0 { ρ with pr := pr' } W w' := by
  have hle : ρ.le { ρ with pr := pr' } := ⟨fun _ h => h, fun _ _ => rfl, fun _ _ => rfl, fun _ _ => rfl, fun _ _ => rfl, fun _ _ => rfl, fun _ _ => rfl, hl.pr, fun _ _ => rfl⟩
  have may : ∀ b, w.heap.size ≤ b ∨ b ∈ fp → w0.may b := fun b hb => by
    rcases hb with hb | hb
    · exact .inl (Nat.le_trans h.size hb)
    · exact hmay b hb
  refine ⟨hle, ⟨fun n r hn => (h.row n r hn).keep hle (h.dom n r hn) (fun hph => hl.old _ ((h.row n r hn).lt hph) (hdis n r hn hph)), h.dom, h.mine, h.sep, hl.prw, fun n r hg hph k => ?_, fun b k h0 h1 => ?_, h.free, h.lim, h.small, hl.os.trans h.os, hl.tape.trans h.tape, hl.output.trans h.output, Nat.le_trans h.size hl.size, fun b hlt hx => ?_, h.r0.trans hle⟩⟩
  · have h1 := h.prd n r hg hph k
    cases hk : pr' (ρ.b n) k with
    | none => exact hk
    | some x =>
      rcases hl.prn _ _ h1 (by rw [hk]; simp) with h2 | h2
      · have := (h.row n r hg).lt hph
        omega
      · exact absurd h2 (hdis n r hg hph)
  · by_cases h2 : ρ.pr b k = none
    · exact may b (hl.prn b k h2 h1)
    · exact h.prn b k h0 h2
  · rw [hl.old b (Nat.lt_of_lt_of_le hlt h.size) fun hm => ?_]
    · exact h.old b hlt hx
    · rcases hmay b hm with h3 | h3
      · omega
      · exact hx h3
noncomputable def putU : List Nat → List Value → Tr Value → Tr Value
  | s :: ss, u :: us, t => Tr.put (some u) 31 (putU ss us t) s
  | _, _, t => t
noncomputable def putK {α : Type} : List Nat → List Value → Tr Value → (Tr Value → α) → α
  | s :: ss, u :: us, t, k => putK ss us t fun t => fT (some u) 31 t s k
  | _, _, t, k => k t
theorem putK_eq {α : Type} : ∀ {ss : List Nat} {us : List Value} {t : Tr Value} {k : Tr Value → α}, putK ss us t k = k (putU ss us t)
  | [], us, t, k => by cases us <;> rfl
  | _ :: _, [], t, k => rfl
  | s :: ss, u :: us, t, k => by
    rw [putK, putK_eq (ss := ss), fT_eq]
    rfl
theorem putU_get : ∀ {ss : List Nat} {us : List Value} {t : Tr Value}, (∀ s ∈ ss, s < 1073741824) → ∀ i, getS (putU ss us t) i = (pickU ss us i).getD (getS t i)
  | [], us, t, _, i => by cases us <;> rfl
  | _ :: _, [], t, _, i => rfl
  | s :: ss, u :: us, t, h, i => by
    have hs := h s (List.mem_cons_self ..)
    have ih := putU_get (us := us) (t := t) (fun s' h' => h s' (List.mem_cons_of_mem _ h')) i
    rw [putU, pickU]
    simp only [getS] at ih ⊢
    rw [Tr.get_put _ 30 _ _ (by omega)]
    cases hb : Nat.beq s i with
    | true =>
      rw [Nat.beq_eq] at hb
      subst hb
      rw [if_pos rfl]
      rfl
    | false =>
      have hne : ¬ i = s := fun he => by rw [← he, Nat.beq_refl] at hb; cases hb
      rw [if_neg hne]
      exact ih
noncomputable def anyL : List Nat → List Value
  | [] => []
  | _ :: r => .chan (some D0) :: anyL r
theorem pickU_any : ∀ {ss : List Nat} {i : Nat}, pickU ss (anyL ss) i = if memN ss i = true then some (.chan (some D0)) else none
  | [], i => rfl
  | s :: ss, i => by
    rw [anyL, pickU, memN]
    cases hb : Nat.beq s i with
    | true => rfl
    | false => exact pickU_any
noncomputable def bndN : List Nat → Bool
  | [] => true
  | t :: r => Nat.blt t 1073741824 && bndN r
theorem bndN_ok : ∀ {l : List Nat}, bndN l = true → ∀ s ∈ l, s < 1073741824
  | [], _, s, h => nomatch h
  | t :: r, hb, s, h => by
    rw [bndN, Bool.and_eq_true, Nat.blt_eq] at hb
    rcases List.mem_cons.1 h with h1 | h1
    · rw [h1]; exact hb.1
    · exact bndN_ok hb.2 s h1
noncomputable def outU (S : LS) (e : Ex) (us : List Value) (sl : Tr Value) : Tr Value := putU (S.oS e) us (putU S.sl (anyL S.sl) (putU S.dead (anyL S.dead) sl))
noncomputable def outB (S : LS) (e : Ex) : Bool := bndN (S.oS e) && (bndN S.sl && bndN S.dead)
/-- A loop of which a plain function is known. -/
structure LCon where
  S : LS
  step : VD S.vs → Option (LRes S)
  G : VD S.vs → ((e : Ex) → VD (S.oV e) → AnV) → AnV
def LCon.GOk (c : LCon) : Prop := ∀ v k r, c.G v k = some r → ∃ e o n, iterL c.step n v = some ⟨e, o⟩ ∧ k e o = some r
open Classical in
noncomputable def LCon.R (c : LCon) (v : VD c.S.vs) : Option (Sigma fun e => VD (c.S.oV e)) := if h : ∃ r n, iterL c.step n v = some r then some h.choose else none
theorem LCon.R_some {c : LCon} {v : VD c.S.vs} {r} (h : c.R v = some r) : ∃ n, iterL c.step n v = some r := by
  unfold LCon.R at h
  split at h
  · rename_i hh
    cases h
    exact hh.choose_spec
  · cases h
theorem LCon.R_of {c : LCon} {v : VD c.S.vs} {r} {n : Nat} (h : iterL c.step n v = some r) : c.R v = some r := by
  have hh : ∃ r n, iterL c.step n v = some r := ⟨r, n, h⟩
  unfold LCon.R
  rw [dif_pos hh]
  obtain ⟨m, hm⟩ := hh.choose_spec
  rw [iterL_det hm h]
noncomputable def LCon.F (c : LCon) (sl : Tr Value) (W : Tw) : Option ((Ex × Tr Value) × Tw) := (readV c.S.vs (mapS c.S.sl sl) W).bind fun p => match c.R p.1 with
  | some r => (impV (c.S.oV r.1) r.2 p.2).bind fun q => if outB c.S r.1 then some ((r.1, outU c.S r.1 q.1 sl), q.2) else none
  | none => none
noncomputable def LCon.K (c : LCon) (sl : Tr Value) (W : Tw) (k : Ex → Tr Value → Tw → AnV) : AnV :=
  opb (readV c.S.vs (mapS c.S.sl sl) W) fun v W => c.G v fun e o => opb (impV (c.S.oV e) o W) fun us W => Bool.rec (motive := fun _ => AnV) none
    (putK c.S.dead (anyL c.S.dead) sl fun sl => putK c.S.sl (anyL c.S.sl) sl fun sl => putK (c.S.oS e) us sl fun sl => k e sl W) (outB c.S e)
noncomputable def LCon.call (c : LCon) : LoopC := ⟨c.F, c.K⟩
theorem LCon.local' (c : LCon) (sl : Tr Value) : Local (c.F sl) := by
  refine Local.bind (G := fun v W => match c.R v with
    | some r => (impV (c.S.oV r.1) r.2 W).bind fun q => if outB c.S r.1 then some ((r.1, outU c.S r.1 q.1 sl), q.2) else none
    | none => none) (Local.readV _ _) fun v => ?_
  cases c.R v with
  | none => exact Local.fails
  | some r =>
    refine Local.bind (G := fun us W => if outB c.S r.1 then some ((r.1, outU c.S r.1 us sl), W) else none) (Local.impV _ _) fun us => ?_
    split
    · exact Local.ret _
    · exact Local.fails
theorem LCon.lk {c : LCon} (h : c.GOk) (sl : Tr Value) (W : Tw) (k : Ex → Tr Value → Tw → AnV) (r : Value × Tw) (hr : c.K sl W k = some r) : ∃ e sl' W', c.F sl W = some ((e, sl'), W') ∧ k e sl' W' = some r := by
  obtain ⟨v, W1, h1, h2⟩ := opb_some hr
  obtain ⟨e, o, n, h3, h4⟩ := h _ _ _ h2
  obtain ⟨us, W2, h5, h6⟩ := opb_some h4
  cases hb : outB c.S e with
  | false => rw [hb] at h6; cases h6
  | true =>
    rw [hb] at h6
    simp only [putK_eq] at h6
    refine ⟨e, _, W2, ?_, h6⟩
    unfold LCon.F
    rw [h1, Option.bind_some]
    simp only [LCon.R_of h3, h5, Option.bind_some, hb]
    rfl
theorem LCon.loopOk {Q : Pt → Prop} (hmn : MonoQ Q) {c : LCon} {bd : Code} {w0 : Bs} (hq0 : Q w0.r0.pr) {N : Nat} (hN : c.S.N = N)
    (hb : ∀ {rm : Nat} {v r}, c.step v = some r → ∀ {w pr fp} {a : Act}, Q pr → PrOk pr w → a.defers = [] → a.tmps.size = c.S.N → RdV pr w c.S.vs v (tmpV c.S.sl a) fp → fp.Nodup → bd.wpIn (FF none) rm P (LPost c.S w pr fp a r) a w)
    (hne : ∀ v o, c.step v = some (.out .normal o) → False) : LoopOk P w0 N bd c.call := by
  intro rm ρ sl sl' W W' a w e hE hF
  obtain ⟨v, W1, h1, h2⟩ := bind_some (show (readV c.S.vs (mapS c.S.sl sl) W).bind _ = some ((e, sl'), W') from hF)
  simp only at h2
  split at h2
  · rename_i r hR
    obtain ⟨us, W2, h3, h4⟩ := bind_some h2
    dsimp only at h4
    split at h4
    · rename_i hB
      cases h4
      obtain ⟨n, hn⟩ := LCon.R_some hR
      obtain ⟨ρ1, q1, q2, q3, ⟨fp, q4, q5, q6, q7⟩, q8, q9⟩ := readV_sound hE.W (mapS_LR hE.sl c.S.sl) h1
      have hdf : a.defers = [] := by rw [hE.df.eq]; rfl
      refine wpIn_mono (loop_sound (rm := rm) hmn hb hn (hmn _ _ (hE.W.r0.pr.trans q1.pr) hq0) q3.prw hdf (by rw [hN]; exact hE.N) q4 q5 hne) ?_
      rintro ex a' w' ⟨j0, j1, pr', fp', j2, j3⟩
      obtain ⟨k1, k2⟩ := q3.back j2 q6 q7
      have hm : ∀ b ∈ fp', w0.may b := fun b hb => by
        rcases j2.fps b hb with h5 | h5
        · exact .inl (Nat.le_trans q3.size h5)
        · exact q6 b h5
      have hd : ∀ m q, W1.get m = some q → q.phys → ρ1.b m ∉ fp' := fun m q hg hph hmem => by
        rcases j2.fps _ hmem with h5 | h5
        · have := (q3.row m q hg).lt hph
          omega
        · exact q7 m q hg hph h5
      obtain ⟨ρ3, r1, r2, r3, ⟨r4, r5⟩, r6, r7⟩ := impV_sound k2 h3 j3 j2.nd hm hd
      refine ⟨j0, ρ3, ⟨(q1.trans k1).trans r1, fun k hk => ?_, by omega, r7.trans q9⟩, ⟨r3, ⟨fun t => ?_⟩, ⟨by rw [j1.df]; rfl, fun D hD => nomatch hD⟩, by rw [j1.N, hN]⟩⟩
      · rcases r2 k hk with h5 | h5
        · rcases q2 k h5 with h6 | h6
          · exact .inl h6
          · exact .inr ⟨h6.1, by omega⟩
        · exact .inr ⟨by omega, h5.2⟩
      · unfold outB at hB
        rw [Bool.and_eq_true, Bool.and_eq_true] at hB
        obtain ⟨hB1, hB2, hB3⟩ := hB
        show VR ρ3 (getS (outU c.S r.1 us sl) t) _
        unfold outU
        rw [putU_get (bndN_ok hB1), putU_get (bndN_ok hB2), putU_get (bndN_ok hB3), pickU_any, pickU_any]
        cases hpk : pickU (c.S.oS r.1) us t with
        | some u => exact pickU_some (f := fun t => a'.tmps.getD t undef) r4 hpk
        | none =>
          simp only [Option.getD_none]
          by_cases hs1 : memN c.S.sl t = true
          · rw [if_pos hs1]; exact .any _
          · rw [if_neg hs1]
            by_cases hs2 : memN c.S.dead t = true
            · rw [if_pos hs2]; exact .any _
            · rw [if_neg hs2]
              simp only [Option.getD_none]
              rw [j1.gh t (by simpa using hs1) (by simpa using hs2)]
              exact (hE.sl.at' t).le ((q1.trans k1).trans r1)
    · cases h4
  · cases h2
end
end Mo

namespace Mo
open Go

/-! ## Functions and loops of which something is told -/
noncomputable def lpGet : List (Nat × LCon) → Nat → Option LCon
  | [], _ => none
  | p :: r, n => match Nat.beq p.1 n with
    | true => some p.2
    | false => lpGet r n
noncomputable def syL (kt : Tr Con) (lt : Tr (List (Nat × LCon))) (xt : Tr CallC) : SyT := ⟨fun f => match kt.get f with
  | some c => some c.call
  | none => xt.get f, fun f n => match lt.get f with
  | some l => (lpGet l n).map LCon.call
  | none => none⟩
/-- A call of which it is known otherwise what it yields. -/
structure XOk (P : Program) (Q : Pt → Prop) (f : FuncId) (c : CallC) : Prop where
  lo : ∀ args, Local (c.F args)
  ko : ∀ args W k r, c.K args W k = some r → ∃ v W', c.F args W = some (v, W') ∧ k v W' = some r
  kn : ∀ w0 : Bs, Q w0.r0.pr → ∀ ρ W w args args' r W', WR w0 ρ W w → AR ρ args args' → c.F args.toList W = some (r, W') → Calls P f args' w fun e w' => ∃ ρ2 y, e = .returned y ∧ Ext ρ W ρ2 W' ∧ WR w0 ρ2 W' w' ∧ VR ρ2 r y
structure LCon.Ok (P : Program) (Q : Pt → Prop) (f : FuncId) (n : Nat) (c : LCon) : Prop where
  g : c.GOk
  lp : ∀ w0, Q w0.r0.pr → ∀ fn body b, P.funcs[f]? = some fn → fn.body = some body → Sub (.loop b) body → hdC b = some n → LoopOk P w0 fn.ntmps b c.call
/-- What is told is true. -/
structure TOk (P : Program) (Q : Pt → Prop) (kt : Tr Con) (lt : Tr (List (Nat × LCon))) (xt : Tr CallC) : Prop where
  k : ∀ f c, kt.get f = some c → c.Ok P Q f
  l : ∀ f l n c, lt.get f = some l → lpGet l n = some c → c.Ok P Q f n
  x : ∀ f c, xt.get f = some c → XOk P Q f c
section
variable {P : Program} {Q : Pt → Prop} {kt : Tr Con} {lt : Tr (List (Nat × LCon))} {xt : Tr CallC}
theorem TOk.get (h : TOk P Q kt lt xt) {f c} (hc : (syL kt lt xt).kn f = some c) : (∃ q, q.Ok P Q f ∧ c = Con.call q) ∨ XOk P Q f c := by
  have hc' : (match kt.get f with
    | some c => some c.call
    | none => xt.get f) = some c := hc
  split at hc'
  · rename_i q hk
    cases hc'
    exact .inl ⟨q, h.k f q hk, rfl⟩
  · exact .inr (h.x f c hc')
theorem TOk.getL (h : TOk P Q kt lt xt) {f n c} (hc : (syL kt lt xt).lp f n = some c) : ∃ q, q.Ok P Q f n ∧ c = LCon.call q := by
  have hc' : (match lt.get f with
    | some l => (lpGet l n).map LCon.call
    | none => none) = some c := hc
  split at hc'
  · rename_i l hl'
    cases hk : lpGet l n with
    | none => rw [hk] at hc'; cases hc'
    | some q => rw [hk] at hc'; cases hc'; exact ⟨q, h.l f l n q hl' hk, rfl⟩
  · cases hc'
theorem TOk.ko (h : TOk P Q kt lt xt) : SKo (syL kt lt xt) := by
  refine ⟨fun f c hc args W k r hk => ?_, fun f n c hc => ?_⟩
  · rcases h.get hc with ⟨q, -, rfl⟩ | hx
    · exact conK_ok q args W k r hk
    · exact hx.ko args W k r hk
  · obtain ⟨q, h1, rfl⟩ := h.getL hc
    exact LCon.lk h1.g
theorem syL_ok {w0 : Bs} (hmn : MonoQ Q) (hq0 : Q w0.r0.pr) (h : TOk P Q kt lt xt) : SOk P w0 (syL kt lt xt) := by
  refine ⟨⟨fun f c hc args => ?_, fun f n c hc => ?_⟩, fun f c hc ρ W w args args' r W' hW hA hr => ?_, h.ko, fun f fn body b n c h1 h2 h3 h4 hc => ?_⟩
  · rcases h.get hc with ⟨q, -, rfl⟩ | hx
    · exact Local.conT q args
    · exact hx.lo args
  · obtain ⟨q, h1, rfl⟩ := h.getL hc
    exact q.local'
  · rcases h.get hc with ⟨q, h1, rfl⟩ | hx
    · exact conT_sound hmn hq0 h1 hW hA hr
    · exact hx.kn w0 hq0 ρ W w args args' r W' hW hA hr
  · obtain ⟨q, h5, rfl⟩ := h.getL hc
    exact h5.lp w0 hq0 fn body b h1 h2 h3 h4
end
/-! ### A loop, by the run of its round -/
noncomputable def findB : Code → Nat → List Code
  | .seq a b, n => findB a n ++ findB b n
  | .cond _ a b, n => findB a n ++ findB b n
  | .block _ b, n => findB b n
  | .loop b, n => (match hdC b with
    | some m => match Nat.beq m n with
      | true => [b]
      | false => []
    | none => []) ++ findB b n
  | _, _ => []
theorem findB_mem {b : Code} {n : Nat} (hn : hdC b = some n) : ∀ {c : Code}, Sub (.loop b) c → b ∈ findB c n := by
  intro c h
  induction h with
  | refl =>
    unfold findB
    rw [hn]
    simp
  | seqL _ ih => unfold findB; exact List.mem_append_left _ ih
  | seqR _ ih => unfold findB; exact List.mem_append_right _ ih
  | condL _ ih => unfold findB; exact List.mem_append_left _ ih
  | condR _ ih => unfold findB; exact List.mem_append_right _ ih
  | block _ ih => unfold findB; exact ih
  | loop _ ih => unfold findB; exact List.mem_append_right _ ih
theorem Sub.trans {a b c : Code} (h : Sub a b) (k : Sub b c) : Sub a c := by
  induction k with
  | refl => exact h
  | seqL _ ih => exact .seqL ih
  | seqR _ ih => exact .seqR ih
  | condL _ ih => exact .condL ih
  | condR _ ih => exact .condR ih
  | block _ ih => exact .block ih
  | loop _ ih => exact .loop ih
theorem Sub.codeOk {a c : Code} (h : Sub a c) : Mo.codeOk c = true → Mo.codeOk a = true := by
  induction h with
  | refl => exact id
  | seqL _ ih => intro k; simp only [Mo.codeOk, Bool.and_eq_true] at k; exact ih k.1
  | seqR _ ih => intro k; simp only [Mo.codeOk, Bool.and_eq_true] at k; exact ih k.2
  | condL _ ih => intro k; simp only [Mo.codeOk, Bool.and_eq_true] at k; exact ih k.1
  | condR _ ih => intro k; simp only [Mo.codeOk, Bool.and_eq_true] at k; exact ih k.2
  | block _ ih => intro k; exact ih k
  | loop _ ih => intro k; exact ih k
section
variable {P : Program} {sy : SyT} {tb : Tb}
theorem runL_ne {L n : Nat} {f : FuncId} {S : LS} {bd : Code} {v : VD S.vs} {o : VD (S.oV .normal)} (hs : SKo sy) (htb : TbOk P tb) (hN : S.N ≤ 1073741824) (h : (runL P sy tb L n f S bd v).bind (decodeL S) = some (.out .normal o)) : False := by
  cases hrun : runL P sy tb L n f S bd v with
  | none => rw [hrun] at h; cases h
  | some p =>
    rw [hrun] at h
    obtain ⟨us, W1, h1, h2⟩ := opb_some hrun
    rw [zPutL_eq _ _ _ _ (by rw [slotL_len]; omega)] at h2
    obtain ⟨c1, c2⟩ := zFR_le hs htb L n
    obtain ⟨e, sl', ms', W2, k1, k2⟩ := zC_ok (zB_ok htb c1 c2 (hs.lk f) S.N) _ _ _ _ _ _ _ h2
    cases ms' with
    | cons _ _ => cases k2
    | nil =>
      cases hgh : ghOk S sl' S.N 0 with
      | false => rw [hgh] at k2; cases k2
      | true =>
        rw [hgh] at k2
        cases e with
        | normal =>
          obtain ⟨x, W3, g1, g2⟩ := opb_some k2
          rw [Option.bind_some, decode_canonL g2] at h
          cases h
        | exit i =>
          obtain ⟨x, W3, g1, g2⟩ := opb_some k2
          rw [Option.bind_some, decode_canonL g2] at h
          cases h
        | ret =>
          obtain ⟨x, W3, g1, g2⟩ := opb_some k2
          rw [Option.bind_some, decode_canonL g2] at h
          cases h
theorem lcon_of_run {Q : Pt → Prop} (hmn : MonoQ Q) (hp : ∀ w0, Q w0.r0.pr → POk P w0 sy) (hsk : SKo sy) (hcd : ∀ (f : Nat) (fn : Func) (c : Code), P.funcs[f]? = some fn → fn.body = some c → codeOk c = true) (htb : TbOk P tb) {L n : Nat} {f : FuncId} {m : Nat} {fn : Func} {body bd : Code} (hf : P.funcs[f]? = some fn) (hb : fn.body = some body) (hfind : findB body m = [bd]) {c : LCon} (hN : Nat.beq c.S.N fn.ntmps = true) (hN2 : Nat.ble c.S.N 1073741824 = true) (hg : c.GOk)
    (hrun : ∀ v r, c.step v = some r → (runL P sy tb L n f c.S bd v).bind (decodeL c.S) = some r) : c.Ok P Q f m := by
  rw [Nat.beq_eq] at hN
  rw [Nat.ble_eq] at hN2
  refine ⟨hg, fun w0 hq0 fn' body' b h1 h2 h3 h4 => ?_⟩
  rw [hf] at h1
  cases h1
  rw [hb] at h2
  cases h2
  have hmem := findB_mem h4 h3
  rw [hfind, List.mem_singleton] at hmem
  subst hmem
  have hsub : Sub b body := Sub.trans (.loop .refl) h3
  refine LCon.loopOk hmn hq0 hN (fun {rm v r} hs => ?_) fun v o hs => ?_
  · intro w pr fp a hq hpr hdf haN hv hnd
    have hs := hrun v _ hs
    refine body_sound hp htb (hsub.codeOk (hcd f fn body hf hb)) (fun w1 hq1 b' c' hb' hl => ?_) hN2 hs hq hpr hdf haN hv hnd
    unfold lpOf at hl
    split at hl
    · rename_i k hk
      rw [hN]
      exact (hp w1 hq1).zero.lp f fn body b' k c' hf hb (hb'.trans hsub) hk hl
    · cases hl
  · have hs := hrun v _ hs
    exact runL_ne hsk htb hN2 hs
/-- What a round comes to, out of its tree of decisions. -/
noncomputable def stepOf (S : LS) (K : VD S.vs → (VD S.vs → AnV) → ((e : Ex) → VD (S.oV e) → AnV) → AnV) (v : VD S.vs) : Option (LRes S) := (K v (fun v => canonL (S := S) (.cont v)) (fun e o => canonL (S := S) (.out e o))).bind (decodeL S)
end
end Mo

