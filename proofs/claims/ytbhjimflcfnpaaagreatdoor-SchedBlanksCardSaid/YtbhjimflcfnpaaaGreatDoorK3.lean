import Derived.Test.YtbhjimflcfnpaaaGreatDoorK2
set_option linter.all false
namespace Mo
open Go

/-! ## Symbols -/
section
variable {P : Program} {w0 : Bs} {ρ : Ren}
/-- What a value stands for. -/
noncomputable def payT (v : Value) (W : Tw) : Option (TV × Tw) := match v with
  | .int k z => some (⟨.int k, z⟩, W)
  | .bool b => some (⟨.bool, b⟩, W)
  | .string ⟨⟨s⟩⟩ => some (⟨.str, s⟩, W)
  | .chan (some n) => (W.look n).bind fun p => match p.1.ob with
    | some (.p t) => some (t, p.2)
    | _ => none
  | _ => none
theorem payT_sound {W W' : Tw} {w : World} {v y : Value} {t : TV} (hW : WR w0 ρ W w) (hv : VR ρ v y) (h : payT v W = some (t, W')) : t.Rd ρ.pr y ∧ WR w0 ρ W' w ∧ W'.nx = W.nx ∧ W'.lim = W.lim := by
  unfold payT at h
  split at h
  · cases h; cases hv; exact ⟨by unfold TV.Rd Ty.Rd; rfl, hW, rfl, rfl⟩
  · cases h; cases hv; exact ⟨by unfold TV.Rd Ty.Rd; rfl, hW, rfl, rfl⟩
  · cases h; cases hv; exact ⟨by unfold TV.Rd Ty.Rd; rfl, hW, rfl, rfl⟩
  · rename_i n
    obtain ⟨r, W1, h1, h2⟩ := bind_some h
    obtain ⟨hg, rfl⟩ := look_some h1
    simp only at h2
    split at h2
    · rename_i t' ho
      cases h2
      cases hv with
      | any y => have := Tw.get_lt hg; simp [D0] at this
      | gho n y hn hm => have := Tw.get_lt hg; simp [D0] at hn; omega
      | sym _ y hd hm hb => exact ⟨((hW.row _ _ hg).py _ ho _ hm).1, hW.read n, rfl, rfl⟩
    · cases h2
  · cases h
theorem Local.payT (v : Value) : Local (Mo.payT v) := by
  unfold Mo.payT
  split
  · exact Local.ret _
  · exact Local.ret _
  · exact Local.ret _
  · rename_i n
    refine Local.congr (fun W => ?_) (Local.map (Local.look n) fun r => match r.ob with
      | some (.p t) => some t
      | _ => none)
    cases W.look n with
    | none => rfl
    | some p =>
      simp only [Option.bind_some]
      cases p.1.ob with
      | none => rfl
      | some o => cases o <;> rfl
  · exact Local.fails
theorem RR.mkp {n : Nat} {r : Row} {w : World} {t : TV} (ho : r.ob = some (.p t)) (h : ∀ y, ρ.m n y → t.Rd ρ.pr y) (hop : r.op = true → ∀ y, ρ.m n y → ∃ a k, y = .slice a k k := by intro h; cases h) (hel : r.elem = 1 → ∀ y, ρ.m n y → ∃ a k j, y = .slice (some a) k j := by intro h; cases h) : RR ρ n r w :=
  ⟨fun h => (by rw [ho] at h; cases h), fun _ h => (by rw [ho] at h; cases h), fun _ h1 => (by rw [ho] at h1; cases h1; exact fun y hy => ⟨h y hy, fun hp => hop hp y hy, fun hp => hel hp y hy⟩), fun _ _ h => (by rw [ho] at h; cases h), fun h => (by rw [ho] at h; cases h), fun _ _ _ _ h => (by rw [ho] at h; cases h)⟩
theorem RR.mkv {n : Nat} {r : Row} {w : World} (ho : r.ob = some .v) (h : ∀ i (h : i < r.cs.length), ∃ y, ρ.pr (ρ.b n) (ρ.s n + i) = some (some y) ∧ VR ρ r.cs[i] y) : RR ρ n r w :=
  ⟨fun h => (by rw [ho] at h; cases h), fun _ h => (by rw [ho] at h; cases h), fun _ h1 => (by rw [ho] at h1; cases h1), fun _ _ h => (by rw [ho] at h; cases h), fun _ => h, fun _ _ _ _ h => (by rw [ho] at h; cases h)⟩
/-- A new symbol. -/
noncomputable def symN (t : TV) (W : Tw) : Option (Value × Tw) := (W.lay ⟨[], 0, false, 0, some (.p t)⟩).bind fun (n, W1) => some (.chan (some n), W1)
theorem Local.symN (t : TV) : Local (Mo.symN t) := Local.bind (Local.lay _) fun n => Local.ret (Value.chan (some n))
/-- What a rule says. -/
def Nxt (w0 : Bs) (ρ : Ren) (W : Tw) (w : World) (W' : Tw) (w' : World) (Q : Ren → Prop) : Prop :=
  ∃ ρ2, ρ.le ρ2 ∧ (∀ k, ρ2.dom k → ρ.dom k ∨ (W.nx ≤ k ∧ k < W'.nx)) ∧ WR w0 ρ2 W' w' ∧ Q ρ2 ∧ W.nx ≤ W'.nx ∧ W'.lim = W.lim
theorem Nxt.refl {W : Tw} {w : World} {Q : Ren → Prop} (h : WR w0 ρ W w) (hq : Q ρ) : Nxt w0 ρ W w W w Q := ⟨ρ, .rfl', fun _ h => .inl h, h, hq, Nat.le_refl _, rfl⟩
theorem Nxt.bind {W W1 W2 : Tw} {w w1 w2 : World} {Q R : Ren → Prop} (h : Nxt w0 ρ W w W1 w1 Q) (k : ∀ ρ2, ρ.le ρ2 → WR w0 ρ2 W1 w1 → Q ρ2 → Nxt w0 ρ2 W1 w1 W2 w2 R) : Nxt w0 ρ W w W2 w2 R := by
  obtain ⟨ρ2, h1, h2, h3, h4, h5, h6⟩ := h
  obtain ⟨ρ3, k1, k2, k3, k4, k5, k6⟩ := k ρ2 h1 h3 h4
  refine ⟨ρ3, h1.trans k1, fun n hn => ?_, k3, k4, Nat.le_trans h5 k5, k6.trans h6⟩
  rcases k2 n hn with h | h
  · rcases h2 n h with h | h
    · exact .inl h
    · exact .inr ⟨h.1, by omega⟩
  · exact .inr ⟨by omega, h.2⟩
theorem Nxt.mono {W W1 : Tw} {w w1 : World} {Q R : Ren → Prop} (h : Nxt w0 ρ W w W1 w1 Q) (k : ∀ ρ2, ρ.le ρ2 → Q ρ2 → R ρ2) : Nxt w0 ρ W w W1 w1 R := by
  obtain ⟨ρ2, h1, h2, h3, h4, h5, h6⟩ := h
  exact ⟨ρ2, h1, h2, h3, k ρ2 h1 h4, h5, h6⟩
/-- Names that are no blocks of their own. -/
theorem lay_soft {W W' : Tw} {w : World} {q : Row} {n : Nat} (hW : WR w0 ρ W w) (hl : W.lay q = some (n, W')) (hq : ¬ q.phys) {b s : Nat} {M : Value → Prop} (hr : RR (ρ.exm W.nx b s 0 0 0 M) W.nx q w) :
    n = W.nx ∧ Nxt w0 ρ W w W' w fun ρ2 => ρ2 = ρ.exm W.nx b s 0 0 0 M := by
  obtain ⟨hx, rfl, rfl⟩ := lay_some hl
  have hle := Ren.le_exm (ρ := ρ) (n := W.nx) (b := b) (s := s) (L := 0) (x := 0) (z := 0) (M := M) (hW.free W.nx (Nat.le_refl _) hx)
  refine ⟨rfl, ρ.exm W.nx b s 0 0 0 M, hle, fun k hk => ?_, ?_, rfl, Nat.le_succ _, rfl⟩
  · rcases hk with hk | hk
    · exact .inl hk
    · exact .inr ⟨by omega, by show k < W.nx + 1; omega⟩
  · exact (hW.nameM (fun h => absurd h hq) (fun h => absurd h hq) (fun h => absurd h hq) hr (fun _ _ _ => rfl) (Nat.le_refl _) rfl rfl rfl hx).wrote _
theorem symN_sound {W W' : Tw} {w : World} {v y : Value} {t : TV} (hW : WR w0 ρ W w) (h : symN t W = some (v, W')) (hy : t.Rd ρ.pr y) : Nxt w0 ρ W w W' w fun ρ2 => VR ρ2 v y := by
  obtain ⟨n, W1, h1, h2⟩ := bind_some h
  cases h2
  have hlt : W.nx < D0 := by have := lay_lt h1; unfold D0; omega
  obtain ⟨rfl, h3⟩ := lay_soft (b := 0) (s := 0) (M := fun z => t.Rd ρ.pr z) hW h1 (fun h => h) (RR.mkp rfl fun y hy => by simpa [Ren.exm, hlt] using hy)
  refine h3.mono fun ρ2 hl he => ?_
  subst he
  exact .sym _ y (.inr rfl) (by simpa [Ren.exm, hlt] using hy) hy.basic
/-- A new symbol for a slice that has no room behind it. -/
noncomputable def symX (t : TV) (W : Tw) : Option (Value × Tw) := (W.lay ⟨[], 0, true, 0, some (.p t)⟩).bind fun (n, W1) => some (.chan (some n), W1)
theorem Local.symX (t : TV) : Local (Mo.symX t) := Local.bind (Local.lay _) fun n => Local.ret (Value.chan (some n))
theorem symX_sound {W W' : Tw} {w : World} {v : Value} {a : Option Addr} {k : Nat} {t : TV} (hW : WR w0 ρ W w) (h : symX t W = some (v, W')) (hy : t.Rd ρ.pr (.slice a k k)) : Nxt w0 ρ W w W' w fun ρ2 => VR ρ2 v (.slice a k k) := by
  obtain ⟨n, W1, h1, h2⟩ := bind_some h
  cases h2
  have hlt : W.nx < D0 := by have := lay_lt h1; unfold D0; omega
  obtain ⟨rfl, h3⟩ := lay_soft (b := 0) (s := 0) (M := fun z => z = .slice a k k) hW h1 (fun h => h) (RR.mkp rfl (fun y hy2 => by
    have : y = .slice a k k := by simpa [Ren.exm, hlt] using hy2
    rw [this]; exact hy) fun _ y hy2 => ⟨a, k, by simpa [Ren.exm, hlt] using hy2⟩)
  refine h3.mono fun ρ2 hl he => ?_
  subst he
  exact .sym _ _ (.inr rfl) (by simp [Ren.exm, hlt]) hy.basic
/-- Many new symbols. -/
noncomputable def symL : List TV → Tw → Option (List Value × Tw)
  | [], W => some ([], W)
  | t :: r, W => (symN t W).bind fun (v, W1) => (symL r W1).bind fun (l, W2) => some (v :: l, W2)
theorem Local.symL : ∀ l, Local (Mo.symL l)
  | [] => Local.ret _
  | t :: r => Local.bind (G := fun v W => (Mo.symL r W).bind fun q => some (v :: q.1, q.2)) (Local.symN t) fun v => Local.bind (G := fun l W => some (v :: l, W)) (Local.symL r) fun l => Local.ret _
def RdL (pr : Pt) : List TV → List Value → Prop
  | [], [] => True
  | t :: r, y :: s => t.Rd pr y ∧ RdL pr r s
  | _, _ => False
theorem RdL.mono {p q : Pt} (h : Pt.le p q) : ∀ {l : List TV} {ys : List Value}, RdL p l ys → RdL q l ys
  | [], [], _ => trivial
  | _ :: _, _ :: _, hr => ⟨hr.1.mono h, RdL.mono h hr.2⟩
theorem symL_sound : ∀ {l : List TV} {ρ : Ren} {W W' : Tw} {w : World} {vs ys : List Value}, WR w0 ρ W w → symL l W = some (vs, W') → RdL ρ.pr l ys → Nxt w0 ρ W w W' w fun ρ2 => LR' ρ2 vs ys
  | [], ρ, W, W', w, vs, ys, hW, h, hy => by
    cases ys with
    | cons => cases hy
    | nil =>
      cases h
      exact .refl hW ⟨rfl, fun i h => absurd h (by simp)⟩
  | t :: r, ρ, W, W', w, vs, ys, hW, h, hy => by
    cases ys with
    | nil => cases hy
    | cons y s =>
      obtain ⟨v, W1, h1, h2⟩ := bind_some h
      obtain ⟨us, W2, h3, h4⟩ := bind_some h2
      cases h4
      refine (symN_sound hW h1 hy.1).bind fun ρ2 hl hW1 hv => ?_
      refine (symL_sound hW1 h3 (hy.2.mono hl.pr)).mono fun ρ3 hl3 hu => ?_
      refine ⟨by simp [hu.len], fun i h1 h2 => ?_⟩
      cases i with
      | zero => exact hv.le hl3
      | succ i => exact hu.at' i (by simpa using h1) (by simpa using h2)

/-! ### A row of cells that is told -/
def Tys.tvs : (c : Tys) → c.D → List TV
  | .one t, x => [⟨t, x⟩]
  | .cons t r, x => ⟨t, x.1⟩ :: Tys.tvs r x.2
theorem Tys.tvs_length : ∀ (c : Tys) (x : c.D), (c.tvs x).length = c.n
  | .one _, _ => rfl
  | .cons _ r, x => by simp [Tys.tvs, Tys.n, Tys.tvs_length r]
theorem Tys.Rd.cells {pr : Pt} {b : Nat} : ∀ {c : Tys} {x : c.D} {o : Nat}, c.Rd pr x b o → ∃ ys, RdL pr (c.tvs x) ys ∧ ys.length = c.n ∧ ∀ i (h : i < ys.length), pr b (o + i) = some (some ys[i])
  | .one t, x, o, h => by
    unfold Tys.Rd at h
    obtain ⟨y, h1, h2⟩ := h
    refine ⟨[y], ⟨h2, trivial⟩, rfl, fun i hi => ?_⟩
    obtain rfl : i = 0 := by simpa using hi
    exact h1
  | .cons t r, x, o, h => by
    unfold Tys.Rd at h
    obtain ⟨⟨y, h1, h2⟩, h3⟩ := h
    obtain ⟨ys, k1, k2, k3⟩ := Tys.Rd.cells h3
    refine ⟨y :: ys, ⟨h2, k1⟩, by simp [Tys.n, k2], fun i hi => ?_⟩
    cases i with
    | zero => exact h1
    | succ i =>
      have := k3 i (by simpa using hi)
      simpa [Nat.add_assoc, Nat.add_comm 1 i] using this
/-- What stands in the place of what there isn't. -/
def Ty.df : (t : Ty) → t.D
  | .int _ => (0 : Int)
  | .bool => false
  | .str => ([] : List UInt8)
  | .sl c => ([] : List c.D)
def Tys.df : (c : Tys) → c.D
  | .one t => t.df
  | .cons t r => (t.df, Tys.df r)
/-- Whoever points to an element that isn't written. -/
noncomputable def viewT (c : Tys) (x : c.D) (W : Tw) : Option (Value × Tw) := (symL (c.tvs x) W).bind fun (l, W1) => (W1.lay ⟨l, 0, false, 0, some .v⟩).bind fun (n, W2) => some (.pointer (some ⟨n, 0, none⟩), W2)
theorem Local.viewT (c : Tys) (x : c.D) : Local (Mo.viewT c x) :=
  Local.bind (G := fun l W => (Tw.lay ⟨l, 0, false, 0, some .v⟩ W).bind fun q => some (Value.pointer (some ⟨q.1, 0, none⟩), q.2)) (Local.symL _) fun l => Local.bind (G := fun n W => some (Value.pointer (some ⟨n, 0, none⟩), W)) (Local.lay _) fun n => Local.ret _
theorem viewT_sound {c : Tys} {x : c.D} {W W' : Tw} {w : World} {v : Value} {b o : Nat} (hW : WR w0 ρ W w) (h : viewT c x W = some (v, W')) (hx : c.Rd ρ.pr x b o) : Nxt w0 ρ W w W' w fun ρ2 => VR ρ2 v (.pointer (some ⟨b, o, none⟩)) := by
  obtain ⟨l, W1, h1, h2⟩ := bind_some h
  obtain ⟨n, W2, h3, h4⟩ := bind_some h2
  cases h4
  obtain ⟨ys, k1, k2, k3⟩ := hx.cells
  refine (symL_sound hW h1 k1).bind fun ρ2 hl hW1 hv => ?_
  have hfree := hW1.free W1.nx (Nat.le_refl _) (lay_some h3).1
  have hle := Ren.le_exm (ρ := ρ2) (n := W1.nx) (b := b) (s := o) (L := 0) (x := 0) (z := 0) (M := fun _ => False) hfree
  obtain ⟨rfl, h5⟩ := lay_soft (b := b) (s := o) (M := fun _ => False) hW1 h3 (fun h => h) (RR.mkv rfl fun i hi => ⟨ys[i]'(by rw [← hv.len]; exact hi), by
    have := hl.pr _ _ _ (k3 i (by rw [← hv.len]; exact hi))
    simpa [Ren.exm] using this, (hv.at' i hi (by rw [← hv.len]; exact hi)).le hle⟩)
  refine h5.mono fun ρ3 hl3 he => ?_
  subst he
  have := VR.ptr (ρ := ρ2.exm W1.nx b o 0 0 0 fun _ => False) ⟨W1.nx, 0, none⟩ (.inr rfl)
  simpa [Ren.adr, Ren.exm] using this

/-! ### What is yielded where something holds -/
inductive Alt where
  | fail
  /-- A new symbol. -/
  | sy (t : TV)
  /-- A pointer to cells that aren't written. -/
  | vw (c : Tys) (x : c.D)
  | vl (v : Value)
  /-- Something that is done. -/
  | act (f : Tw → Option (Next × Tw)) (h : Local f)
  | br (c : Bool) (t e : Alt)
noncomputable def Alt.run (a : Alt) : Tw → Option (Next × Tw) :=
  Alt.rec (motive := fun _ => Tw → Option (Next × Tw)) (fun _ => none) (fun t W => (symN t W).bind fun p => some (.value p.1, p.2)) (fun c x W => (viewT c x W).bind fun p => some (.value p.1, p.2)) (fun v W => some (.value v, W)) (fun f _ W => f W)
    (fun c _ _ t e W => Bool.rec (motive := fun _ => Option (Next × Tw)) (e W) (t W) c) a
theorem Alt.run_br (c : Bool) (t e : Alt) (W : Tw) : (Alt.br c t e).run W = if c then t.run W else e.run W := by cases c <;> rfl
theorem Alt.local' : ∀ a : Alt, Local a.run
  | .fail => Local.fails
  | .sy t => Local.bind (Local.symN t) fun v => Local.ret (Next.value v)
  | .vw c x => Local.bind (Local.viewT c x) fun v => Local.ret (Next.value v)
  | .vl v => Local.ret (Next.value v)
  | .act f h => h
  | .br c t e => by
    refine Local.congr (fun W => Alt.run_br c t e W) ?_
    cases c with
    | true => exact Alt.local' t
    | false => exact Alt.local' e
/-- What an alternative says of a term. -/
def AltS (P : Program) (w0 : Bs) (ρ : Ren) (W : Tw) (w : World) (a : Alt) (s : Sem Next) : Prop :=
  ∀ n W', a.run W = some (n, W') → ∃ m w', s.run P w = .ok m w' ∧ Nxt w0 ρ W w W' w' fun ρ2 => NR ρ2 n m
theorem AltS.fail {W : Tw} {w : World} {s : Sem Next} : AltS P w0 ρ W w .fail s := fun _ _ h => by cases h
theorem AltS.br {W : Tw} {w : World} {s : Sem Next} {c : Bool} {t e : Alt} (h : c = true → AltS P w0 ρ W w t s) (k : c = false → AltS P w0 ρ W w e s) : AltS P w0 ρ W w (.br c t e) s := by
  intro n W' hr
  rw [Alt.run_br] at hr
  cases c with
  | true => exact h rfl n W' hr
  | false => exact k rfl n W' hr
theorem AltS.sy {W : Tw} {w : World} {s : Sem Next} {t : TV} {y : Value} (hW : WR w0 ρ W w) (hs : s.run P w = .ok (.value y) w) (hy : t.Rd ρ.pr y) : AltS P w0 ρ W w (.sy t) s := by
  intro n W' hr
  obtain ⟨v, W1, h1, h2⟩ := bind_some hr
  cases h2
  exact ⟨_, w, hs, (symN_sound hW h1 hy).mono fun _ _ h => .value h⟩
theorem AltS.vw {W : Tw} {w : World} {s : Sem Next} {c : Tys} {x : c.D} {b o : Nat} (hW : WR w0 ρ W w) (hs : s.run P w = .ok (.value (.pointer (some ⟨b, o, none⟩))) w) (hx : c.Rd ρ.pr x b o) : AltS P w0 ρ W w (.vw c x) s := by
  intro n W' hr
  obtain ⟨v, W1, h1, h2⟩ := bind_some hr
  cases h2
  exact ⟨_, w, hs, (viewT_sound hW h1 hx).mono fun _ _ h => .value h⟩
theorem AltS.act {W : Tw} {w : World} {s : Sem Next} {f : Tw → Option (Next × Tw)} {hl : Local f} (h : ∀ n W', f W = some (n, W') → ∃ m w', s.run P w = .ok m w' ∧ Nxt w0 ρ W w W' w' fun ρ2 => NR ρ2 n m) : AltS P w0 ρ W w (.act f hl) s := h
theorem AltS.vl {W : Tw} {w : World} {s : Sem Next} {v y : Value} (hW : WR w0 ρ W w) (hs : s.run P w = .ok (.value y) w) (hv : VR ρ v y) : AltS P w0 ρ W w (.vl v) s := by
  intro n W' hr
  cases hr
  exact ⟨_, w, hs, .refl hW (.value hv)⟩
end
end Mo

namespace Mo
open Go

/-! ## What is one's own is written no more: then it may stand in typed values -/
def kIdx : IntKind → Nat
  | .i8 => 0 | .i16 => 1 | .i32 => 2 | .i64 => 3 | .u8 => 4 | .u16 => 5 | .u32 => 6 | .u64 => 7
def kEq (a b : IntKind) : Bool := Nat.beq (kIdx a) (kIdx b)
theorem kEq_eq {a b : IntKind} (h : kEq a b = true) : a = b := by
  cases a <;> cases b <;> first | rfl | cases h
/-! ### Types that are one -/
mutual
def Ty.beq : Ty → Ty → Bool
  | .int a, .int b => kEq a b
  | .bool, .bool => true
  | .str, .str => true
  | .sl c, .sl d => Tys.beq c d
  | _, _ => false
def Tys.beq : Tys → Tys → Bool
  | .one a, .one b => Ty.beq a b
  | .cons a c, .cons b d => Ty.beq a b && Tys.beq c d
  | _, _ => false
end
mutual
theorem Ty.beq_eq : ∀ {s t : Ty}, s.beq t = true → s = t
  | .int a, .int b, h => by unfold Ty.beq at h; rw [kEq_eq h]
  | .bool, .bool, _ => rfl
  | .str, .str, _ => rfl
  | .sl c, .sl d, h => by unfold Ty.beq at h; rw [Tys.beq_eq h]
  | .int _, .bool, h => by unfold Ty.beq at h; cases h
  | .int _, .str, h => by unfold Ty.beq at h; cases h
  | .int _, .sl _, h => by unfold Ty.beq at h; cases h
  | .bool, .int _, h => by unfold Ty.beq at h; cases h
  | .bool, .str, h => by unfold Ty.beq at h; cases h
  | .bool, .sl _, h => by unfold Ty.beq at h; cases h
  | .str, .int _, h => by unfold Ty.beq at h; cases h
  | .str, .bool, h => by unfold Ty.beq at h; cases h
  | .str, .sl _, h => by unfold Ty.beq at h; cases h
  | .sl _, .int _, h => by unfold Ty.beq at h; cases h
  | .sl _, .bool, h => by unfold Ty.beq at h; cases h
  | .sl _, .str, h => by unfold Ty.beq at h; cases h
theorem Tys.beq_eq : ∀ {s t : Tys}, s.beq t = true → s = t
  | .one a, .one b, h => by unfold Tys.beq at h; rw [Ty.beq_eq h]
  | .cons a c, .cons b d, h => by
    unfold Tys.beq at h
    rw [Bool.and_eq_true] at h
    rw [Ty.beq_eq h.1, Tys.beq_eq h.2]
  | .one _, .cons _ _, h => by unfold Tys.beq at h; cases h
  | .cons _ _, .one _, h => by unfold Tys.beq at h; cases h
end
def castL (c d : Tys) (l : List c.D) : Option (List d.D) := if h : c.beq d = true then some (cast (by rw [Tys.beq_eq h]) l) else none
noncomputable def castI (k j : IntKind) (x : Int) : Option Int := Bool.rec (motive := fun _ => Option Int) none (some x) (kEq k j)
/-- A value of this type, if it is one. -/
noncomputable def castT (p : TV) : (t : Ty) → Option t.D
  | .int j => match p with
    | ⟨.int k, x⟩ => castI k j x
    | _ => none
  | .bool => match p with
    | ⟨.bool, x⟩ => some x
    | _ => none
  | .str => match p with
    | ⟨.str, x⟩ => some x
    | _ => none
  | .sl d => match p with
    | ⟨.sl c, l⟩ => castL c d l
    | _ => none
theorem castI_some {k j : IntKind} {a x : Int} (h : castI k j a = some x) : k = j ∧ a = x := by
  unfold castI at h
  cases hk : kEq k j with
  | false => rw [hk] at h; cases h
  | true => rw [hk] at h; cases h; exact ⟨kEq_eq hk, rfl⟩
theorem castT_rd {pr : Pt} {p : TV} {t : Ty} {x : t.D} {y : Value} (h : castT p t = some x) (hr : p.Rd pr y) : t.Rd pr x y := by
  obtain ⟨s, a⟩ := p
  cases t with
  | int j =>
    cases s with
    | int k =>
      obtain ⟨h1, h2⟩ := castI_some (show castI k j a = some x from h)
      subst h1
      have h2' : a = x := h2
      rw [← h2']
      exact hr
    | _ => cases h
  | bool =>
    cases s with
    | bool => cases h; exact hr
    | _ => cases h
  | str =>
    cases s with
    | str => cases h; exact hr
    | _ => cases h
  | sl d =>
    cases s with
    | sl c =>
      have h' : castL c d a = some x := h
      unfold castL at h'
      split at h'
      · rename_i hb
        cases h'
        have := Tys.beq_eq hb
        subst this
        exact hr
      · cases h'
    | _ => cases h

theorem sl_rd0 {pr : Pt} {c : Tys} {l : (Ty.sl c).D} {v : Value} : (Ty.sl c).Rd pr l v ↔ ∃ a cap, v = .slice a (@List.length c.D l) cap ∧ @List.length c.D l ≤ cap ∧ ((a = none ∧ @List.length c.D l = 0 ∧ cap = 0) ∨ ∃ b off, a = some ⟨b, off, none⟩ ∧ ∀ i (h : i < @List.length c.D l), Tys.Rd pr c (@List.get c.D l ⟨i, h⟩) b (off + i * c.n)) := by
  unfold Ty.Rd
  exact Iff.rfl
theorem sl_rd {pr : Pt} {c : Tys} {l : List c.D} {v : Value} : (Ty.sl c).Rd pr l v ↔ ∃ a cap, v = .slice a (List.length l) cap ∧ List.length l ≤ cap ∧ ((a = none ∧ List.length l = 0 ∧ cap = 0) ∨ ∃ b off, a = some ⟨b, off, none⟩ ∧ ∀ i (h : i < List.length l), Tys.Rd pr c (List.get l ⟨i, h⟩) b (off + i * c.n)) := sl_rd0
theorem nil_rd {pr : Pt} {c : Tys} : (Ty.sl c).Rd pr ([] : List c.D) (.slice none 0 0) :=
  sl_rd.2 ⟨none, _, rfl, Nat.zero_le _, .inl ⟨rfl, rfl, rfl⟩⟩
theorem Tys.At.rd {pr : Pt} {a : Array Value} {b : Nat} : ∀ {c : Tys} {x : c.D} {k o : Nat}, c.At pr x a k → (∀ j, j < c.n → pr b (o + j) = some (some (a.getD (k + j) undef))) → c.Rd pr x b o
  | .one t, x, k, o, h, hp => by
    unfold Tys.Rd
    exact ⟨_, hp 0 (by simp [Tys.n]), h⟩
  | .cons t r, x, k, o, h, hp => by
    unfold Tys.Rd
    refine ⟨⟨_, hp 0 (by simp [Tys.n]), h.1⟩, Tys.At.rd h.2 fun j hj => ?_⟩
    have := hp (j + 1) (by simp [Tys.n]; omega)
    rw [show o + 1 + j = o + (j + 1) by omega, show k + 1 + j = k + (j + 1) by omega]
    exact this

theorem add_none (b o n : Nat) : (⟨b, o, none⟩ : Addr).add n = ⟨b, o + n, none⟩ := by
  unfold Addr.add
  split
  · rename_i h; rw [h]; rfl
  · rfl
theorem Tys.At.cells {pr : Pt} {a : Array Value} : ∀ {c : Tys} {x : c.D} {o : Nat}, c.At pr x a o → RdL pr (c.tvs x) ((List.range c.n).map fun i => a.getD (o + i) undef)
  | .one t, x, o, h => ⟨h, trivial⟩
  | .cons t r, x, o, h => by
    have ih := Tys.At.cells h.2
    show RdL pr _ ((List.range (r.n + 1)).map _)
    rw [List.range_succ_eq_map]
    refine ⟨h.1, ?_⟩
    simp only [List.map_map]
    have e : ((fun i => a.getD (o + i) undef) ∘ Nat.succ) = fun i => a.getD (o + 1 + i) undef := by
      funext i
      show a.getD (o + (i + 1)) undef = _
      rw [show o + (i + 1) = o + 1 + i by omega]
    rw [e]
    exact ih
section
variable {P : Program} {w0 : Bs} {ρ : Ren}
/-- A block of one's own is written no more. -/
theorem WR.soft {W : Tw} {w : World} (h : WR w0 ρ W w) {n : Nat} {r q : Row} (hg : W.get n = some r) (hp : r.phys) (hq : ¬ q.phys) {pr' : Pt} (hle : ρ.pr.le pr') (hoth : ∀ b k, b ≠ ρ.b n → pr' b k = ρ.pr b k)
    (hown : ∀ k x, pr' (ρ.b n) k = some x → ∃ c e m, w.heap[ρ.b n]? = some (.cells c e m) ∧ c[k]? = x) (hr : RR { ρ with pr := pr' } n q w) :
    ρ.le { ρ with pr := pr' } ∧ WR w0 { ρ with pr := pr' } (W.set n (some q)) w := by
  have hl : ρ.le { ρ with pr := pr' } := ⟨fun _ h => h, fun _ _ => rfl, fun _ _ => rfl, fun _ _ => rfl, fun _ _ => rfl, fun _ _ => rfl, fun _ _ => rfl, hle, fun _ _ => rfl⟩
  have hget := Tw.get_set W (h.small _ (h.dom _ _ hg)) (some q)
  refine ⟨hl, { row := fun m p hm => ?_, dom := fun m p hm => ?_, mine := fun m p hm hph => ?_, sep := fun m k p p' hm hk hph hph' hne => ?_, prw := fun b k x hx => ?_, prd := fun m p hm hph k => ?_, prn := fun b k h0 h1 => ?_, free := h.free, lim := h.lim, small := h.small, os := h.os, tape := h.tape, output := h.output, size := h.size, old := h.old, r0 := h.r0.trans hl }⟩
  · rw [hget] at hm
    split at hm
    · rename_i he; subst he; cases hm; exact hr
    · exact (h.row _ _ hm).keep hl (h.dom _ _ hm) fun _ => rfl
  · rw [hget] at hm
    split at hm
    · rename_i he; subst he; exact h.dom _ _ hg
    · exact h.dom _ _ hm
  · rw [hget] at hm
    split at hm
    · cases hm; exact absurd hph hq
    · exact h.mine _ _ hm hph
  · rw [hget] at hm hk
    split at hm
    · cases hm; exact absurd hph hq
    · split at hk
      · cases hk; exact absurd hph' hq
      · exact h.sep _ _ _ _ hm hk hph hph' hne
  · by_cases hb : b = ρ.b n
    · subst hb; exact hown k x hx
    · have hx' : pr' b k = some x := hx
      rw [hoth b k hb] at hx'
      exact h.prw b k x hx'
  · rw [hget] at hm
    split at hm
    · cases hm; exact absurd hph hq
    · rename_i hne
      show pr' (ρ.b m) k = none
      rw [hoth _ _ (h.sep _ _ _ _ hm hg hph hp hne)]
      exact h.prd _ _ hm hph k
  · by_cases hb : b = ρ.b n
    · subst hb; exact h.mine _ _ hg hp
    · have h1' : pr' b k ≠ none := h1
      rw [hoth b k hb] at h1'
      exact h.prn b k h0 h1'
/-- More is protected; the world stays. -/
def Fz (w0 : Bs) (ρ : Ren) (W : Tw) (w : World) (W' : Tw) (Q : Ren → Prop) : Prop :=
  ∃ pr', ρ.pr.le pr' ∧ WR w0 { ρ with pr := pr' } W' w ∧ W'.nx = W.nx ∧ W'.lim = W.lim ∧ Q { ρ with pr := pr' }
theorem Ren.le_pr {pr' : Pt} (h : ρ.pr.le pr') : ρ.le { ρ with pr := pr' } := ⟨fun _ h => h, fun _ _ => rfl, fun _ _ => rfl, fun _ _ => rfl, fun _ _ => rfl, fun _ _ => rfl, fun _ _ => rfl, h, fun _ _ => rfl⟩
theorem Fz.refl {W : Tw} {w : World} {Q : Ren → Prop} (h : WR w0 ρ W w) (hq : Q ρ) : Fz w0 ρ W w W Q := ⟨ρ.pr, .rfl', h, rfl, rfl, hq⟩
theorem Fz.bind {W W1 W2 : Tw} {w : World} {Q R : Ren → Prop} (h : Fz w0 ρ W w W1 Q) (k : ∀ ρ', ρ.le ρ' → WR w0 ρ' W1 w → Q ρ' → Fz w0 ρ' W1 w W2 R) : Fz w0 ρ W w W2 R := by
  obtain ⟨p, h1, h2, h3, h4, h5⟩ := h
  obtain ⟨q, k1, k2, k3, k4, k5⟩ := k _ (Ren.le_pr h1) h2 h5
  exact ⟨q, h1.trans k1, k2, k3.trans h3, k4.trans h4, k5⟩
theorem Fz.mono {W W1 : Tw} {w : World} {Q R : Ren → Prop} (h : Fz w0 ρ W w W1 Q) (k : ∀ ρ', ρ.le ρ' → Q ρ' → R ρ') : Fz w0 ρ W w W1 R := by
  obtain ⟨p, h1, h2, h3, h4, h5⟩ := h
  exact ⟨p, h1, h2, h3, h4, k _ (Ren.le_pr h1) h5⟩
theorem Fz.nxt {W W1 : Tw} {w : World} {Q : Ren → Prop} (h : Fz w0 ρ W w W1 Q) : Nxt w0 ρ W w W1 w Q := by
  obtain ⟨p, h1, h2, h3, h4, h5⟩ := h
  exact ⟨_, Ren.le_pr h1, fun _ hk => .inl hk, h2, h5, by omega, h4⟩
theorem Fz.step {W W1 W2 : Tw} {w w2 : World} {Q R : Ren → Prop} (h : Fz w0 ρ W w W1 Q) (k : ∀ ρ', ρ.le ρ' → WR w0 ρ' W1 w → Q ρ' → Nxt w0 ρ' W1 w W2 w2 R) : Nxt w0 ρ W w W2 w2 R := h.nxt.bind k

/-- A row of one's own is shut. -/
noncomputable def shutT (n : Nat) (W : Tw) : Option (Unit × Tw) := (W.look n).bind fun p => match p.1.ob with
  | none => Tw.upd n (fun r => match r.ob with
    | none => some (some { r with ob := some .v })
    | _ => none) p.2
  | some (.l _ _) => Tw.upd n (fun r => match r.ob with
    | some (.l c l) => some (some ⟨[], 1, false, 0, some (.p ⟨.sl c, l⟩)⟩)
    | _ => none) p.2
  | some .v => some ((), p.2)
  | some (.p _) => some ((), p.2)
  | _ => none
theorem Local.shutT (n : Nat) : Local (Mo.shutT n) := by
  refine Local.bind (G := fun (r : Row) W => match r.ob with
    | none => Tw.upd n (fun r => match r.ob with
      | none => some (some { r with ob := some .v })
      | _ => none) W
    | some (.l _ _) => Tw.upd n (fun r => match r.ob with
      | some (.l c l) => some (some ⟨[], 1, false, 0, some (.p ⟨.sl c, l⟩)⟩)
      | _ => none) W
    | some .v => some ((), W)
    | some (.p _) => some ((), W)
    | _ => none) (Local.look n) fun r => ?_
  split
  · exact Local.upd n _
  · exact Local.upd n _
  · exact Local.ret _
  · exact Local.ret _
  · exact Local.fails
theorem shutT_sound {n : Nat} {W W' : Tw} {w : World} {u : Unit} (hW : WR w0 ρ W w) (h : shutT n W = some (u, W')) : Fz w0 ρ W w W' fun _ => True := by
  obtain ⟨r, W1, h1, h2⟩ := bind_some h
  obtain ⟨hg, rfl⟩ := look_some h1
  have hWr := hW.read n
  have hgr : (W.read n).get n = some r := hg
  simp only at h2
  split at h2
  · rename_i ho
    obtain ⟨r', q, k1, k2, rfl⟩ := upd_some h2
    rw [hgr] at k1
    cases k1
    rw [ho] at k2
    cases k2
    have hph : r.phys := Row.phys0 ho
    obtain ⟨c, lo, hi, m1, m2, m3, m4, m5, m6⟩ := (hW.row _ _ hg).row ho
    let pr' : Pt := fun b k => if b = ρ.b n then (if ρ.s n ≤ k ∧ k < ρ.s n + r.cs.length then some (some (c.getD k undef)) else none) else ρ.pr b k
    have hle : ρ.pr.le pr' := fun b k x hx => by
      have hb : b ≠ ρ.b n := fun he => by
        rw [he, hW.prd _ _ hg hph] at hx; cases hx
      show (if b = ρ.b n then _ else _) = _
      rw [if_neg hb]; exact hx
    have key : ρ.le { ρ with pr := pr' } ∧ WR w0 { ρ with pr := pr' } ((W.read n).set n (some { r with ob := some .v })) w := by
     refine hWr.soft (q := { r with ob := some .v }) (pr' := pr') hgr hph (fun h => h) hle (fun b k hb => by
      show (if b = ρ.b n then _ else _) = _
      rw [if_neg hb]) (fun k x hx => ?_) (RR.mkv rfl fun i hi => ?_)
     · have hx' : (if ρ.s n ≤ k ∧ k < ρ.s n + r.cs.length then some (some (c.getD k undef)) else none) = some x := by
         have : pr' (ρ.b n) k = some x := hx
         simpa [pr'] using this
       split at hx'
       · rename_i hk
         cases hx'
         have hkc : k < c.size := by omega
         exact ⟨c, _, _, m1, by simp [Array.getD, hkc]⟩
       · cases hx'
     · have hi' : i < r.cs.length := hi
       refine ⟨c.getD (ρ.s n + i) undef, ?_, (m4 i hi').le (Ren.le_pr hle)⟩
       show (if ρ.b n = ρ.b n then (if ρ.s n ≤ ρ.s n + i ∧ ρ.s n + i < ρ.s n + r.cs.length then _ else _) else _) = _
       rw [if_pos rfl, if_pos ⟨by omega, by omega⟩]
    exact ⟨pr', hle, key.2.wrote n, rfl, rfl, trivial⟩
  · rename_i c0 l0 ho
    obtain ⟨r', q, k1, k2, rfl⟩ := upd_some h2
    rw [hgr] at k1
    cases k1
    rw [ho] at k2
    cases k2
    have hph : r.phys := by unfold Row.phys; rw [ho]; trivial
    obtain ⟨a, lo, hi, m1, m2, m3, m4, m5, m6, m7⟩ := (hW.row _ _ hg).ls _ _ ho
    let pr' : Pt := fun b k => if b = ρ.b n then (if k < a.size then some (some (a.getD k undef)) else none) else ρ.pr b k
    have hle : ρ.pr.le pr' := fun b k x hx => by
      have hb : b ≠ ρ.b n := fun he => by
        rw [he, hW.prd _ _ hg hph] at hx; cases hx
      show (if b = ρ.b n then _ else _) = _
      rw [if_neg hb]; exact hx
    have key : ρ.le { ρ with pr := pr' } ∧ WR w0 { ρ with pr := pr' } ((W.read n).set n (some ⟨[], 1, false, 0, some (.p ⟨.sl c0, l0⟩)⟩)) w := by
     refine hWr.soft (q := ⟨[], 1, false, 0, some (.p ⟨.sl c0, l0⟩)⟩) (pr' := pr') hgr hph (fun h => h) hle (fun b k hb => by
      show (if b = ρ.b n then _ else _) = _
      rw [if_neg hb]) (fun k x hx => ?_) (RR.mkp (t := ⟨.sl c0, l0⟩) rfl (fun y hy => ?_) (hel := fun _ y hy => ⟨_, _, _, m7 y hy⟩))
     · have hx' : (if k < a.size then some (some (a.getD k undef)) else none) = some x := by
         have : pr' (ρ.b n) k = some x := hx
         simpa [pr'] using this
       split at hx'
       · rename_i hk
         cases hx'
         exact ⟨a, _, _, m1, by simp [Array.getD, hk]⟩
       · cases hx'
     · rw [m7 y hy]
       refine sl_rd.2 ⟨_, _, rfl, Nat.le_add_right _ _, .inr ⟨_, _, rfl, fun i hi => ?_⟩⟩
       refine Tys.At.rd ((m6 i hi).mono hle) fun j hj => ?_
       have h5 : i * c0.n + c0.n ≤ List.length l0 * c0.n := by
         have : (i + 1) * c0.n ≤ List.length l0 * c0.n := Nat.mul_le_mul_right _ hi
         rw [Nat.add_mul, Nat.one_mul] at this
         exact this
       have h6 : (List.length l0 + ρ.x n) * c0.n = List.length l0 * c0.n + ρ.x n * c0.n := Nat.add_mul _ _ _
       show (if ρ.b n = ρ.b n then (if _ then _ else _) else _) = _
       rw [if_pos rfl, if_pos (by omega)]
    exact ⟨pr', hle, key.2.wrote n, rfl, rfl, trivial⟩
  · cases h2; exact Fz.refl (Q := fun _ => True) hWr trivial
  · cases h2; exact Fz.refl (Q := fun _ => True) hWr trivial
  · cases h2
end
end Mo

namespace Mo
open Go

/-! ## What is read out of the twin: typed values -/
noncomputable def castP (t : Ty) (v : Value) (W : Tw) : Option (t.D × Tw) := (payT v W).bind fun (p, W1) => (castT p t).map fun x => (x, W1)
/-- How many cells are known of a capacity. -/
noncomputable def capK (c : Nat) : Nat := if c < big then c else c - big
noncomputable def rowsL {D : Type} (f : List Value → Tw → Option (D × Tw)) (z : Nat) : Nat → List Value → Tw → Option (List D × Tw)
  | 0, _, W => some ([], W)
  | n + 1, cs, W => match takeL cs z with
    | some vs => (f vs W).bind fun (x, W1) => (rowsL f z n (cs.drop z) W1).bind fun (l, W2) => some (x :: l, W2)
    | none => none
def isV : Option Ob → Bool
  | some .v => true
  | _ => false
theorem isV_some {o : Option Ob} (h : isV o = true) : o = some .v := by
  unfold isV at h
  split at h
  · rfl
  · cases h
noncomputable def sliceR {D : Type} (f : List Value → Tw → Option (D × Tw)) (z n o l cap : Nat) (W : Tw) : Option (List D × Tw) :=
  if Nat.ble l (capK cap) then (shutT n W).bind fun p => (Tw.look n p.2).bind fun q => if isV q.1.ob then rowsL f z l (q.1.cs.drop o) q.2 else none else none
noncomputable def slV {D : Type} (f : List Value → Tw → Option (D × Tw)) (z : Nat) (g : Value → Tw → Option (List D × Tw)) (v : Value) (W : Tw) : Option (List D × Tw) := match v with
  | .slice none 0 0 => some ([], W)
  | .slice (some ⟨n, o, none⟩) l cap => sliceR f z n o l cap W
  | .chan (some n) => (shutT n W).bind fun p => g (.chan (some n)) p.2
  | _ => none
mutual
/-- A cell, read: what is one's own is shut. -/
noncomputable def argV : (t : Ty) → Value → Tw → Option (t.D × Tw)
  | .int k => castP (.int k)
  | .bool => castP .bool
  | .str => castP .str
  | .sl c => slV (argC c) c.n (castP (.sl c))
noncomputable def argC : (c : Tys) → List Value → Tw → Option (c.D × Tw)
  | .one t => fun vs W => match vs with
    | [v] => argV t v W
    | _ => none
  | .cons t r => fun vs W => match vs with
    | v :: vs => (argV t v W).bind fun (x, W1) => (argC r vs W1).bind fun (y, W2) => some ((x, y), W2)
    | [] => none
end
theorem Local.castP (t : Ty) (v : Value) : Local (Mo.castP t v) := Local.map (Local.payT v) fun p => castT p t
theorem Local.rowsL {D : Type} {f : List Value → Tw → Option (D × Tw)} (hf : ∀ vs, Local (f vs)) (z : Nat) : ∀ (n : Nat) (cs : List Value), Local (Mo.rowsL f z n cs)
  | 0, _ => Local.ret _
  | n + 1, cs => by
    cases h : takeL cs z with
    | none => exact Local.congr (fun W => by rw [Mo.rowsL, h]) Local.fails
    | some vs =>
      refine Local.congr (fun W => by rw [Mo.rowsL, h]) (Local.bind (G := fun x W => (Mo.rowsL f z n (cs.drop z) W).bind fun q => some (x :: q.1, q.2)) (hf vs) fun x => ?_)
      exact Local.bind (G := fun l W => some (x :: l, W)) (Local.rowsL hf z n _) fun l => Local.ret _
theorem Local.sliceR {D : Type} {f : List Value → Tw → Option (D × Tw)} (hf : ∀ vs, Local (f vs)) (z n o l cap : Nat) : Local (Mo.sliceR f z n o l cap) := by
  unfold Mo.sliceR
  split
  · refine Local.bind (G := fun (_ : Unit) W => (Tw.look n W).bind fun q => if isV q.1.ob then Mo.rowsL f z l (q.1.cs.drop o) q.2 else none) (Local.shutT n) fun _ => ?_
    refine Local.bind (G := fun (r : Row) W => if isV r.ob then Mo.rowsL f z l (r.cs.drop o) W else none) (Local.look n) fun r => ?_
    split
    · exact Local.rowsL hf _ _ _
    · exact Local.fails
  · exact Local.fails
theorem Local.slV {D : Type} {f : List Value → Tw → Option (D × Tw)} (hf : ∀ vs, Local (f vs)) (z : Nat) {g : Value → Tw → Option (List D × Tw)} (hg : ∀ v, Local (g v)) (v : Value) : Local (Mo.slV f z g v) := by
  unfold Mo.slV
  split
  · exact Local.ret _
  · exact Local.sliceR hf _ _ _ _ _
  · rename_i n
    exact Local.bind (G := fun (_ : Unit) W => g (.chan (some n)) W) (Local.shutT n) fun _ => hg _
  · exact Local.fails
mutual
theorem Local.argV : ∀ (t : Ty) (v : Value), Local (Mo.argV t v)
  | .int k, v => by unfold Mo.argV; exact Local.castP _ v
  | .bool, v => by unfold Mo.argV; exact Local.castP _ v
  | .str, v => by unfold Mo.argV; exact Local.castP _ v
  | .sl c, v => by unfold Mo.argV; exact Local.slV (Local.argC c) _ (Local.castP _) v
theorem Local.argC : ∀ (c : Tys) (vs : List Value), Local (Mo.argC c vs)
  | .one t, vs => by
    unfold Mo.argC
    match vs with
    | [] => exact Local.fails
    | [v] => exact Local.argV t _
    | _ :: _ :: _ => exact Local.fails
  | .cons t r, vs => by
    unfold Mo.argC
    match vs with
    | [] => exact Local.fails
    | v :: vs =>
      exact Local.bind (G := fun x W => (Mo.argC r vs W).bind fun q => some ((x, q.1), q.2)) (Local.argV t v) fun x => Local.bind (G := fun z W => some ((x, z), W)) (Local.argC r vs) fun z => Local.ret _
end
section
variable {P : Program} {w0 : Bs} {ρ : Ren}
theorem castP_sound {t : Ty} {v y : Value} {W W' : Tw} {w : World} {x : t.D} (hW : WR w0 ρ W w) (hv : VR ρ v y) (h : castP t v W = some (x, W')) : Fz w0 ρ W w W' fun ρ' => t.Rd ρ'.pr x y := by
  obtain ⟨p, W1, h1, h2⟩ := bind_some h
  obtain ⟨k1, k2, k3, k4⟩ := payT_sound hW hv h1
  simp only at h2
  cases hc : castT p _ with
  | none => rw [hc] at h2; cases h2
  | some z =>
    rw [hc] at h2
    cases h2
    exact ⟨ρ.pr, .rfl', k2, k3, k4, castT_rd hc k1⟩
theorem rowsL_sound {c : Tys} {f : List Value → Tw → Option (c.D × Tw)}
    (hf : ∀ {ρ : Ren} {vs : List Value} {a : Array Value} {o : Nat} {W W' : Tw} {w : World} {x : c.D}, WR w0 ρ W w → (∀ i (h : i < vs.length), VR ρ vs[i] (a.getD (o + i) undef)) → f vs W = some (x, W') → vs.length = c.n ∧ Fz w0 ρ W w W' fun ρ' => c.At ρ'.pr x a o) :
    ∀ (n : Nat) (cs : List Value) {ρ : Ren} {b o : Nat} {W W' : Tw} {w : World} {l : List c.D}, WR w0 ρ W w → (∀ i (h : i < cs.length), ∃ y, ρ.pr b (o + i) = some (some y) ∧ VR ρ cs[i] y) → rowsL f c.n n cs W = some (l, W') →
      Fz w0 ρ W w W' fun ρ' => List.length l = n ∧ ∀ i (h : i < List.length l), c.Rd ρ'.pr (List.get l ⟨i, h⟩) b (o + i * c.n)
  | 0, cs, ρ, b, o, W, W', w, l, hW, hc, h => by
    cases h
    exact .refl hW ⟨rfl, fun i h => absurd h (Nat.not_lt_zero _)⟩
  | n + 1, cs, ρ, b, o, W, W', w, l, hW, hc, h => by
    rw [rowsL] at h
    split at h
    · rename_i vs hvs
      obtain ⟨x, W1, h1, h2⟩ := bind_some h
      obtain ⟨l', W2, h3, h4⟩ := bind_some h2
      cases h4
      obtain ⟨t1, t2, t3⟩ := takeL_some hvs
      let a : Array Value := ((List.range c.n).map fun i => ((ρ.pr b (o + i)).getD none).getD undef).toArray
      have ha : ∀ i, i < c.n → a.getD i undef = ((ρ.pr b (o + i)).getD none).getD undef := by
        intro i hi
        simp [a, Array.getD, hi]
      have hp : ∀ i, i < c.n → ρ.pr b (o + i) = some (some (a.getD i undef)) := by
        intro i hi
        obtain ⟨y, e1, -⟩ := hc i (by omega)
        rw [ha i hi, e1]; rfl
      obtain ⟨-, hx⟩ := hf (a := a) (o := 0) hW (fun i hi => by
        have hi' : i < c.n := by omega
        obtain ⟨y, e1, e2⟩ := hc i (by omega)
        rw [Nat.zero_add, ha i hi', e1, t3 i hi (by omega)]
        exact e2) h1
      refine hx.bind fun ρ1 hl1 hW1 hA => ?_
      refine (rowsL_sound hf n (cs.drop c.n) (b := b) (o := o + c.n) hW1 (fun i hi => ?_) h3).mono fun ρ2 hl2 ⟨hn, hr⟩ => ⟨by simp [hn], fun i hi => ?_⟩
      · have hi' : c.n + i < cs.length := by rw [List.length_drop] at hi; omega
        obtain ⟨y, e1, e2⟩ := hc (c.n + i) hi'
        refine ⟨y, ?_, ?_⟩
        · have := hl1.pr _ _ _ e1
          rw [show o + c.n + i = o + (c.n + i) by omega]; exact this
        · rw [List.getElem_drop]; exact e2.le hl1
      · cases i with
        | zero =>
          refine Tys.At.rd (hA.mono hl2.pr) fun j hj => ?_
          have := hl2.pr _ _ _ (hl1.pr _ _ _ (hp j hj))
          simpa using this
        | succ i =>
          have := hr i (by simpa using hi)
          rw [show o + (i + 1) * c.n = o + c.n + i * c.n by rw [Nat.add_mul]; omega]
          exact this
    · cases h
theorem capK_le {c : Nat} (h : c < big) : capK c = c := by unfold capK; rw [if_pos h]
theorem capK_big {c : Nat} : capK (big + c) = c := by unfold capK; rw [if_neg (by omega)]; omega
theorem sliceR_sound {c : Tys} {f : List Value → Tw → Option (c.D × Tw)}
    (hf : ∀ {ρ : Ren} {vs : List Value} {a : Array Value} {o : Nat} {W W' : Tw} {w : World} {x : c.D}, WR w0 ρ W w → (∀ i (h : i < vs.length), VR ρ vs[i] (a.getD (o + i) undef)) → f vs W = some (x, W') → vs.length = c.n ∧ Fz w0 ρ W w W' fun ρ' => c.At ρ'.pr x a o)
    {ρ : Ren} {y : Value} {W W' : Tw} {w : World} {n o l cap : Nat} {x : List c.D} (hW : WR w0 ρ W w) (hv : VR ρ (.slice (some ⟨n, o, none⟩) l cap) y) (h : sliceR f c.n n o l cap W = some (x, W')) : Fz w0 ρ W w W' fun ρ' => (Ty.sl c).Rd ρ'.pr x y := by
  unfold sliceR at h
  split at h
  · rename_i hcap
    have hcap' := Nat.le_of_ble_eq_true hcap
    obtain ⟨u, W1, h1, h2⟩ := bind_some h
    obtain ⟨r, W2, h3, h4⟩ := bind_some h2
    obtain ⟨hg, rfl⟩ := look_some h3
    simp only at h4
    split at h4
    · rename_i ho0
      have ho := isV_some ho0
      have hyy : ∃ c', l ≤ c' ∧ y = .slice (some ⟨ρ.b n, ρ.s n + o, none⟩) l c' := by
        cases hv with
        | sl a _ _ hd hb => rw [capK_le hb] at hcap'; exact ⟨cap, hcap', rfl⟩
        | slo a _ c' hd he => rw [capK_big] at hcap'; exact ⟨c' + ρ.x n, by omega, rfl⟩
      obtain ⟨c', hc1, rfl⟩ := hyy
      obtain ⟨pr', g1, g2, g3, g4, -⟩ := shutT_sound hW h1
      have hel := (g2.row _ _ hg).el ho
      have hfz : Fz w0 ρ W w (W1.read n) fun ρ' => ρ' = { ρ with pr := pr' } := ⟨pr', g1, g2.read n, g3, g4, rfl⟩
      refine hfz.bind fun ρ1 hl1 hW1 he => ?_
      subst he
      refine (rowsL_sound (c := c) hf l (r.cs.drop o) (b := ρ.b n) (o := ρ.s n + o) hW1 (fun i hi => ?_) h4).mono fun ρ2 hl2 ⟨k1, k2⟩ => ?_
      · have hi' : o + i < r.cs.length := by rw [List.length_drop] at hi; omega
        obtain ⟨y, e1, e2⟩ := hel (o + i) hi'
        refine ⟨y, ?_, by rw [List.getElem_drop]; exact e2⟩
        rw [show ρ.s n + o + i = ρ.s n + (o + i) by omega]
        exact e1
      · refine sl_rd.2 ⟨_, c', ?_, by omega, .inr ⟨_, _, rfl, k2⟩⟩
        rw [k1]
    · cases h4
  · cases h
mutual
theorem argV_sound : ∀ (t : Ty) {ρ : Ren} {v y : Value} {W W' : Tw} {w : World} {x : t.D}, WR w0 ρ W w → VR ρ v y → argV t v W = some (x, W') → Fz w0 ρ W w W' fun ρ' => t.Rd ρ'.pr x y
  | .int k, ρ, v, y, W, W', w, x, hW, hv, h => by unfold argV at h; exact castP_sound hW hv h
  | .bool, ρ, v, y, W, W', w, x, hW, hv, h => by unfold argV at h; exact castP_sound hW hv h
  | .str, ρ, v, y, W, W', w, x, hW, hv, h => by unfold argV at h; exact castP_sound hW hv h
  | .sl c, ρ, v, y, W, W', w, x, hW, hv, h => by
    unfold argV at h
    have h' : slV (argC c) c.n (castP (.sl c)) v W = some (x, W') := h
    unfold slV at h'
    split at h'
    · cases h'
      cases hv
      exact .refl hW nil_rd
    · exact sliceR_sound (fun hW hv h => argC_sound c hW hv h) hW hv h'
    · rename_i n
      obtain ⟨u, W1, h1, h2⟩ := bind_some h'
      exact (shutT_sound hW h1).bind fun ρ1 hl1 hW1 _ => castP_sound hW1 (hv.le hl1) h2
    · cases h'
theorem argC_sound : ∀ (c : Tys) {ρ : Ren} {vs : List Value} {a : Array Value} {o : Nat} {W W' : Tw} {w : World} {x : c.D}, WR w0 ρ W w → (∀ i (h : i < vs.length), VR ρ vs[i] (a.getD (o + i) undef)) → argC c vs W = some (x, W') → vs.length = c.n ∧ Fz w0 ρ W w W' fun ρ' => c.At ρ'.pr x a o
  | .one t, ρ, vs, a, o, W, W', w, x, hW, hv, h => by
    unfold argC at h
    match vs, hv, h with
    | [], hv, h => cases h
    | [v], hv, h => exact ⟨rfl, argV_sound t hW (hv 0 (by simp)) h⟩
    | _ :: _ :: _, hv, h => cases h
  | .cons t r, ρ, vs, a, o, W, W', w, x, hW, hv, h => by
    unfold argC at h
    match vs, hv, h with
    | [], hv, h => cases h
    | v :: vs, hv, h =>
      obtain ⟨p, W1, h1, h2⟩ := bind_some h
      obtain ⟨q, W2, h3, h4⟩ := bind_some h2
      cases h4
      have s1 := argV_sound t hW (hv 0 (by simp)) h1
      have hvt : ∀ ρ1, ρ.le ρ1 → ∀ i (h : i < vs.length), VR ρ1 vs[i] (a.getD (o + 1 + i) undef) := fun ρ1 hl1 i hi => by
        have := hv (i + 1) (by simpa using hi)
        rw [show o + 1 + i = o + (i + 1) by omega]
        simpa using this.le hl1
      have hlen : vs.length = r.n := by
        obtain ⟨p1, hl1, hW1, -⟩ := s1
        exact (argC_sound r (a := a) (o := o + 1) hW1 (hvt _ (Ren.le_pr hl1)) h3).1
      refine ⟨by simp [Tys.n, hlen], s1.bind fun ρ1 hl1 hW1 hp => ?_⟩
      refine (argC_sound r (a := a) (o := o + 1) hW1 (hvt ρ1 hl1) h3).2.mono fun ρ2 hl2 hq => ?_
      exact ⟨Ty.Rd.mono hl2.pr t hp, hq⟩
end
end
end Mo

namespace Mo
open Go

/-! ## Rows of one's own, told as lists -/
def AtL (pr : Pt) (c : Tys) (l : List c.D) (a : Array Value) (o : Nat) : Prop := ∀ i (h : i < List.length l), c.At pr (List.get l ⟨i, h⟩) a (o + i * c.n)
theorem Tys.At.congr {pr : Pt} {a a' : Array Value} : ∀ {c : Tys} {x : c.D} {o o' : Nat}, c.At pr x a o → (∀ j, j < c.n → a'.getD (o' + j) undef = a.getD (o + j) undef) → c.At pr x a' o'
  | .one t, x, o, o', h, hh => by
    have := hh 0 (by simp [Tys.n])
    show t.Rd pr x (a'.getD o' undef)
    rw [show o' = o' + 0 by omega, this]
    exact h
  | .cons t r, x, o, o', h, hh => by
    refine ⟨?_, Tys.At.congr h.2 fun j hj => ?_⟩
    · have := hh 0 (by simp [Tys.n])
      rw [show o' = o' + 0 by omega, this]
      exact h.1
    · have := hh (j + 1) (by simp [Tys.n]; omega)
      rw [show o' + 1 + j = o' + (j + 1) by omega, show o + 1 + j = o + (j + 1) by omega]
      exact this
theorem row_lt {i n z : Nat} (h : i < n) {j : Nat} (hj : j < z) : i * z + j < n * z := by
  have : (i + 1) * z ≤ n * z := Nat.mul_le_mul_right _ h
  rw [Nat.add_mul, Nat.one_mul] at this
  omega
theorem AtL.congr {pr : Pt} {a a' : Array Value} {c : Tys} {l : List c.D} {o o' : Nat} (h : AtL pr c l a o) (hh : ∀ j, j < List.length l * c.n → a'.getD (o' + j) undef = a.getD (o + j) undef) : AtL pr c l a' o' := fun i hi =>
  (h i hi).congr fun j hj => by
    have := hh (i * c.n + j) (row_lt hi hj)
    rw [show o' + i * c.n + j = o' + (i * c.n + j) by omega, show o + i * c.n + j = o + (i * c.n + j) by omega]
    exact this
theorem AtL.mono {p q : Pt} (h : Pt.le p q) {c : Tys} {l : List c.D} {a : Array Value} {o : Nat} (hr : AtL p c l a o) : AtL q c l a o := fun i hi => (hr i hi).mono h
theorem AtL.append {pr : Pt} {c : Tys} {l k : List c.D} {a : Array Value} {o : Nat} (h : AtL pr c l a o) (h' : AtL pr c k a (o + List.length l * c.n)) : AtL pr c (l ++ k) a o := fun i hi => by
  by_cases hl : i < List.length l
  · have := h i hl
    have e : List.get (l ++ k) ⟨i, hi⟩ = List.get l ⟨i, hl⟩ := List.getElem_append_left hl
    rw [e]; exact this
  · have hi' : i - List.length l < List.length k := by
      have := hi
      rw [List.length_append] at this
      omega
    have := h' (i - List.length l) hi'
    have e : List.get (l ++ k) ⟨i, hi⟩ = List.get k ⟨i - List.length l, hi'⟩ := List.getElem_append_right (by omega)
    rw [e]
    have e2 : o + i * c.n = o + List.length l * c.n + (i - List.length l) * c.n := by
      rw [Nat.add_assoc, ← Nat.add_mul]
      congr 2; omega
    rw [e2]; exact this
abbrev rowL (c : Tys) (l : List c.D) (e : TypeId) : Row := ⟨[], e, false, 0, some (.l c l)⟩
section
variable {P : Program} {w0 : Bs} {ρ : Ren}
theorem RR.mkl {n : Nat} {c : Tys} {l : List c.D} {e : TypeId} {w : World} (h : ∃ a lo hi, w.heap[ρ.b n]? = some (.cells a e (lo, hi)) ∧ (lo = hi ∨ a.size ≤ lo) ∧ ρ.z n = c.n ∧ ρ.L n = List.length l ∧ a.size = ρ.s n + (List.length l + ρ.x n) * c.n ∧
    AtL ρ.pr c l a (ρ.s n) ∧ ∀ y, ρ.m n y → y = .slice (some ⟨ρ.b n, ρ.s n, none⟩) (List.length l) (List.length l + ρ.x n)) : RR ρ n (rowL c l e) w :=
  ⟨fun h => (by cases h), fun _ h => (by cases h), fun _ h1 => (by cases h1), fun _ _ h1 => (by cases h1; exact h), fun h => (by cases h), fun _ _ _ _ h => (by cases h)⟩
theorem phys_l {c : Tys} {l : List c.D} {e : TypeId} : (rowL c l e).phys := trivial
/-- A block gets the name of a row of one's own. -/
theorem own_name {W W' : Tw} {w w' : World} {b s X : Nat} {c : Tys} {l : List c.D} {e : TypeId} {n : Nat} {a : Array Value} {lo hi : Nat} (h : WR w0 ρ W w) (hlay : W.lay (rowL c l e) = some (n, W')) (hb : ∀ m r, W.get m = some r → r.phys → ρ.b m ≠ b) (hb0 : w0.may b) (hpr : ∀ k, ρ.pr b k = none)
    (ha : w'.heap[b]? = some (.cells a e (lo, hi))) (hf : lo = hi ∨ a.size ≤ lo) (hsz : a.size = s + (List.length l + X) * c.n) (hat : AtL ρ.pr c l a s)
    (hh : ∀ k, k < w.heap.size → k ≠ b → w'.heap[k]? = w.heap[k]?) (hs : w.heap.size ≤ w'.heap.size) (hos : w'.os = w.os) (ht : w'.tape = w.tape) (ho : w'.output = w.output) :
    Nxt w0 ρ W w W' w' fun ρ2 => VR ρ2 (.chan (some n)) (.slice (some ⟨b, s, none⟩) (List.length l) (List.length l + X)) := by
  have hlt0 := lay_lt hlay
  obtain ⟨hx, hn, rfl⟩ := lay_some hlay
  subst hn
  have hlt : W.nx < D0 := by unfold D0; omega
  let M : Value → Prop := fun y => y = .slice (some ⟨b, s, none⟩) (List.length l) (List.length l + X)
  have hle := Ren.le_exm (ρ := ρ) (n := W.nx) (b := b) (s := s) (L := List.length l) (x := X) (z := c.n) (M := M) (h.free W.nx (Nat.le_refl _) hx)
  refine ⟨ρ.exm W.nx b s (List.length l) X c.n M, hle, fun k hk => ?_, ?_, ?_, Nat.le_succ _, rfl⟩
  · rcases hk with hk | hk
    · exact .inl hk
    · exact .inr ⟨by omega, by show k < W.nx + 1; omega⟩
  · refine WR.wrote ?_ _
    refine h.nameM (fun _ => hb) (fun _ => hb0) (fun _ => hpr) (RR.mkl ⟨a, lo, hi, ?_, hf, ?_, ?_, ?_, ?_, ?_⟩) (fun k h1 h2 => hh k h1 (h2 phys_l)) hs hos ht ho hx
    · simpa [Ren.exm] using ha
    · simp [Ren.exm]
    · simp [Ren.exm]
    · simpa [Ren.exm] using hsz
    · have e1 : (ρ.exm W.nx b s (List.length l) X c.n M).s W.nx = s := by simp [Ren.exm]
      rw [e1]; exact hat
    · intro y hy
      have e1 : (ρ.exm W.nx b s (List.length l) X c.n M).s W.nx = s := by simp [Ren.exm]
      have e2 : (ρ.exm W.nx b s (List.length l) X c.n M).b W.nx = b := by simp [Ren.exm]
      have e3 : (ρ.exm W.nx b s (List.length l) X c.n M).x W.nx = X := by simp [Ren.exm]
      have e4 : (ρ.exm W.nx b s (List.length l) X c.n M).m W.nx = M := by simp [Ren.exm, hlt]
      rw [e4] at hy
      rw [e1, e2, e3]; exact hy
  · refine .sym _ _ (.inr rfl) ?_ rfl
    have e4 : (ρ.exm W.nx b s (List.length l) X c.n M).m W.nx = M := by simp [Ren.exm, hlt]
    rw [e4]
/-- A new block of one's own. -/
theorem own_new {W W' : Tw} {w : World} {c : Tys} {l : List c.D} {e : TypeId} {n cap : Nat} {us : List Value} {zc : Array Value} (h : WR w0 ρ W w) (hlay : W.lay (rowL c l e) = some (n, W')) (hz : 0 < zc.size → zc.size = c.n) (hz0 : zc.size = c.n) (hus : us.length = List.length l * c.n) (hat : AtL ρ.pr c l us.toArray 0) (hcap : List.length l ≤ cap) :
    Nxt w0 ρ W w W' (w.alloc (.cells (us.toArray ++ Builtin.zeroCells zc (cap - List.length l)) e)) fun ρ2 => VR ρ2 (.chan (some n)) (.slice (some ⟨w.heap.size, 0, none⟩) (List.length l) cap) := by
  have hsz : (us.toArray ++ Builtin.zeroCells zc (cap - List.length l)).size = 0 + (List.length l + (cap - List.length l)) * c.n := by
    simp [Builtin.zeroCells, hz0, hus, Nat.add_mul]
  have := own_name (b := w.heap.size) (s := 0) (X := cap - List.length l) (w' := w.alloc (.cells (us.toArray ++ Builtin.zeroCells zc (cap - List.length l)) e)) (lo := 0) (hi := 0) h hlay h.fresh h.freshm h.freshp (by
      show (w.heap.push _)[_]? = _
      simp) (.inl rfl) hsz (hat.congr fun j hj => by
      rw [Array.getD_eq_getD_getElem?, Array.getD_eq_getD_getElem?, Array.getElem?_append_left (by simp; omega)]) (fun k hk hne => by
      show (w.heap.push _)[_]? = _
      rw [Array.getElem?_push, if_neg (by omega)]) (by show w.heap.size ≤ (w.heap.push _).size; simp) rfl rfl rfl
  rw [show List.length l + (cap - List.length l) = cap by omega] at this
  exact this
/-- A row of one's own is given up: its block stays as it is, and nobody has it. -/
theorem own_free {W : Tw} {w : World} (h : WR w0 ρ W w) {n : Nat} {r : Row} (hg : W.get n = some r) (hp : r.phys) : WR w0 ρ ((W.set n none).wrote n) w ∧ (∀ m q, ((W.set n none).wrote n).get m = some q → q.phys → ρ.b m ≠ ρ.b n) := by
  have hlt := Tw.get_lt hg
  refine ⟨(h.die hlt).wrote n, fun m q hm hph => ?_⟩
  have hm2 : (W.set n none).get m = some q := hm
  rw [Tw.get_set W hlt] at hm2
  split at hm2
  · cases hm2
  · rename_i hne; exact h.sep _ _ _ _ hm2 hg hph hp hne
/-- append onto a block of one's own. -/
theorem own_app {W W' : Tw} {w : World} {n m : Nat} {r : Row} {c : Tys} {olds news : List c.D} {e t tx ty : TypeId} {i : TypeInfo} {zv : Value} {cA : Array Value} {lo hi S X : Nat} {x' : Value} {us : List Value} (h : WR w0 ρ W w) (hg : W.get n = some r) (hp : r.phys)
    (ht : P.underlying t = some (.slice e)) (hi' : P.info? e = some i) (hz : i.zero = some zv) (hzs : zv.cells.size = i.size) (hc : i.size = c.n)
    (m1 : w.heap[ρ.b n]? = some (.cells cA e (lo, hi))) (m2 : lo = hi ∨ cA.size ≤ lo) (m3 : cA.size = S + (List.length olds + X) * c.n) (hold : AtL ρ.pr c olds cA S)
    (hsrc : Src P i.size tx x' (List.length news) us w) (hnew : AtL ρ.pr c news us.toArray 0) (hb1 : List.length (olds ++ news) ≤ 1099511627776) (hb2 : List.length (olds ++ news) * i.bytes ≤ 140737488355328)
    (hlay : ((W.set n none).wrote n).lay (rowL c (olds ++ news) e) = some (m, W')) :
    ∃ y w', (Builtin.append_ #[t, tx] ty #[.slice (some ⟨ρ.b n, S, none⟩) (List.length olds) (List.length olds + X), x']).run P w = .ok y w' ∧ Nxt w0 ρ W w W' w' fun ρ2 => VR ρ2 (.chan (some m)) y := by
  obtain ⟨hW1, hfr⟩ := own_free h hg hp
  have hnl : us.length = List.length news * c.n := by rw [← hc]; exact hsrc.newsLen
  have hlen : List.length (olds ++ news) = List.length olds + List.length news := List.length_append
  have hmul : (List.length olds + X) * c.n = List.length olds * c.n + X * c.n := Nat.add_mul _ _ _
  have wrap : ∀ {y w'}, Nxt w0 ρ ((W.set n none).wrote n) w W' w' (fun ρ2 => VR ρ2 (.chan (some m)) y) → Nxt w0 ρ W w W' w' fun ρ2 => VR ρ2 (.chan (some m)) y := fun h => h
  by_cases hroom : List.length olds + List.length news ≤ List.length olds + X
  · have hmul2 : List.length news * c.n ≤ X * c.n := Nat.mul_le_mul_right _ (by omega)
    have hthere : ∀ o, o < cA.size → (w.cell? ⟨ρ.b n, o, none⟩).isSome = true ∧ w.frozen? ⟨ρ.b n, o, none⟩ = false := fun o hlt => ⟨by simp [World.cell?, m1, hlt], by
      simp only [World.frozen?, m1]
      simp only [Bool.and_eq_false_iff, decide_eq_false_iff_not]
      omega⟩
    have hrun : (Builtin.append_ #[t, tx] ty #[.slice (some ⟨ρ.b n, S, none⟩) (List.length olds) (List.length olds + X), x']).run P w = .ok (.slice (some ⟨ρ.b n, S, none⟩) (List.length olds + List.length news) (List.length olds + X)) (w.setCells (ρ.b n) (S + List.length olds * i.size) us) :=
      run_append_room_src w t tx ty e i ht hi' _ _ _ _ x' _ us hsrc hroom (fun j hj => (hthere _ (by rw [hc]; omega)).1) (fun j hj => (hthere _ (by rw [hc]; omega)).2)
    obtain ⟨r1, r2, r3, r4, r5⟩ := setCells_rest (ρ.b n) us (S + List.length olds * i.size) w
    refine ⟨_, _, hrun, wrap ?_⟩
    have key := own_name (b := ρ.b n) (s := S) (X := X - List.length news) (w' := w.setCells (ρ.b n) (S + List.length olds * i.size) us) hW1 hlay hfr (h.mine _ _ hg hp) (h.prd _ _ hg hp) (setCells_at (ρ.b n) us (S + List.length olds * i.size) w m1) (by rw [size_setA]; exact m2) (by
        rw [size_setA, m3, hlen]; congr 2; omega) (AtL.append (hold.congr fun j hj => by
          rw [getD_setA _ _ _ _ (by rw [hc]; omega), dif_neg (by rw [hc]; omega)]) (hnew.congr fun j hj => by
          rw [getD_setA _ _ _ _ (by rw [hc]; omega), dif_pos (by rw [hc]; omega)]
          have hj' : j < us.length := by omega
          have e1 : S + List.length olds * c.n + j - (S + List.length olds * i.size) = j := by rw [hc]; omega
          simp only [e1, Nat.zero_add]
          simp [Array.getD, hj'])) (fun k _ hne => r5 k hne) (by rw [r4]; exact Nat.le_refl _) r1 r2 r3
    rw [hlen, show List.length olds + List.length news + (X - List.length news) = List.length olds + X by omega] at key
    exact key
  · let oldu : List Value := (List.range (List.length olds * c.n)).map fun j => cA.getD (S + j) undef
    have hol : oldu.length = List.length olds * c.n := by simp [oldu]
    have hou : ∀ j (hj : j < oldu.length), oldu[j] = cA.getD (S + j) undef := fun j hj => by simp [oldu]
    have hfirst : (Builtin.firstCells i.size (List.length olds) (.slice (some ⟨ρ.b n, S, none⟩) (List.length olds) (List.length olds + X))).run P w.drew = .ok oldu.toArray w.drew := by
      refine run_firstCells_some w.drew i.size _ _ _ _ oldu (by rw [hol, hc]) fun j v hv => ?_
      obtain ⟨hj, rfl⟩ := List.getElem?_eq_some_iff.1 hv
      rw [hou j hj, add_none]
      have hj2 : S + j < cA.size := by rw [hol] at hj; omega
      have : w.heap[ρ.b n]? = some (.cells cA e (lo, hi)) := m1
      show World.cell? w.drew _ = _
      unfold World.cell?
      have e1 : w.drew.heap = w.heap := rfl
      simp only [e1, this]
      simp [Array.getD, hj2]
    have hg' := run_append_grow_src w t tx ty e i zv ht hi' hz (some ⟨ρ.b n, S, none⟩) (List.length olds) (List.length olds + X) oldu hfirst x' _ us hsrc (by omega) (by omega) (growslice_fits (by omega) (by rw [← hlen]; exact hb2))
    refine ⟨_, _, hg', wrap ?_⟩
    have hcap := grownCap_le w (need := List.length olds + List.length news) (old := List.length olds + X) (e := e)
    have key := own_new (cap := grownCap w (List.length olds + List.length news) (List.length olds + X) e) (us := oldu ++ us) (zc := zv.cells) hW1.drew hlay (fun _ => by rw [hzs, hc]) (by rw [hzs, hc]) (by rw [List.length_append, hol, hnl, hlen, Nat.add_mul]) (AtL.append (hold.congr fun j hj => by
        have hj' : j < (oldu ++ us).length := by rw [List.length_append]; omega
        have hjo : j < oldu.length := by omega
        rw [Nat.zero_add]
        have : (oldu ++ us).toArray.getD j undef = (oldu ++ us)[j] := by simp only [Array.getD, List.size_toArray, hj', dif_pos]; rfl
        rw [this, List.getElem_append_left hjo, hou j hjo]) (hnew.congr fun j hj => by
        have hj' : List.length olds * c.n + j < (oldu ++ us).length := by rw [List.length_append]; omega
        have hju : j < us.length := by omega
        have : (oldu ++ us).toArray.getD (0 + List.length olds * c.n + j) undef = (oldu ++ us)[List.length olds * c.n + j] := by
          rw [Nat.zero_add]
          simp only [Array.getD, List.size_toArray, hj', dif_pos]; rfl
        rw [this, List.getElem_append_right (by omega)]
        have e1 : List.length olds * c.n + j - oldu.length = j := by omega
        simp only [e1, Nat.zero_add]
        simp [Array.getD, hju])) (by rw [hlen]; exact hcap)
    rw [hlen] at key
    exact key
end
end Mo

namespace Mo
open Go

/-! ## append, where something is a symbol -/
noncomputable def isStr (P : Program) (t : TypeId) : Bool := match P.underlying t with
  | some .string => true
  | _ => false
/-- The cells of what is appended. -/
noncomputable def tyO (x : Value) (W : Tw) : Option (Tys × Tw) := match x with
  | .chan (some n) => (W.look n).bind fun p => (match p.1.ob with
    | some (.p ⟨.sl c, _⟩) => some c
    | some (.l c _) => some c
    | some (.p ⟨.str, _⟩) => some (.one (.int .u8))
    | _ => none).map fun c => (c, p.2)
  | _ => none
theorem Local.tyO (x : Value) : Local (Mo.tyO x) := by
  unfold Mo.tyO
  split
  · exact Local.map (Local.look _) fun r => match r.ob with
    | some (.p ⟨.sl c, _⟩) => some c
    | some (.l c _) => some c
    | some (.p ⟨.str, _⟩) => some (.one (.int .u8))
    | _ => none
  · exact Local.fails
noncomputable def bytI (s : List UInt8) : List Int := s.map fun b => ((b.toNat : Nat) : Int)
/-- What is appended. -/
noncomputable def srcO (str : Bool) (c : Tys) (x : Value) (W : Tw) : Option (List c.D × Tw) := match str with
  | false => argV (.sl c) x W
  | true => (payT x W).bind fun p => ((castT p.1 .str).bind fun s => castL (.one (.int .u8)) c (bytI s)).map fun l => (l, p.2)
theorem Local.srcO (str : Bool) (c : Tys) (x : Value) : Local (Mo.srcO str c x) := by
  unfold Mo.srcO
  cases str with
  | false => exact Local.argV (.sl c) x
  | true => exact Local.map (Local.payT x) fun p => (castT p .str).bind fun s => castL (.one (.int .u8)) c (bytI s)
noncomputable def appB (n b : Nat) : Bool := Nat.ble n 1099511627776 && Nat.ble (n * b) 140737488355328
/-- A row of one's own gives its block to another one. -/
noncomputable def killO (n : Nat) (W : Tw) : Option (Unit × Tw) := W.upd n fun r => match r.ob with
  | none => some none
  | some (.l _ _) => some none
  | _ => none
noncomputable def newA (c : Tys) (l : List c.D) (e : TypeId) (W : Tw) : Option (Next × Tw) := (W.lay (rowL c l e)).bind fun p => some (.value (.chan (some p.1)), p.2)
noncomputable def ownA (n : Nat) (c : Tys) (l : List c.D) (e : TypeId) (W : Tw) : Option (Next × Tw) := (killO n W).bind fun p => newA c l e p.2
theorem Local.newA (c : Tys) (l : List c.D) (e : TypeId) : Local (Mo.newA c l e) := Local.bind (Local.lay _) fun n => Local.ret (Next.value (.chan (some n)))
theorem Local.ownA (n : Nat) (c : Tys) (l : List c.D) (e : TypeId) : Local (Mo.ownA n c l e) := Local.bind (G := fun (_ : Unit) W => Mo.newA c l e W) (Local.upd n _) fun _ => Local.newA c l e
noncomputable def appOwn (n : Nat) (c : Tys) (l k : List c.D) (e : TypeId) (b : Nat) : Alt := .br (appB (List.length (l ++ k)) b) (.act (ownA n c (l ++ k) e) (Local.ownA n c (l ++ k) e)) .fail
noncomputable def appNew (c : Tys) (k : List c.D) (e : TypeId) (b : Nat) : Alt := .br (Nat.beq (List.length k) 0) (.vl (.slice none 0 0)) (.br (appB (List.length k) b) (.act (newA c k e) (Local.newA c k e)) .fail)
/-- A row that may be appended to. -/
noncomputable def rowOk (r : Row) (e z o l cap : Nat) : Bool := Nat.beq r.elem e && Nat.ble l (capK cap) && Nat.beq (o + capK cap * z) r.cs.length && (if cap < big then !r.op else r.op && Nat.beq r.z z)
noncomputable def isL (e : TypeId) (c : Tys) (r : Row) : Option (List c.D) := match r.ob with
  | some (.l c' l) => if Nat.beq r.elem e then castL c' c l else none
  | _ => none
def isN : Option Ob → Bool
  | none => true
  | _ => false
/-- A slice with no room behind it. -/
noncomputable def isX (c : Tys) (r : Row) : Option (List c.D) := match r.ob with
  | some (.p ⟨.sl c', l⟩) => if r.op then castL c' c l else none
  | _ => none
noncomputable def appX (s : Value) (c : Tys) (l k : List c.D) (e : TypeId) (b : Nat) : Alt := .br (Nat.beq (List.length k) 0) (.vl s) (.br (appB (List.length (l ++ k)) b) (.act (newA c (l ++ k) e) (Local.newA c (l ++ k) e)) .fail)
noncomputable def appC (str : Bool) (e z b : Nat) (c : Tys) (s x : Value) (W : Tw) : Option (Alt × Tw) := match s with
  | .chan (some n) => (srcO str c x W).bind fun p => (Tw.look n p.2).bind fun r => (((isL e c r.1).map fun l => appOwn n c l p.1 e b).or ((isX c r.1).map fun l => appX (.chan (some n)) c l p.1 e b)).map fun a => (a, r.2)
  | .slice none 0 0 => (srcO str c x W).bind fun p => some (appNew c p.1 e b, p.2)
  | .slice (some ⟨n, o, none⟩) l cap => (srcO str c x W).bind fun p => (Tw.look n p.2).bind fun r => if isN r.1.ob && rowOk r.1 e z o l cap then (rowsL (argC c) c.n l (r.1.cs.drop o) r.2).bind fun q => some (appOwn n c q.1 p.1 e b, q.2) else none
  | _ => none
noncomputable def isCh : Value → Bool
  | .chan (some _) => true
  | _ => false
noncomputable def appendO (P : Program) (ats : Array TypeId) (s x : Value) (W : Tw) : Option (Alt × Tw) := match appInfo P ats, ats.toList with
  | some (e, i), [_, tx] => (tyO (if isCh s then s else x) W).bind fun q => if Nat.beq i.size q.1.n then appC (isStr P tx) e i.size i.bytes q.1 s x q.2 else none
  | _, _ => none
theorem Local.appC (str : Bool) (e z b : Nat) (c : Tys) (s x : Value) : Local (Mo.appC str e z b c s x) := by
  unfold Mo.appC
  split
  · rename_i n
    refine Local.bind (G := fun l W => (Tw.look n W).bind fun r => (((isL e c r.1).map fun k => appOwn n c k l e b).or ((isX c r.1).map fun k => appX (.chan (some n)) c k l e b)).map fun a => (a, r.2)) (Local.srcO str c x) fun l => ?_
    exact Local.map (Local.look n) fun r => ((isL e c r).map fun k => appOwn n c k l e b).or ((isX c r).map fun k => appX (.chan (some n)) c k l e b)
  · exact Local.bind (G := fun l W => some (appNew c l e b, W)) (Local.srcO str c x) fun l => Local.ret _
  · rename_i n o l cap
    refine Local.bind (G := fun k W => (Tw.look n W).bind fun r => if isN r.1.ob && rowOk r.1 e z o l cap then (Mo.rowsL (Mo.argC c) c.n l (r.1.cs.drop o) r.2).bind fun q => some (appOwn n c q.1 k e b, q.2) else none) (Local.srcO str c x) fun k => ?_
    refine Local.bind (G := fun (r : Row) W => if isN r.ob && rowOk r e z o l cap then (Mo.rowsL (Mo.argC c) c.n l (r.cs.drop o) W).bind fun q => some (appOwn n c q.1 k e b, q.2) else none) (Local.look n) fun r => ?_
    split
    · exact Local.bind (G := fun q W => some (appOwn n c q k e b, W)) (Local.rowsL (Local.argC c) _ _ _) fun q => Local.ret _
    · exact Local.fails
  · exact Local.fails
theorem Local.appendO (P : Program) (ats : Array TypeId) (s x : Value) : Local (Mo.appendO P ats s x) := by
  unfold Mo.appendO
  split
  · rename_i e i _ tx _ _
    refine Local.bind (G := fun c W => if Nat.beq i.size c.n then Mo.appC (isStr P tx) e i.size i.bytes c s x W else none) (Local.tyO _) fun c => ?_
    split
    · exact Local.appC _ _ _ _ _ _ _
    · exact Local.fails
  · exact Local.fails
section
variable {P : Program} {w0 : Bs} {ρ : Ren}
theorem castL_at {c d : Tys} {l : List c.D} {k : List d.D} (h : castL c d l = some k) : ∃ e : c = d, e ▸ l = k := by
  unfold castL at h
  split at h
  · rename_i hb
    cases h
    have := Tys.beq_eq hb
    subst this
    exact ⟨rfl, rfl⟩
  · cases h
theorem bytI_length (s : List UInt8) : (bytI s).length = s.length := by simp [bytI]
theorem RdL.basic {pr : Pt} : ∀ {l : List TV} {ys : List Value}, RdL pr l ys → ∀ u ∈ ys, basicV u = true
  | [], [], _, u, hu => absurd hu (by simp)
  | t :: r, y :: s, h, u, hu => by
    rcases List.mem_cons.1 hu with rfl | hu
    · exact TV.Rd.basic h.1
    · exact RdL.basic h.2 u hu
/-- The actual cells of a list that is read through protected cells. -/
theorem sl_cells {pr : Pt} {c : Tys} : ∀ {l : List c.D} {b o : Nat}, (∀ i (h : i < List.length l), c.Rd pr (List.get l ⟨i, h⟩) b (o + i * c.n)) → ∃ us : List Value, us.length = List.length l * c.n ∧ AtL pr c l us.toArray 0 ∧ (∀ j (h : j < us.length), pr b (o + j) = some (some us[j])) ∧ ∀ u ∈ us, basicV u = true
  | [], b, o, h => ⟨[], by simp, fun i hi => absurd hi (Nat.not_lt_zero _), fun j hj => absurd hj (by simp), fun u hu => absurd hu (by simp)⟩
  | x :: r, b, o, h => by
    have h0 := h 0 (by simp)
    obtain ⟨ys, k1, k2, k3⟩ := (show c.Rd pr x b o by simpa using h0).cells
    obtain ⟨us, m1, m2, m3, m4⟩ := sl_cells (l := r) (b := b) (o := o + c.n) fun i hi => by
      have := h (i + 1) (by simpa using hi)
      rw [show o + (i + 1) * c.n = o + c.n + i * c.n by rw [Nat.add_mul]; omega] at this
      exact this
    have hx : c.At pr x ys.toArray 0 := by
      have key : ∀ {c : Tys} {x : c.D} {ys : List Value} {k : Nat} {zs : List Value}, RdL pr (c.tvs x) ys → zs.length = k → c.At pr x (zs ++ ys).toArray k := by
        intro c
        induction c using Tys.rec (motive_1 := fun _ => True) with
        | int _ => trivial
        | bool => trivial
        | str => trivial
        | sl _ _ => trivial
        | one t _ =>
          intro x ys k zs h hk
          match ys, h with
          | [y], h =>
            have e : (zs ++ [y]).toArray.getD k undef = y := by simp [Array.getD, ← hk]
            show t.Rd pr x _
            rw [e]; exact h.1
        | cons t r _ ih =>
          intro x ys k zs h hk
          match ys, h with
          | y :: ys, h =>
            have e : (zs ++ y :: ys).toArray.getD k undef = y := by simp [Array.getD, ← hk]
            refine ⟨?_, ?_⟩
            · show t.Rd pr x.1 _
              rw [e]; exact h.1
            · have := ih (x := x.2) (ys := ys) (k := k + 1) (zs := zs ++ [y]) h.2 (by simp [hk])
              simpa using this
      have := key (zs := []) (k := 0) k1 rfl
      simpa using this
    refine ⟨ys ++ us, by simp [k2, m1, Nat.add_mul]; omega, ?_, fun j hj => ?_, fun u hu => ?_⟩
    · have hone : AtL pr c [x] (ys ++ us).toArray 0 := fun i hi => by
        have hi0 : i = 0 := by simpa using hi
        subst hi0
        have := hx.congr (a' := (ys ++ us).toArray) (o' := 0 + 0 * c.n) fun j hj => by
          have hj1 : j < ys.length := by omega
          have hj2 : j < ys.length + us.length := by omega
          simp [Array.getD, hj1, hj2, List.getElem_append_left hj1]
        exact this
      have := AtL.append (l := [x]) (k := r) hone (m2.congr fun j hj => by
        have hj1 : j < us.length := by omega
        have e1 : 0 + List.length [x] * c.n + j = ys.length + j := by simp [k2]
        rw [e1]
        have hj2 : ys.length + j < ys.length + us.length := by omega
        simp [Array.getD, hj1, hj2])
      exact this
    · by_cases hj1 : j < ys.length
      · rw [List.getElem_append_left hj1]; exact k3 j hj1
      · have hj2 : j - ys.length < us.length := by rw [List.length_append] at hj; omega
        rw [List.getElem_append_right (by omega)]
        have := m3 (j - ys.length) hj2
        rw [show o + c.n + (j - ys.length) = o + j by omega] at this
        exact this
    · rcases List.mem_append.1 hu with hu | hu
      · exact k1.basic u hu
      · exact m4 u hu
theorem one_basic {u : Value} (h : basicV u = true) : u.oneCell' = true := by
  cases u <;> first | (cases h; done) | rfl
theorem rd_mk {pr : Pt} {k : IntKind} {z : (Ty.int k).D} {v : Value} (h : v = .int k z) : (Ty.int k).Rd pr z v := by
  unfold Ty.Rd
  exact h
theorem str_src {tx : TypeId} {w : World} (hu : P.underlying tx = some .string) (s : List UInt8) : Src P 1 tx (.string ⟨⟨s⟩⟩) (bytI s).length (byteCells ⟨⟨s⟩⟩) w := by
  rw [show (bytI s).length = (⟨⟨s⟩⟩ : ByteArray).size from bytI_length s]
  exact Src.ofString (P := P) w hu ⟨⟨s⟩⟩
theorem str_at {pr : Pt} (s : List UInt8) : AtL pr (.one (.int .u8)) (bytI s) (byteCells ⟨⟨s⟩⟩).toArray 0 := fun i hi => by
  have hi' : i < s.length := by
    have : i < (bytI s).length := hi
    rwa [bytI_length] at this
  have e1 : List.get (bytI s) ⟨i, hi⟩ = (((s[i]'hi').toNat : Nat) : Int) := by
    show (bytI s)[i] = _
    simp [bytI]
  have e2 : (byteCells ⟨⟨s⟩⟩).toArray.getD (0 + i * 1) undef = .int .u8 (((s[i]'hi').toNat : Nat) : Int) := by
    simp [byteCells, Array.getD, hi']
  refine rd_mk (k := .u8) ?_
  exact e2.trans (congrArg _ e1.symm)
theorem srcO_sound {c : Tys} {x y : Value} {W W' : Tw} {w : World} {l : List c.D} {tx : TypeId} (hW : WR w0 ρ W w) (hx : VR ρ x y) (hk : (∃ e', P.underlying tx = some (.slice e')) ∨ P.underlying tx = some .string) (h : srcO (isStr P tx) c x W = some (l, W')) :
    Fz w0 ρ W w W' fun ρ' => ∃ us, Src P c.n tx y (List.length l) us w ∧ AtL ρ'.pr c l us.toArray 0 := by
  cases hs : isStr P tx with
  | false =>
    rw [hs] at h
    have h' : argV (.sl c) x W = some (l, W') := h
    obtain ⟨e', he⟩ : ∃ e', P.underlying tx = some (.slice e') := by
      rcases hk with hk | hk
      · exact hk
      · unfold isStr at hs; rw [hk] at hs; cases hs
    have hrd := argV_sound (.sl c) hW hx h'
    obtain ⟨pr', k1, k2, k3, k4, k5⟩ := hrd
    refine ⟨pr', k1, k2, k3, k4, ?_⟩
    obtain ⟨a, cap, rfl, h4, h5⟩ := sl_rd.1 k5
    rcases h5 with ⟨rfl, h5⟩ | ⟨b, off, rfl, h5⟩
    · have h5' : List.length l = 0 := h5.1
      have h6 := h5.2
      subst h6
      refine ⟨[], ?_, fun i hi => absurd hi (by omega)⟩
      rw [h5']
      exact Src.ofNil w he 0
    · obtain ⟨us, m1, m2, m3, m4⟩ := sl_cells h5
      refine ⟨us, Src.ofSlice w he _ _ _ us m1 (fun j u hu => ?_) fun u hu => one_basic (m4 u hu), m2⟩
      obtain ⟨hj, rfl⟩ := List.getElem?_eq_some_iff.1 hu
      obtain ⟨cs, e, mm, n1, n2⟩ := k2.prw _ _ _ (m3 j hj)
      rw [add_none]
      unfold World.cell?
      simp only [n1]
      exact n2
  | true =>
    rw [hs] at h
    obtain ⟨p, W1, h1, h2⟩ := bind_some h
    obtain ⟨k1, k2, k3, k4⟩ := payT_sound hW hx h1
    cases hp : castT p .str with
    | none => simp only [hp] at h2; cases h2
    | some s =>
      simp only [hp, Option.bind_some] at h2
      cases hl : castL (.one (.int .u8)) c (bytI s) with
      | none => rw [hl] at h2; cases h2
      | some k =>
        rw [hl] at h2
        cases h2
        obtain ⟨e, he⟩ := castL_at hl
        subst e
        have he' : bytI s = l := he
        subst he'
        have hy : y = .string ⟨⟨s⟩⟩ := by
          have := castT_rd hp k1
          unfold Ty.Rd at this
          exact this
        have hu : P.underlying tx = some .string := by
          unfold isStr at hs
          split at hs
          · assumption
          · cases hs
        rw [hy]
        exact ⟨ρ.pr, .rfl', k2, k3, k4, byteCells ⟨⟨s⟩⟩, str_src hu s, str_at s⟩
theorem rowsA_sound {c : Tys} : ∀ (n : Nat) (cs : List Value) {ρ : Ren} {a : Array Value} {o : Nat} {W W' : Tw} {w : World} {l : List c.D}, WR w0 ρ W w → (∀ i (h : i < cs.length), VR ρ cs[i] (a.getD (o + i) undef)) → rowsL (argC c) c.n n cs W = some (l, W') →
      Fz w0 ρ W w W' fun ρ' => List.length l = n ∧ AtL ρ'.pr c l a o
  | 0, cs, ρ, a, o, W, W', w, l, hW, hc, h => by
    cases h
    exact .refl hW ⟨rfl, fun i h => absurd h (Nat.not_lt_zero _)⟩
  | n + 1, cs, ρ, a, o, W, W', w, l, hW, hc, h => by
    rw [rowsL] at h
    split at h
    · rename_i vs hvs
      obtain ⟨x, W1, h1, h2⟩ := bind_some h
      obtain ⟨l', W2, h3, h4⟩ := bind_some h2
      cases h4
      obtain ⟨t1, t2, t3⟩ := takeL_some hvs
      obtain ⟨-, hx⟩ := argC_sound c (a := a) (o := o) hW (fun i hi => by
        rw [t3 i hi (by omega)]; exact hc i (by omega)) h1
      refine hx.bind fun ρ1 hl1 hW1 hA => ?_
      refine (rowsA_sound n (cs.drop c.n) (a := a) (o := o + c.n) hW1 (fun i hi => ?_) h3).mono fun ρ2 hl2 ⟨hn, hr⟩ => ⟨by simp [hn], ?_⟩
      · have hi' : c.n + i < cs.length := by rw [List.length_drop] at hi; omega
        rw [List.getElem_drop, show o + c.n + i = o + (c.n + i) by omega]
        exact (hc _ hi').le hl1
      · have h1 : AtL ρ2.pr c [x] a o := fun i hi => by
          have hi0 : i = 0 := by simpa using hi
          subst hi0
          have := hA.mono hl2.pr
          simpa using this
        have := AtL.append (l := [x]) (k := l') h1 (by simpa using hr)
        exact this
    · cases h
theorem killO_some {n : Nat} {W W' : Tw} {u : Unit} (h : killO n W = some (u, W')) : ∃ r, W.get n = some r ∧ r.phys ∧ W' = (W.set n none).wrote n := by
  obtain ⟨r, q, h1, h2, h3⟩ := upd_some h
  refine ⟨r, h1, ?_, ?_⟩
  · unfold Row.phys
    split at h2
    · rename_i ho; rw [ho]; trivial
    · rename_i ho; rw [ho]; trivial
    · cases h2
  · split at h2
    · cases h2; exact h3
    · cases h2; exact h3
    · cases h2
theorem isN_some {o : Option Ob} (h : isN o = true) : o = none := by
  unfold isN at h
  split at h
  · rfl
  · cases h
/-- What a term of Next's is, by what it does. -/
def Does (P : Program) (w : World) (s : Sem Value) (t : Sem Next) : Prop := ∀ y w', s.run P w = .ok y w' → t.run P w = .ok (.value y) w'
theorem appB_some {n b : Nat} (h : appB n b = true) : n ≤ 1099511627776 ∧ n * b ≤ 140737488355328 := by
  unfold appB at h
  rw [Bool.and_eq_true] at h
  exact ⟨Nat.le_of_ble_eq_true h.1, Nat.le_of_ble_eq_true h.2⟩
theorem appOwn_sound {W : Tw} {w : World} {n : Nat} {r : Row} {c : Tys} {olds news : List c.D} {e t tx ty : TypeId} {i : TypeInfo} {zv : Value} {cA : Array Value} {lo hi S X : Nat} {x' : Value} {us : List Value} {sem : Sem Next} (h : WR w0 ρ W w) (hg : W.get n = some r)
    (ht : P.underlying t = some (.slice e)) (hi' : P.info? e = some i) (hz : i.zero = some zv) (hzs : zv.cells.size = i.size) (hc : i.size = c.n)
    (m1 : w.heap[ρ.b n]? = some (.cells cA e (lo, hi))) (m2 : lo = hi ∨ cA.size ≤ lo) (m3 : cA.size = S + (List.length olds + X) * c.n) (hold : AtL ρ.pr c olds cA S)
    (hsrc : Src P i.size tx x' (List.length news) us w) (hnew : AtL ρ.pr c news us.toArray 0) (hd : Does P w (Builtin.append_ #[t, tx] ty #[.slice (some ⟨ρ.b n, S, none⟩) (List.length olds) (List.length olds + X), x']) sem) :
    AltS P w0 ρ W w (appOwn n c olds news e i.bytes) sem := by
  refine AltS.br (fun hb => AltS.act fun nx W' hr => ?_) fun _ => AltS.fail
  obtain ⟨hb1, hb2⟩ := appB_some hb
  obtain ⟨u, W1, h1, h2⟩ := bind_some hr
  obtain ⟨m, W2, h3, h4⟩ := bind_some h2
  cases h4
  obtain ⟨r', g1, g2, rfl⟩ := killO_some h1
  obtain ⟨y, w', k1, k2⟩ := own_app h g1 g2 ht hi' hz hzs hc m1 m2 m3 hold hsrc hnew hb1 hb2 h3
  exact ⟨_, w', hd y w' k1, k2.mono fun _ _ hv => .value hv⟩
theorem Fz.ofRead {W W' : Tw} {w : World} {n : Nat} {Q : Ren → Prop} (h : Fz w0 ρ (W.read n) w W' Q) : Fz w0 ρ W w W' Q := h
theorem isL_some {e : TypeId} {c : Tys} {r : Row} {l : List c.D} (h : isL e c r = some l) : r.ob = some (.l c l) ∧ r.elem = e := by
  unfold isL at h
  split at h
  · rename_i c' l' ho
    split at h
    · rename_i he
      obtain ⟨e1, e2⟩ := castL_at h
      subst e1
      have e2' : l' = l := e2
      subst e2'
      exact ⟨ho, Nat.eq_of_beq_eq_true he⟩
    · cases h
  · cases h
theorem isX_some {c : Tys} {r : Row} {l : List c.D} (h : isX c r = some l) : r.ob = some (.p ⟨.sl c, l⟩) ∧ r.op = true := by
  unfold isX at h
  split at h
  · rename_i c' l' ho
    split at h
    · rename_i he
      obtain ⟨e1, e2⟩ := castL_at h
      subst e1
      have e2' : l' = l := e2
      subst e2'
      exact ⟨ho, he⟩
    · cases h
  · cases h
theorem appC_sound {e t tx ty : TypeId} {i : TypeInfo} {zv : Value} (ht : P.underlying t = some (.slice e)) (hi' : P.info? e = some i) (hz : i.zero = some zv) (hzs : zv.cells.size = i.size) (hk : (∃ e', P.underlying tx = some (.slice e')) ∨ P.underlying tx = some .string)
    {c : Tys} (hc : i.size = c.n) {s x s' x' : Value} {W W1 : Tw} {w : World} {a : Alt} {sem : Sem Next} (hW : WR w0 ρ W w) (hs : VR ρ s s') (hx : VR ρ x x') (h : appC (isStr P tx) e i.size i.bytes c s x W = some (a, W1)) (hd : Does P w (Builtin.append_ #[t, tx] ty #[s', x']) sem) :
    Fz w0 ρ W w W1 fun ρ' => AltS P w0 ρ' W1 w a sem := by
  unfold appC at h
  split at h
  · rename_i n
    obtain ⟨k, W2, h1, h2⟩ := bind_some h
    obtain ⟨r, W3, h3, h4⟩ := bind_some h2
    obtain ⟨hg, rfl⟩ := look_some h3
    simp only at h4
    cases hl : isL e c r with
    | none =>
      rw [hl] at h4
      cases hlx : isX c r with
      | none => rw [hlx] at h4; cases h4
      | some l =>
        rw [hlx] at h4
        cases h4
        obtain ⟨ho, hop⟩ := isX_some hlx
        refine (srcO_sound hW hx hk h1).bind fun ρ1 hl1 hW2 ⟨us, hsrc, hnew⟩ => ?_
        have hs1 := hs.le hl1
        have hgl := Tw.get_lt hg
        have hm : ρ1.m n s' := by
          cases hs1 with
          | any y => simp [D0] at hgl
          | gho _ y hn hm => simp [D0] at hn; omega
          | sym _ y hd hm hb => exact hm
        obtain ⟨py1, py2, -⟩ := (hW2.row _ _ hg).py _ ho _ hm
        obtain ⟨ad, cap, rfl⟩ := py2 hop
        obtain ⟨ad', cap', he, hle, hrr⟩ := sl_rd.1 (show (Ty.sl c).Rd ρ1.pr l _ from py1)
        cases he
        rw [← hc] at hsrc
        have hWr := hW2.read n
        refine Fz.ofRead (n := n) (Fz.refl hWr ?_)
        refine AltS.br (fun hb => ?_) fun hb => AltS.br (fun hb2 => AltS.act fun nx W' hr => ?_) fun _ => AltS.fail
        · have hb' := Nat.eq_of_beq_eq_true hb
          rw [hb'] at hsrc
          have hrun : (Builtin.append_ #[t, tx] ty #[.slice ad (List.length l) (List.length l), x']).run P w = .ok (.slice ad (List.length l) (List.length l)) w := by
            have hst : ∀ (a : Addr), (storeCells a [] : Sem Unit).run P w = .ok () w := fun a => rfl
            rcases hsrc.kind with ⟨e', hk⟩ | hk <;> cases ad <;> simp [Builtin.append_, run_underlying ht, run_underlying hk, Go.sizeOf, typeInfo, hi', hsrc.len, hsrc.cells, hst, List.eq_nil_of_length_eq_zero (show us.length = 0 by rw [hsrc.newsLen]; simp)]
          exact AltS.vl hWr (hd _ _ hrun) hs1
        · have hk0 : List.length k ≠ 0 := fun h0 => by rw [h0] at hb; cases hb
          obtain ⟨hb1, hb3⟩ := appB_some hb2
          have hlen : List.length (l ++ k) = List.length l + List.length k := List.length_append
          obtain ⟨m, W4, h3, h4⟩ := bind_some hr
          cases h4
          have hol : ∃ olds : List Value, olds.length = List.length l * c.n ∧ AtL ρ1.pr c l olds.toArray 0 ∧ (Builtin.firstCells i.size (List.length l) (.slice ad (List.length l) (List.length l))).run P w.drew = .ok olds.toArray w.drew := by
            rcases hrr with ⟨rfl, h0⟩ | ⟨b, off, rfl, h5⟩
            · have h0' : List.length l = 0 := h0.1
              exact ⟨[], by simp [h0'], fun i hi => absurd hi (by omega), run_firstCells_none _ _ _ _ _⟩
            · obtain ⟨olds, m1, m2, m3, m4⟩ := sl_cells h5
              refine ⟨olds, m1, m2, run_firstCells_some w.drew i.size _ _ _ _ olds (by rw [m1, hc]) fun j v hv => ?_⟩
              obtain ⟨hj, rfl⟩ := List.getElem?_eq_some_iff.1 hv
              obtain ⟨cs, e, mm, n1, n2⟩ := hW2.prw _ _ _ (m3 j hj)
              rw [add_none]
              show World.cell? w.drew _ = _
              unfold World.cell?
              have e1 : w.drew.heap = w.heap := rfl
              simp only [e1, n1]
              exact n2
          obtain ⟨olds, o1, o2, o3⟩ := hol
          have hg' := run_append_grow_src w t tx ty e i zv ht hi' hz ad (List.length l) (List.length l) olds o3 x' _ us hsrc (by omega) (by omega) (growslice_fits (by omega) (by rw [← hlen]; exact hb3))
          refine ⟨_, _, hd _ _ hg', ?_⟩
          have hcap := grownCap_le w (need := List.length l + List.length k) (old := List.length l) (e := e)
          have hnl := hsrc.newsLen
          have key := own_new (cap := grownCap w (List.length l + List.length k) (List.length l) e) (us := olds ++ us) (zc := zv.cells) hWr.drew h3 (fun _ => by rw [hzs, hc]) (by rw [hzs, hc]) (by rw [List.length_append, o1, hnl, hlen, Nat.add_mul, hc]) (AtL.append (o2.congr fun j hj => by
              have hjo : j < olds.length := by omega
              have hj' : j < (olds ++ us).length := by rw [List.length_append]; omega
              simp only [Nat.zero_add]
              simp [Array.getD_eq_getD_getElem?, List.getElem?_append, hjo]) (hnew.congr fun j hj => by
              have hju : ¬ List.length l * c.n + j < olds.length := by omega
              simp only [Nat.zero_add]
              simp [Array.getD_eq_getD_getElem?, List.getElem?_append, o1]
              rw [if_neg (by omega)])) (by rw [hlen]; exact hcap)
          rw [hlen] at key
          exact key.mono fun _ _ hv => .value hv
    | some l =>
      rw [hl] at h4
      cases h4
      obtain ⟨ho, he⟩ := isL_some hl
      refine (srcO_sound hW hx hk h1).bind fun ρ1 hl1 hW2 ⟨us, hsrc, hnew⟩ => ?_
      obtain ⟨aA, lo, hi, m1, m2, m3, m4, m5, m6, m7⟩ := (hW2.row _ _ hg).ls _ _ ho
      have hs1 := hs.le hl1
      have hgl := Tw.get_lt hg
      have hs' : s' = .slice (some ⟨ρ1.b n, ρ1.s n, none⟩) (List.length l) (List.length l + ρ1.x n) := by
        cases hs1 with
        | any y => simp [D0] at hgl
        | gho _ y hn hm => simp [D0] at hn; omega
        | sym _ y hd hm hb => exact m7 _ hm
      rw [hs'] at hd
      have hWr := hW2.read n
      refine Fz.ofRead (n := n) (Fz.refl hWr ?_)
      exact appOwn_sound (S := ρ1.s n) (X := ρ1.x n) hWr hg ht hi' hz hzs hc (by rw [← he]; exact m1) m2 m5 m6 (by rw [hc]; exact hsrc) hnew hd
  · obtain ⟨k, W2, h1, h2⟩ := bind_some h
    cases h2
    refine (srcO_sound hW hx hk h1).bind fun ρ1 hl1 hW2 ⟨us, hsrc, hnew⟩ => Fz.refl hW2 ?_
    have hs1 := hs.le hl1
    have hs' : s' = .slice none 0 0 := by cases hs1; rfl
    subst hs'
    rw [← hc] at hsrc
    refine AltS.br (fun hb => ?_) fun hb => AltS.br (fun hb2 => AltS.act fun nx W' hr => ?_) fun _ => AltS.fail
    · have hb' := Nat.eq_of_beq_eq_true hb
      rw [hb'] at hsrc
      have hrun : (Builtin.append_ #[t, tx] ty #[.slice none 0 0, x']).run P w = .ok (.slice none 0 0) w := by
        rcases hsrc.kind with ⟨e', hk⟩ | hk <;> simp [Builtin.append_, run_underlying ht, run_underlying hk, Go.sizeOf, typeInfo, hi', hsrc.len, hsrc.cells]
      exact AltS.vl hW2 (hd _ _ hrun) (.sl0 _ _)
    · simp only at hb hb2
      have hk0 : List.length k ≠ 0 := fun h0 => by rw [h0] at hb; cases hb
      obtain ⟨hb1, hb3⟩ := appB_some hb2
      obtain ⟨m, W4, h3, h4⟩ := bind_some hr
      cases h4
      have hg' := run_append_grow_src w t tx ty e i zv ht hi' hz none 0 0 [] (run_firstCells_none _ _ _ _ _) x' _ us hsrc (by omega) (by omega) (growslice_fits (by omega) (by rw [Nat.zero_add]; exact hb3))
      rw [Nat.zero_add] at hg'
      refine ⟨_, _, hd _ _ hg', ?_⟩
      have hcap := grownCap_le w (need := List.length k) (old := 0) (e := e)
      have hnl := hsrc.newsLen
      have key := own_new (cap := grownCap w (List.length k) 0 e) (us := us) (zc := zv.cells) hW2.drew h3 (fun _ => by rw [hzs, hc]) (by rw [hzs, hc]) (by rw [hnl, hc]) hnew hcap
      exact key.mono fun _ _ hv => .value hv
  · rename_i n o l cap
    obtain ⟨k, W2, h1, h2⟩ := bind_some h
    obtain ⟨r, W3, h3, h4⟩ := bind_some h2
    obtain ⟨hg, rfl⟩ := look_some h3
    simp only at h4
    split at h4
    · rename_i hok
      rw [Bool.and_eq_true] at hok
      have ho := isN_some hok.1
      obtain ⟨q, W4, h5, h6⟩ := bind_some h4
      cases h6
      have hok2 := hok.2
      unfold rowOk at hok2
      rw [Bool.and_eq_true, Bool.and_eq_true, Bool.and_eq_true] at hok2
      obtain ⟨⟨⟨q1, q2⟩, q3⟩, q4⟩ := hok2
      have he := Nat.eq_of_beq_eq_true q1
      have hlc := Nat.le_of_ble_eq_true q2
      have hoc := Nat.eq_of_beq_eq_true q3
      refine (srcO_sound hW hx hk h1).bind fun ρ1 hl1 hW2 ⟨us, hsrc, hnew⟩ => ?_
      obtain ⟨cA, lo, hi, m1, m2, m3, m4, m5, m6, m7⟩ := (hW2.row _ _ hg).row ho
      have hWr := hW2.read n
      refine Fz.ofRead (n := n) ((rowsA_sound l (r.cs.drop o) (a := cA) (o := ρ1.s n + o) hWr (fun j hj => by
        have hj' : o + j < r.cs.length := by rw [List.length_drop] at hj; omega
        rw [List.getElem_drop, Nat.add_assoc]
        exact m4 (o + j) hj') h5).bind fun ρ2 hl2 hW4 ⟨hql, hqa⟩ => Fz.refl hW4 ?_)
      have hdm := hW2.dom _ _ hg
      have hbn := hl2.b _ hdm
      have hs1 := hs.le hl1
      have hs' : ∃ X, s' = .slice (some ⟨ρ2.b n, ρ1.s n + o, none⟩) (List.length q) (List.length q + X) ∧ cA.size = ρ1.s n + o + (List.length q + X) * c.n := by
        rw [hql, hbn, ← hc]
        cases hs1 with
        | sl a _ _ hd hb =>
          rw [if_pos hb] at q4
          rw [capK_le hb] at hlc hoc
          have hop : r.op = false := by simpa using q4
          obtain ⟨g1, g2⟩ := m6 hop
          refine ⟨cap - l, by rw [show l + (cap - l) = cap by omega]; rfl, ?_⟩
          rw [show l + (cap - l) = cap by omega, m2, g2, ← hoc]
          omega
        | slo a _ c' hd heq =>
          rw [if_neg (by omega)] at q4
          rw [capK_big] at hlc hoc
          rw [Bool.and_eq_true] at q4
          have hzr := m7 q4.1
          have hzz := Nat.eq_of_beq_eq_true q4.2
          refine ⟨c' + ρ1.x n - l, by rw [show l + (c' + ρ1.x n - l) = c' + ρ1.x n by omega]; rfl, ?_⟩
          rw [show l + (c' + ρ1.x n - l) = c' + ρ1.x n by omega, m2, hzr, hzz, ← hoc, Nat.add_mul]
          omega
      obtain ⟨X, hs', hX⟩ := hs'
      rw [hs'] at hd
      -- the row is there still
      refine AltS.br (fun hb => AltS.act fun nx W' hr => ?_) fun _ => AltS.fail
      obtain ⟨hb1, hb2⟩ := appB_some hb
      obtain ⟨u, W5, g1, g2⟩ := bind_some hr
      obtain ⟨m, W6, g3, g4⟩ := bind_some g2
      cases g4
      obtain ⟨r', f1, f2, rfl⟩ := killO_some g1
      have hnew2 := hnew.mono hl2.pr
      obtain ⟨y, w', k1, k2⟩ := own_app (olds := q) (news := k) (ty := ty) hW4 f1 f2 ht hi' hz hzs hc (by rw [hbn, ← he]; exact m1) m3 hX hqa (by rw [hc]; exact hsrc) hnew2 hb1 hb2 g3
      exact ⟨_, w', hd y w' k1, k2.mono fun _ _ hv => .value hv⟩
    · cases h4
  · cases h
theorem Local_tyO_sound {x : Value} {W W' : Tw} {w : World} {c : Tys} (hW : WR w0 ρ W w) (h : tyO x W = some (c, W')) : Fz w0 ρ W w W' fun _ => True := by
  unfold tyO at h
  split at h
  · rename_i n
    obtain ⟨r, W1, h1, h2⟩ := bind_some h
    obtain ⟨hg, rfl⟩ := look_some h1
    cases hm : (match r.ob with
      | some (.p ⟨.sl c, _⟩) => some c
      | some (.l c _) => some c
      | some (.p ⟨.str, _⟩) => some (.one (.int .u8))
      | _ => none : Option Tys) with
    | none => simp only [hm] at h2; cases h2
    | some c' => simp only [hm] at h2; cases h2; exact Fz.ofRead (n := n) (Fz.refl (Q := fun _ => True) (hW.read n) trivial)
  · cases h
theorem appendO_sound {ats : Array TypeId} {ty : TypeId} {s x s' x' : Value} {W W1 : Tw} {w : World} {a : Alt} {sem : Sem Next} (hW : WR w0 ρ W w) (hs : VR ρ s s') (hx : VR ρ x x') (h : appendO P ats s x W = some (a, W1)) (hd : Does P w (Builtin.append_ ats ty #[s', x']) sem) :
    Fz w0 ρ W w W1 fun ρ' => AltS P w0 ρ' W1 w a sem := by
  unfold appendO at h
  split at h
  · rename_i e i t0 tx hinfo hats
    obtain ⟨t, tx', zv, rfl, ht, hi, hz, hzs, hk⟩ := appInfo_some hinfo
    simp only [List.cons.injEq, and_true] at hats
    obtain ⟨rfl, rfl⟩ := hats
    obtain ⟨c, W2, h1, h2⟩ := bind_some h
    simp only at h2
    split at h2
    · rename_i hb
      have hc := Nat.eq_of_beq_eq_true hb
      exact (Local_tyO_sound hW h1).bind fun ρ1 hl1 hW2 _ => appC_sound ht hi hz hzs hk hc hW2 (hs.le hl1) (hx.le hl1) h2 hd
    · cases h2
  · cases h
end
end Mo

