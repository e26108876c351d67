import Derived.Test.YtbhjimflcfnpaaaGreatDoorK3
import Derived.Deep.MidRow
import Derived.Laws.Strings
import Derived.Laws.StructEq
import Derived.ChangeKeysEq
import Derived.Laws.BytesArg
set_option linter.all false
namespace Mo
open Go

/-! ## Pointers into rows of one's own -/
theorem Tys.n_pos : ∀ c : Tys, 0 < c.n
  | .one _ => Nat.one_pos
  | .cons _ r => by simp [Tys.n]
noncomputable def getLD {α : Type} (l : List α) (i : Nat) (d : α) : α := l.getD i d
/-- What a pointer points to. -/
structure PtQ where
  k : Nat
  c : Tys
  i : Nat
  j : Nat
noncomputable def ptO (x : Value) (W : Tw) : Option (PtQ × Tw) := match x with
  | .chan (some m) => (W.look m).bind fun p => (match p.1.ob with
    | some (.q k c i j) => some (⟨k, c, i, j⟩ : PtQ)
    | _ => none).map fun q => (q, p.2)
  | _ => none
noncomputable def ptN (q : PtQ) (W : Tw) : Option (Next × Tw) := (W.lay ⟨[], 0, false, 0, some (.q q.k q.c q.i q.j)⟩).bind fun p => some (.value (.chan (some p.1)), p.2)
noncomputable def listO (c : Tys) (k : Nat) (W : Tw) : Option (List c.D × Tw) := (W.look k).bind fun p => (match p.1.ob with
  | some (.l c' l) => castL c' c l
  | _ => none).map fun l => (l, p.2)
theorem Local.ptO (x : Value) : Local (Mo.ptO x) := by
  unfold Mo.ptO
  split
  · exact Local.map (Local.look _) fun r => match r.ob with
    | some (.q k c i j) => some (⟨k, c, i, j⟩ : PtQ)
    | _ => none
  · exact Local.fails
theorem Local.ptN (q : PtQ) : Local (Mo.ptN q) := Local.bind (Local.lay _) fun n => Local.ret (Next.value (.chan (some n)))
theorem Local.listO (c : Tys) (k : Nat) : Local (Mo.listO c k) := Local.map (Local.look k) fun r => match r.ob with
  | some (.l c' l) => castL c' c l
  | _ => none
noncomputable def rowTy (P : Program) (t : TypeId) : Option (Bool × Nat) := match P.underlying t, P.info? t with
  | some d, some i => some (d.isRow, i.size)
  | _, _ => none
noncomputable def takeT (l : List TV) (j z : Nat) : List TV := (l.drop j).take z
noncomputable def loadA (ts : List TV) (W : Tw) : Option (Next × Tw) := (symL ts W).bind fun p => some (.value (.agg ⟨p.1⟩), p.2)
theorem Local.loadA (ts : List TV) : Local (Mo.loadA ts) := Local.bind (G := fun l W => some (Next.value (.agg ⟨l⟩), W)) (Local.symL ts) fun l => Local.ret _
noncomputable def headT : List TV → Option TV
  | [] => none
  | t :: _ => some t
noncomputable def loadO (P : Program) (t : TypeId) (x : Value) (W : Tw) : Option (Alt × Tw) := (ptO x W).bind fun q => (listO q.1.c q.1.k q.2).bind fun l =>
  (match rowTy P t with
  | some (false, 1) => (headT ((q.1.c.tvs (l.1.getD q.1.i q.1.c.df)).drop q.1.j)).map fun v => Alt.sy v
  | some (true, z) => if Nat.ble (q.1.j + z) q.1.c.n then some (.act (loadA (takeT (q.1.c.tvs (l.1.getD q.1.i q.1.c.df)) q.1.j z)) (Local.loadA _)) else none
  | _ => none).map fun a => (a, l.2)
def Tys.tys : Tys → List Ty
  | .one t => [t]
  | .cons t r => t :: Tys.tys r
/-- A row out of its cells. -/
noncomputable def ofTvs : (c : Tys) → List TV → Option c.D
  | .one t => fun l => match l with
    | [v] => castT v t
    | _ => none
  | .cons t r => fun l => match l with
    | v :: vs => (castT v t).bind fun x => (ofTvs r vs).map fun y => (x, y)
    | [] => none
noncomputable def argL : List Ty → List Value → Tw → Option (List TV × Tw)
  | [], [], W => some ([], W)
  | t :: r, v :: vs, W => (argV t v W).bind fun p => (argL r vs p.2).bind fun q => some (⟨t, p.1⟩ :: q.1, q.2)
  | _, _, _ => none
theorem Local.argL : ∀ (ts : List Ty) (vs : List Value), Local (Mo.argL ts vs)
  | [], [] => Local.ret _
  | [], _ :: _ => Local.fails
  | _ :: _, [] => Local.fails
  | t :: r, v :: vs => Local.bind (G := fun x W => (Mo.argL r vs W).bind fun q => some ((⟨t, x⟩ : TV) :: q.1, q.2)) (Local.argV t v) fun x => Local.bind (G := fun z W => some ((⟨t, x⟩ : TV) :: z, W)) (Local.argL r vs) fun z => Local.ret _
noncomputable def setE (c : Tys) (l : List c.D) (i j : Nat) (ts : List TV) : Option (List c.D) :=
  (ofTvs c (((c.tvs (l.getD i c.df)).take j) ++ (ts ++ (c.tvs (l.getD i c.df)).drop (j + List.length ts)))).map fun e => l.set i e
noncomputable def storeA (q : PtQ) (ts : List TV) (W : Tw) : Option (Next × Tw) := (Tw.upd q.k (fun r => match r.ob with
  | some (.l c l) => ((castL c q.c l).bind fun l => setE q.c l q.i q.j ts).map fun l => some { r with ob := some (.l q.c l) }
  | _ => none) W).bind fun p => some (.skip, p.2)
theorem Local.storeA (q : PtQ) (ts : List TV) : Local (Mo.storeA q ts) := Local.bind (G := fun (_ : Unit) W => some (Next.skip, W)) (Local.upd q.k _) fun _ => Local.ret Next.skip
noncomputable def cellsV (b : Bool) (v : Value) : Option (List Value) := match b, v with
  | true, .agg ⟨l⟩ => some l
  | false, v => some [v]
  | _, _ => none
noncomputable def storeO (P : Program) (t : TypeId) (x v : Value) (W : Tw) : Option (Alt × Tw) := (ptO x W).bind fun q => match rowTy P t with
  | some (b, z) => match cellsV b v with
    | some vs => if Nat.ble (q.1.j + z) q.1.c.n && Nat.beq vs.length z then (argL ((q.1.c.tys.drop q.1.j).take z) vs q.2).bind fun p => some (.act (storeA q.1 p.1) (Local.storeA _ _), p.2) else none
    | none => none
  | none => none
noncomputable def faOff (P : Program) (s : TypeId) (f : Nat) : Option Nat := match P.underlying s with
  | some (.struct fs) => (fs[f]?).bind fun fd => if fieldNZ P s f then some fd.offset else none
  | _ => none
noncomputable def faO (P : Program) (s : TypeId) (x : Value) (f : Nat) (W : Tw) : Option (Alt × Tw) := (ptO x W).bind fun q => match faOff P s f with
  | some o => if Nat.blt (q.1.j + o) q.1.c.n then some (.act (ptN ⟨q.1.k, q.1.c, q.1.i, q.1.j + o⟩) (Local.ptN _), q.2) else none
  | none => none
noncomputable def ncO (x : Value) (W : Tw) : Option (Alt × Tw) := (ptO x W).bind fun q => some (.vl x, q.2)
noncomputable def idxO (z : Nat) (x : Value) (i : Int) (W : Tw) : Option (Alt × Tw) := match x with
  | .chan (some n) => (W.look n).bind fun p => (match p.1.ob with
    | some (.l c l) => if Nat.beq z c.n then some (Alt.br (decide (0 ≤ i ∧ i.toNat < List.length l)) (.act (ptN ⟨n, c, i.toNat, 0⟩) (Local.ptN _)) .fail) else none
    | _ => none).map fun a => (a, p.2)
  | _ => none
theorem Local.loadO (P : Program) (t : TypeId) (x : Value) : Local (Mo.loadO P t x) := by
  refine Local.bind (G := fun (q : PtQ) W => (Mo.listO q.c q.k W).bind fun l => (match rowTy P t with
    | some (false, 1) => (headT ((q.c.tvs (l.1.getD q.i q.c.df)).drop q.j)).map fun v => Alt.sy v
    | some (true, z) => if Nat.ble (q.j + z) q.c.n then some (.act (Mo.loadA (takeT (q.c.tvs (l.1.getD q.i q.c.df)) q.j z)) (Local.loadA _)) else none
    | _ => none).map fun a => (a, l.2)) (Local.ptO x) fun q => ?_
  exact Local.map (Local.listO q.c q.k) fun l => match rowTy P t with
    | some (false, 1) => (headT ((q.c.tvs (l.getD q.i q.c.df)).drop q.j)).map fun v => Alt.sy v
    | some (true, z) => if Nat.ble (q.j + z) q.c.n then some (.act (Mo.loadA (takeT (q.c.tvs (l.getD q.i q.c.df)) q.j z)) (Local.loadA _)) else none
    | _ => none
theorem Local.storeO (P : Program) (t : TypeId) (x v : Value) : Local (Mo.storeO P t x v) := by
  refine Local.bind (G := fun (q : PtQ) W => match rowTy P t with
    | some (b, z) => match cellsV b v with
      | some vs => if Nat.ble (q.j + z) q.c.n && Nat.beq vs.length z then (Mo.argL ((q.c.tys.drop q.j).take z) vs W).bind fun p => some (Alt.act (Mo.storeA q p.1) (Local.storeA _ _), p.2) else none
      | none => none
    | none => none) (Local.ptO x) fun q => ?_
  split
  · split
    · split
      · exact Local.bind (G := fun ts W => some (Alt.act (Mo.storeA q ts) (Local.storeA _ _), W)) (Local.argL _ _) fun ts => Local.ret _
      · exact Local.fails
    · exact Local.fails
  · exact Local.fails
theorem Local.faO (P : Program) (s : TypeId) (x : Value) (f : Nat) : Local (Mo.faO P s x f) := by
  refine Local.bind (G := fun (q : PtQ) W => match faOff P s f with
    | some o => if Nat.blt (q.j + o) q.c.n then some (Alt.act (Mo.ptN ⟨q.k, q.c, q.i, q.j + o⟩) (Local.ptN _), W) else none
    | none => none) (Local.ptO x) fun q => ?_
  cases faOff P s f with
  | none => exact Local.fails
  | some o =>
    dsimp only
    split
    · exact Local.ret _
    · exact Local.fails
theorem Local.ncO (x : Value) : Local (Mo.ncO x) := Local.bind (G := fun (_ : PtQ) W => some (Alt.vl x, W)) (Local.ptO x) fun _ => Local.ret _
theorem Local.idxO (z : Nat) (x : Value) (i : Int) : Local (Mo.idxO z x i) := by
  unfold Mo.idxO
  split
  · rename_i n
    exact Local.map (Local.look n) fun r => match r.ob with
      | some (.l c l) => if Nat.beq z c.n then some (Alt.br (decide (0 ≤ i ∧ i.toNat < List.length l)) (.act (Mo.ptN ⟨n, c, i.toNat, 0⟩) (Local.ptN _)) .fail) else none
      | _ => none
  · exact Local.fails
/-- The size of an element. -/
noncomputable def elSz (P : Program) (t : TypeId) : Option Nat := match P.underlying t with
  | some (.slice e) => (P.info? e).map (·.size)
  | _ => none
section
variable {P : Program} {w0 : Bs} {ρ : Ren}
theorem run_elem {t : TypeId} {z : Nat} (h : elSz P t = some z) : ∃ e i, P.underlying t = some (.slice e) ∧ P.info? e = some i ∧ i.size = z := by
  unfold elSz at h
  split at h
  · rename_i e he
    cases hi : P.info? e with
    | none => rw [hi] at h; cases h
    | some i => rw [hi] at h; cases h; exact ⟨e, i, he, hi, rfl⟩
  · cases h
theorem run_iaS {t : TypeId} {e : TypeId} {ti : TypeInfo} {b off : Nat} {l c : Nat} {k : IntKind} {n : Int} {w : World} (hu : P.underlying t = some (.slice e)) (hi : P.info? e = some ti) (h0 : 0 ≤ n) (h1 : n.toNat < l) :
    (Instr.indexAt t (.slice (some ⟨b, off, none⟩) l c) (.int k n)).run P w = .ok (.pointer (some ⟨b, off + n.toNat * ti.size, none⟩)) w := by
  unfold Instr.indexAt
  show (Sem.bind (Go.underlying t) _).run P w = _
  rw [run_bind, run_und hu]
  show (Sem.bind (Go.underlying t) _).run P w = _
  rw [run_bind, run_und hu]
  have hn : (n : Int) < (l : Nat) := by omega
  simp only
  rw [if_pos ⟨h0, hn⟩]
  have hs : (Go.sizeOf e : Sem Nat).run P w = .ok ti.size w := by
    show (Sem.bind (Go.typeInfo e) _).run P w = _
    rw [run_bind]
    have : (Go.typeInfo e : Sem TypeInfo).run P w = .ok ti w := by
      show (Sem.bind _ _).run P w = _
      simp only [Go.program, Sem.bind, Sem.run, hi]
      rfl
    rw [this]
    rfl
  show (Sem.bind (Go.sizeOf e) _).run P w = _
  rw [run_bind, hs]
  simp only [add_none]
  rfl
theorem ptO_sound {x y : Value} {W W' : Tw} {w : World} {q : PtQ} (hW : WR w0 ρ W w) (hx : VR ρ x y) (h : ptO x W = some (q, W')) :
    WR w0 ρ W' w ∧ W'.nx = W.nx ∧ W'.lim = W.lim ∧ ρ.dom q.k ∧ ρ.z q.k = q.c.n ∧ q.i < ρ.L q.k ∧ q.j < q.c.n ∧ y = .pointer (some ⟨ρ.b q.k, ρ.s q.k + q.i * q.c.n + q.j, none⟩) := by
  unfold ptO at h
  split at h
  · rename_i m
    obtain ⟨r, W1, h1, h2⟩ := bind_some h
    obtain ⟨hg, rfl⟩ := look_some h1
    simp only at h2
    split at h2
    · rename_i k c i j ho
      cases h2
      obtain ⟨g1, g2, g3, g4, g5⟩ := (hW.row _ _ hg).qu _ _ _ _ ho
      have hgl := Tw.get_lt hg
      refine ⟨hW.read m, rfl, rfl, g1, g2, g3, g4, ?_⟩
      cases hx with
      | any y => simp [D0] at hgl
      | gho _ y hn hm => simp [D0] at hn; omega
      | sym _ y hd hm hb => exact g5 _ hm
    · cases h2
  · cases h
theorem listO_sound {c : Tys} {k : Nat} {W W' : Tw} {w : World} {l : List c.D} (hW : WR w0 ρ W w) (h : listO c k W = some (l, W')) :
    WR w0 ρ W' w ∧ W'.nx = W.nx ∧ W'.lim = W.lim ∧ ∃ r, W.get k = some r ∧ r.ob = some (.l c l) := by
  obtain ⟨r, W1, h1, h2⟩ := bind_some h
  obtain ⟨hg, rfl⟩ := look_some h1
  simp only at h2
  split at h2
  · rename_i c' l' ho
    cases hl : castL c' c l' with
    | none => rw [hl] at h2; cases h2
    | some l2 =>
      rw [hl] at h2
      cases h2
      obtain ⟨e1, e2⟩ := castL_at hl
      subst e1
      have e2' : l' = l := e2
      subst e2'
      exact ⟨hW.read k, rfl, rfl, r, hg, ho⟩
  · cases h2
theorem ptN_sound {q : PtQ} {W W' : Tw} {w : World} {n : Next} (hW : WR w0 ρ W w) (h1 : ρ.dom q.k) (h2 : ρ.z q.k = q.c.n) (h3 : q.i < ρ.L q.k) (h4 : q.j < q.c.n) (h : ptN q W = some (n, W')) :
    Nxt w0 ρ W w W' w fun ρ2 => NR ρ2 n (.value (.pointer (some ⟨ρ.b q.k, ρ.s q.k + q.i * q.c.n + q.j, none⟩))) := by
  obtain ⟨m, W1, g1, g2⟩ := bind_some h
  cases g2
  have hlt : W.nx < D0 := by have := lay_lt g1; unfold D0; omega
  have hfree := hW.free W.nx (Nat.le_refl _) (lay_some g1).1
  have hne : q.k ≠ W.nx := fun he => hfree (he ▸ h1)
  have hle := Ren.le_exm (ρ := ρ) (n := W.nx) (b := 0) (s := 0) (L := 0) (x := 0) (z := 0) (M := fun y => y = .pointer (some ⟨ρ.b q.k, ρ.s q.k + q.i * q.c.n + q.j, none⟩)) hfree
  obtain ⟨rfl, h5⟩ := lay_soft (b := 0) (s := 0) (M := fun y => y = .pointer (some ⟨ρ.b q.k, ρ.s q.k + q.i * q.c.n + q.j, none⟩)) hW g1 (fun h => h) (by
    refine ⟨fun h => (by cases h), fun _ h => (by cases h), fun _ h => (by cases h), fun _ _ h => (by cases h), fun h => (by cases h), fun k c i j he => ?_⟩
    cases he
    refine ⟨hle.dom _ h1, ?_, ?_, h4, fun y hy => ?_⟩
    · rw [hle.z _ h1]; exact h2
    · rw [hle.L _ h1]; exact h3
    · rw [hle.b _ h1, hle.s _ h1]
      simpa [Ren.exm, hlt] using hy)
  refine h5.mono fun ρ2 hl he => ?_
  subst he
  exact .value (.sym _ _ (.inr rfl) (by simp [Ren.exm, hlt]) rfl)
theorem rowTy_some {t : TypeId} {b : Bool} {z : Nat} (h : rowTy P t = some (b, z)) : ∃ d i, P.underlying t = some d ∧ P.info? t = some i ∧ d.isRow = b ∧ i.size = z := by
  unfold rowTy at h
  split at h
  · rename_i d i h1 h2
    cases h
    exact ⟨d, i, h1, h2, rfl, rfl⟩
  · cases h
theorem run_agg {t : TypeId} {d : TypeDesc} {w : World} (h : P.underlying t = some d) : (Go.isAgg t : Sem Bool).run P w = .ok d.isRow w := by
  unfold Go.isAgg
  show (Sem.bind (Go.underlying t) _).run P w = _
  rw [run_bind, run_und h]
  cases d <;> rfl
theorem run_loadAt_one {t : TypeId} {d : TypeDesc} {w : World} {b o : Nat} {v : Value} (h : P.underlying t = some d) (hd : d.isRow = false) (hc : w.cell? ⟨b, o, none⟩ = some v) : (Instr.loadAt t (.pointer (some ⟨b, o, none⟩))).run P w = .ok v w := by
  show (Sem.bind (Sem.pure _) _).run P w = _
  show (Go.loadVar t ⟨b, o, none⟩).run P w = _
  unfold Go.loadVar
  show (Sem.bind (Go.isAgg t) _).run P w = _
  rw [run_bind, run_agg h, hd]
  show (Go.load _).run P w = _
  simp only [Go.load, Sem.run, hc]
/-- The cells of a row of one's own. -/
theorem AtL.rdl {pr : Pt} {c : Tys} {l : List c.D} {a : Array Value} {s i : Nat} (h : AtL pr c l a s) (hi : i < List.length l) : RdL pr (c.tvs (l.getD i c.df)) ((List.range c.n).map fun k => a.getD (s + i * c.n + k) undef) := by
  have := (h i hi).cells
  rw [List.getD_eq_getElem?_getD, List.getElem?_eq_getElem hi]
  exact this
theorem RdL.get {pr : Pt} : ∀ {ts : List TV} {ys : List Value}, RdL pr ts ys → ts.length = ys.length ∧ ∀ j (h : j < ts.length) (h' : j < ys.length), (ts[j]).Rd pr ys[j]
  | [], [], _ => ⟨rfl, fun j h => absurd h (by simp)⟩
  | t :: r, y :: s, h => by
    obtain ⟨k1, k2⟩ := RdL.get h.2
    refine ⟨by simp [k1], fun j h1 h2 => ?_⟩
    cases j with
    | zero => exact h.1
    | succ j => exact k2 j (by simpa using h1) (by simpa using h2)
theorem RdL.of {pr : Pt} : ∀ {ts : List TV} {ys : List Value}, ts.length = ys.length → (∀ j (h : j < ts.length) (h' : j < ys.length), (ts[j]).Rd pr ys[j]) → RdL pr ts ys
  | [], [], _, _ => trivial
  | [], _ :: _, h, _ => by simp at h
  | _ :: _, [], h, _ => by simp at h
  | t :: r, y :: s, h, hh => ⟨hh 0 (by simp) (by simp), RdL.of (by simpa using h) fun j h1 h2 => hh (j + 1) (by simpa using h1) (by simpa using h2)⟩
theorem loadO_sound {t : TypeId} {x y : Value} {W W1 : Tw} {w : World} {a : Alt} {sem : Sem Next} (hW : WR w0 ρ W w) (hx : VR ρ x y) (h : loadO P t x W = some (a, W1)) (hd : Does P w (Instr.loadAt t y) sem) :
    Fz w0 ρ W w W1 fun ρ' => AltS P w0 ρ' W1 w a sem := by
  obtain ⟨q, W2, h1, h2⟩ := bind_some h
  obtain ⟨l, W3, h3, h4⟩ := bind_some h2
  obtain ⟨k1, k2, k3, k4, k5, k6, k7, rfl⟩ := ptO_sound hW hx h1
  obtain ⟨m1, m2, m3, r, m4, m5⟩ := listO_sound k1 h3
  obtain ⟨cA, lo, hi, n1, n2, n3, n4, n5, n6, n7⟩ := (k1.row _ _ m4).ls _ _ m5
  dsimp only at n1 n2 n3 n4 n5 n6 n7
  have hi' : q.i < List.length l := by rw [← n4]; exact k6
  have hrd := AtL.rdl n6 hi'
  have hin : q.i * q.c.n + q.c.n ≤ (List.length l + ρ.x q.k) * q.c.n := by
    have : (q.i + 1) * q.c.n ≤ (List.length l + ρ.x q.k) * q.c.n := Nat.mul_le_mul_right _ (by omega)
    rw [Nat.add_mul, Nat.one_mul] at this
    exact this
  have hcell : ∀ o, o < q.c.n → w.cell? ⟨ρ.b q.k, ρ.s q.k + q.i * q.c.n + o, none⟩ = some (cA.getD (ρ.s q.k + q.i * q.c.n + o) undef) := fun o ho => by
    have : ρ.s q.k + q.i * q.c.n + o < cA.size := by omega
    simp [World.cell?, n1, Array.getD, this]
  refine ⟨ρ.pr, .rfl', ?_, ?_, ?_, ?_⟩
  rotate_left 3
  · simp only at h4
    split at h4
    · rename_i hrow
      obtain ⟨d, ti, e1, e2, e3, e4⟩ := rowTy_some hrow
      cases hh : headT ((q.c.tvs (l.getD q.i q.c.df)).drop q.j) with
      | none => rw [hh] at h4; cases h4
      | some v =>
        rw [hh] at h4
        cases h4
        obtain ⟨g1, g2⟩ := hrd.get
        have hj : q.j < (q.c.tvs (l.getD q.i q.c.df)).length := by rw [Tys.tvs_length]; exact k7
        have hv : v = (q.c.tvs (l.getD q.i q.c.df))[q.j] := by
          rw [List.drop_eq_getElem_cons hj] at hh
          cases hh; rfl
        have hrv := g2 q.j hj (by simpa using k7)
        refine AltS.sy m1 (hd _ _ (run_loadAt_one e1 e3 (hcell q.j k7))) ?_
        rw [hv]
        simpa using hrv
    · rename_i z hrow
      obtain ⟨d, ti, e1, e2, e3, e4⟩ := rowTy_some hrow
      split at h4
      · rename_i hz
        have hz' := Nat.le_of_ble_eq_true hz
        cases h4
        refine AltS.act fun n W' hr => ?_
        obtain ⟨vs, W5, f1, f2⟩ := bind_some hr
        cases f2
        let us : List Value := (List.range z).map fun k => cA.getD (ρ.s q.k + q.i * q.c.n + q.j + k) undef
        have hus : us.length = z := by simp [us]
        have hrange : w.rangeAt (ρ.b q.k) (ρ.s q.k + q.i * q.c.n + q.j) us := fun o v hv => by
          obtain ⟨ho, rfl⟩ := List.getElem?_eq_some_iff.1 hv
          have ho' : o < z := by omega
          have := hcell (q.j + o) (by omega)
          rw [← Nat.add_assoc] at this
          rw [this]
          simp [us]
        have hrun := run_loadAt_mid (P := P) w (ρ.b q.k) (ρ.s q.k + q.i * q.c.n + q.j) t us d hrange e1 e3 (by rw [e2, hus, ← e4]; rfl)
        obtain ⟨g1, g2⟩ := hrd.get
        have hlen : (takeT (q.c.tvs (l.getD q.i q.c.df)) q.j z).length = z := by
          unfold takeT
          rw [List.length_take, List.length_drop, Tys.tvs_length]; omega
        have hT : RdL ρ.pr (takeT (q.c.tvs (l.getD q.i q.c.df)) q.j z) us := RdL.of (by rw [hlen, hus]) fun j hj1 hj2 => by
          have hj1' : j < z := by omega
          have hjj : q.j + j < (q.c.tvs (l.getD q.i q.c.df)).length := by rw [Tys.tvs_length]; omega
          have := g2 (q.j + j) hjj (by simp; omega)
          simp only [takeT, List.getElem_take, List.getElem_drop, us, List.getElem_map, List.getElem_range] at this ⊢
          rw [← Nat.add_assoc] at this
          exact this
        refine ⟨_, w, hd _ _ hrun, (symL_sound m1 f1 hT).mono fun ρ2 hl hv => .value ?_⟩
        have hlv := hv.len
        refine .agg (by simpa using hlv) fun i hi => ?_
        have hi1 : i < vs.length := by simpa using hi
        have hi2 : i < us.length := by omega
        have := hv.at' i hi1 hi2
        simpa [Array.getD, hi1, hi2] using this
      · cases h4
    · cases h4
  · have : W1 = W3 := by
      simp only at h4
      split at h4
      · cases hh : headT ((q.c.tvs (l.getD q.i q.c.df)).drop q.j) with
        | none => rw [hh] at h4; cases h4
        | some v => rw [hh] at h4; cases h4; rfl
      · split at h4
        · cases h4; rfl
        · cases h4
      · cases h4
    rw [this]; exact m1
  · have : W1 = W3 := by
      simp only at h4
      split at h4
      · cases hh : headT ((q.c.tvs (l.getD q.i q.c.df)).drop q.j) with
        | none => rw [hh] at h4; cases h4
        | some v => rw [hh] at h4; cases h4; rfl
      · split at h4
        · cases h4; rfl
        · cases h4
      · cases h4
    rw [this]; exact m2.trans k2
  · have : W1 = W3 := by
      simp only at h4
      split at h4
      · cases hh : headT ((q.c.tvs (l.getD q.i q.c.df)).drop q.j) with
        | none => rw [hh] at h4; cases h4
        | some v => rw [hh] at h4; cases h4; rfl
      · split at h4
        · cases h4; rfl
        · cases h4
      · cases h4
    rw [this]; exact m3.trans k3
theorem At.ofRdL {pr : Pt} : ∀ {c : Tys} {x : c.D} {ys zs : List Value} {k : Nat}, RdL pr (c.tvs x) ys → zs.length = k → c.At pr x (zs ++ ys).toArray k
  | .one t, x, ys, zs, k, h, hk => by
    match ys, h with
    | [y], h =>
      have e : (zs ++ [y]).toArray.getD k undef = y := by simp [Array.getD, ← hk]
      show t.Rd pr x _
      rw [e]; exact h.1
  | .cons t r, x, ys, zs, k, h, hk => by
    match ys, h with
    | y :: ys, h =>
      have e : (zs ++ y :: ys).toArray.getD k undef = y := by simp [Array.getD, ← hk]
      refine ⟨?_, ?_⟩
      · show t.Rd pr x.1 _
        rw [e]; exact h.1
      · have := At.ofRdL (c := r) (x := x.2) (ys := ys) (k := k + 1) (zs := zs ++ [y]) h.2 (by simp [hk])
        simpa using this
theorem ofTvs_rd {pr : Pt} : ∀ {c : Tys} {T : List TV} {e : c.D} {ys : List Value}, ofTvs c T = some e → RdL pr T ys → RdL pr (c.tvs e) ys
  | .one t, T, e, ys, h, hr => by
    unfold ofTvs at h
    match T, h, ys, hr with
    | [v], h, [y], hr => exact ⟨castT_rd h hr.1, trivial⟩
  | .cons t r, T, e, ys, h, hr => by
    unfold ofTvs at h
    match T, h, ys, hr with
    | v :: vs, h, y :: ys, hr =>
      have h' : ((castT v t).bind fun x => (ofTvs r vs).map fun y => (x, y)) = some e := h
      cases h1 : castT v t with
      | none => rw [h1] at h'; cases h'
      | some x =>
        rw [h1, Option.bind_some] at h'
        cases h2 : ofTvs r vs with
        | none => rw [h2] at h'; cases h'
        | some z =>
          rw [h2] at h'
          cases h'
          exact ⟨castT_rd h1 hr.1, ofTvs_rd h2 hr.2⟩
theorem RdL.append {pr : Pt} : ∀ {T U : List TV} {ys zs : List Value}, RdL pr T ys → RdL pr U zs → RdL pr (T ++ U) (ys ++ zs)
  | [], U, [], zs, _, h => h
  | t :: T, U, y :: ys, zs, h, h' => ⟨h.1, RdL.append h.2 h'⟩
theorem RdL.take {pr : Pt} : ∀ {T : List TV} {ys : List Value} (n : Nat), RdL pr T ys → RdL pr (T.take n) (ys.take n)
  | T, ys, 0, h => by simp; trivial
  | [], [], n + 1, h => trivial
  | t :: T, y :: ys, n + 1, h => ⟨h.1, RdL.take n h.2⟩
theorem RdL.drop {pr : Pt} : ∀ {T : List TV} {ys : List Value} (n : Nat), RdL pr T ys → RdL pr (T.drop n) (ys.drop n)
  | T, ys, 0, h => h
  | [], [], n + 1, h => trivial
  | t :: T, y :: ys, n + 1, h => RdL.drop n h.2
theorem RdL.mono' {p q : Pt} (h : Pt.le p q) {l : List TV} {ys : List Value} (hr : RdL p l ys) : RdL q l ys := hr.mono h
theorem argL_sound : ∀ {ts : List Ty} {vs ys : List Value} {ρ : Ren} {W W' : Tw} {w : World} {T : List TV}, WR w0 ρ W w → LR' ρ vs ys → argL ts vs W = some (T, W') → Fz w0 ρ W w W' fun ρ' => RdL ρ'.pr T ys
  | [], [], ys, ρ, W, W', w, T, hW, hv, h => by
    cases h
    cases ys with
    | nil => exact .refl hW trivial
    | cons y s => have := hv.len; simp at this
  | [], _ :: _, ys, ρ, W, W', w, T, hW, hv, h => by cases h
  | _ :: _, [], ys, ρ, W, W', w, T, hW, hv, h => by cases h
  | t :: r, v :: vs, ys, ρ, W, W', w, T, hW, hv, h => by
    cases ys with
    | nil => have := hv.len; simp at this
    | cons y s =>
      obtain ⟨p, W1, h1, h2⟩ := bind_some h
      obtain ⟨q, W2, h3, h4⟩ := bind_some h2
      cases h4
      refine (argV_sound t hW (hv.at' 0 (by simp) (by simp)) h1).bind fun ρ1 hl1 hW1 k1 => ?_
      refine (argL_sound (ys := s) hW1 ⟨by simpa using hv.len, fun i h1 h2 => (hv.at' (i + 1) (by simpa using h1) (by simpa using h2)).le hl1⟩ h3).mono fun ρ2 hl2 k2 => ?_
      exact ⟨Ty.Rd.mono hl2.pr t k1, k2⟩
theorem run_storeAt_any {w : World} {b o : Nat} {ty : TypeId} {v : Value} {us : List Value} (ht : w.there b o us.length) (hi : (P.info? ty).map (·.size) = some us.length) (h1 : ∀ u ∈ us, u.oneCell' = true) (hc : v.cells.toList = us) :
    (Instr.storeAt ty (.pointer (some ⟨b, o, none⟩)) v).run P w = .ok () (w.setCells b o us) := by
  have := run_storeCells_cells (P := P) b o us 0 w (fun j hj => by simpa using (ht j hj).1) (fun j hj => by simpa using (ht j hj).2) h1
  cases hq : P.info? ty with
  | none => simp [hq] at hi
  | some i =>
    have hs : v.cells.size = i.size := by
      have : v.cells.size = us.length := by rw [← hc]; simp
      simp [hq] at hi; omega
    simp only [Nat.add_zero] at this
    simp [Instr.storeAt, Instr.sureAddr, storeVar, Go.sizeOf, typeInfo, hq, hs, hc, this]
def DoesU (P : Program) (w : World) (s : Sem Unit) (t : Sem Next) : Prop := ∀ w', s.run P w = .ok () w' → t.run P w = .ok .skip w'
theorem basic_cells {v : Value} (h : basicV v = true) : v.cells.toList = [v] := by
  cases v <;> first | (cases h; done) | rfl
theorem setE_at {pr : Pt} {c : Tys} {l l2 : List c.D} {i j : Nat} {T : List TV} {cA : Array Value} {s : Nat} {us : List Value} (hA : AtL pr c l cA s) (hi : i < List.length l) (hT : RdL pr T us) (hj : j + us.length ≤ c.n) (hsz : s + List.length l * c.n ≤ cA.size) (h : setE c l i j T = some l2) :
    List.length l2 = List.length l ∧ AtL pr c l2 (setA cA (s + i * c.n + j) us) s := by
  unfold setE at h
  cases he : ofTvs c (((c.tvs (l.getD i c.df)).take j) ++ (T ++ (c.tvs (l.getD i c.df)).drop (j + List.length T))) with
  | none => rw [he] at h; cases h
  | some e =>
    rw [he] at h
    cases h
    have hin : ∀ m, m < List.length l → m * c.n + c.n ≤ List.length l * c.n := fun m hm => by
      have : (m + 1) * c.n ≤ List.length l * c.n := Nat.mul_le_mul_right _ hm
      rw [Nat.add_mul, Nat.one_mul] at this
      exact this
    have hii := hin i hi
    refine ⟨List.length_set, fun m hm => ?_⟩
    have hm' : m < List.length l := by rw [List.length_set] at hm; exact hm
    have hmm := hin m hm'
    by_cases hmi : m = i
    · subst hmi
      have e1 : List.get (List.set l m e) ⟨m, hm⟩ = e := by
        show (List.set l m e)[m] = e
        exact List.getElem_set_self _
      rw [e1]
      obtain ⟨t1, t2⟩ := hT.get
      have hR := ofTvs_rd he (((hA.rdl hi).take j).append (hT.append ((hA.rdl hi).drop (j + List.length T))))
      have hat := At.ofRdL (zs := []) (k := 0) hR rfl
      refine hat.congr fun o ho => ?_
      rw [getD_setA _ _ _ _ (by omega)]
      have hL : List.length (List.map (fun k => cA.getD (s + m * c.n + k) undef) (List.range c.n)) = c.n := by simp
      by_cases hin2 : s + m * c.n + j ≤ s + m * c.n + o ∧ s + m * c.n + o < s + m * c.n + j + us.length
      · rw [dif_pos hin2]
        have e2 : s + m * c.n + o - (s + m * c.n + j) = o - j := by omega
        simp only [e2]
        have hq1 : min j c.n = j := by omega
        have hq2 : o - j < us.length := by omega
        simp [Array.getD_eq_getD_getElem?, List.getElem?_append, hq1, hq2, show ¬ o < j by omega]
      · rw [dif_neg hin2]
        by_cases hoj : o < j
        · simp [Array.getD_eq_getD_getElem?, List.getElem?_append, List.getElem?_take, hoj, ho, show min j c.n = j by omega]
        · have hq1 : min j c.n = j := by omega
          have hq2 : ¬ o - j < us.length := by omega
          simp [Array.getD_eq_getD_getElem?, List.getElem?_append, List.getElem?_drop, hoj, hq1, hq2, t1]
          rw [show j + us.length + (o - j - us.length) = o by omega]
          simp [ho]
    · have e1 : List.get (List.set l i e) ⟨m, hm⟩ = List.get l ⟨m, hm'⟩ := by
        show (List.set l i e)[m] = l[m]
        exact List.getElem_set_ne (fun h => hmi h.symm) _
      rw [e1]
      refine (hA m hm').congr fun o ho => ?_
      rw [getD_setA _ _ _ _ (by omega), dif_neg]
      rcases Nat.lt_or_gt_of_ne hmi with h1 | h1
      · have : m * c.n + c.n ≤ i * c.n := by
          have : (m + 1) * c.n ≤ i * c.n := Nat.mul_le_mul_right _ h1
          rw [Nat.add_mul, Nat.one_mul] at this
          exact this
        omega
      · have : i * c.n + c.n ≤ m * c.n := by
          have : (i + 1) * c.n ≤ m * c.n := Nat.mul_le_mul_right _ h1
          rw [Nat.add_mul, Nat.one_mul] at this
          exact this
        omega
theorem storeA_sound {q : PtQ} {T : List TV} {us : List Value} {W W' : Tw} {w : World} {n : Next} (hW : WR w0 ρ W w) (hz : ρ.z q.k = q.c.n) (hi : q.i < ρ.L q.k) (hT : RdL ρ.pr T us) (hj : q.j + us.length ≤ q.c.n) (h : storeA q T W = some (n, W')) :
    n = .skip ∧ w.there (ρ.b q.k) (ρ.s q.k + q.i * q.c.n + q.j) us.length ∧ WR w0 ρ W' (w.setCells (ρ.b q.k) (ρ.s q.k + q.i * q.c.n + q.j) us) ∧ W'.nx = W.nx ∧ W'.lim = W.lim := by
  obtain ⟨u, W1, h1, h2⟩ := bind_some h
  cases h2
  obtain ⟨r, r2, hg, h3, rfl⟩ := upd_some h1
  split at h3
  · rename_i c l ho
    cases hc : castL c q.c l with
    | none => rw [hc] at h3; cases h3
    | some l1 =>
      obtain ⟨e1, e2⟩ := castL_at hc
      subst e1
      have e2' : l = l1 := e2
      subst e2'
      simp only [hc, Option.bind_some] at h3
      cases hs : setE q.c l q.i q.j T with
      | none => rw [hs] at h3; cases h3
      | some l2 =>
        rw [hs] at h3
        cases h3
        obtain ⟨cA, lo, hi2, n1, n2, n3, n4, n5, n6, n7⟩ := (hW.row _ _ hg).ls _ _ ho
        have hil : q.i < List.length l := by rw [← n4]; exact hi
        have hsz : ρ.s q.k + List.length l * q.c.n ≤ cA.size := by
          rw [n5, Nat.add_mul]; omega
        obtain ⟨f1, f2⟩ := setE_at n6 hil hT hj hsz hs
        have hph : r.phys := by unfold Row.phys; rw [ho]; trivial
        have hin : q.i * q.c.n + q.c.n ≤ List.length l * q.c.n := by
          have : (q.i + 1) * q.c.n ≤ List.length l * q.c.n := Nat.mul_le_mul_right _ hil
          rw [Nat.add_mul, Nat.one_mul] at this
          exact this
        obtain ⟨r1, r2, r3, r4, r5⟩ := setCells_rest (ρ.b q.k) us (ρ.s q.k + q.i * q.c.n + q.j) w
        refine ⟨rfl, fun o ho2 => ?_, ?_, rfl, rfl⟩
        · have : ρ.s q.k + q.i * q.c.n + q.j + o < cA.size := by omega
          refine ⟨by simp [World.cell?, n1, this], ?_⟩
          simp only [World.frozen?, n1]
          simp only [Bool.and_eq_false_iff, decide_eq_false_iff_not]
          omega
        · refine (hW.upd (q := { r with ob := some (.l q.c l2) }) hg hph ?_ r5 r4 r1 r2 r3).wrote _
          refine ⟨fun h => (by cases h), fun _ h => (by cases h), fun _ h1 => (by cases h1), fun c' l' h1 => ?_, fun h => (by cases h), fun _ _ _ _ h => (by cases h)⟩
          cases h1
          refine ⟨setA cA (ρ.s q.k + q.i * q.c.n + q.j) us, lo, hi2, setCells_at _ _ _ _ n1, by rw [size_setA]; exact n2, n3, by rw [f1]; exact n4, by rw [size_setA, f1]; exact n5, f2, ?_⟩
          rw [f1]; exact n7
  · cases h3
theorem cellsV_sound {b : Bool} {v v' : Value} {vs : List Value} (hv : VR ρ v v') (h : cellsV b v = some vs) : (b = true ∧ ∃ us, v' = .agg us ∧ LR' ρ vs us.toList) ∨ (b = false ∧ vs = [v]) := by
  unfold cellsV at h
  split at h
  · cases h
    left
    cases hv with
    | agg hx hh =>
      rename_i xs'
      refine ⟨rfl, xs', rfl, ⟨by simpa using hx, fun i h1 h2 => ?_⟩⟩
      have h2' : i < xs'.size := by simpa using h2
      have := hh i (by simpa using h1)
      simpa [Array.getD, h1, h2'] using this
  · cases h; exact .inr ⟨rfl, rfl⟩
  · cases h
theorem storeO_sound {t : TypeId} {x y v v' : Value} {W W1 : Tw} {w : World} {a : Alt} {sem : Sem Next} (hW : WR w0 ρ W w) (hx : VR ρ x y) (hv : VR ρ v v') (h : storeO P t x v W = some (a, W1)) (hd : DoesU P w (Instr.storeAt t y v') sem) :
    Fz w0 ρ W w W1 fun ρ' => AltS P w0 ρ' W1 w a sem := by
  obtain ⟨q, W2, h1, h2⟩ := bind_some h
  obtain ⟨k1, k2, k3, k4, k5, k6, k7, rfl⟩ := ptO_sound hW hx h1
  simp only at h2
  split at h2
  · rename_i b z hrow
    obtain ⟨d, ti, e1, e2, e3, e4⟩ := rowTy_some hrow
    split at h2
    · rename_i vs hvs
      split at h2
      · rename_i hb
        rw [Bool.and_eq_true] at hb
        have hz := Nat.le_of_ble_eq_true hb.1
        have hlen := Nat.eq_of_beq_eq_true hb.2
        obtain ⟨T, W3, h3, h4⟩ := bind_some h2
        cases h4
        have hus : ∃ us, LR' ρ vs us := by
          rcases cellsV_sound hv hvs with ⟨-, us, -, hl⟩ | ⟨-, rfl⟩
          · exact ⟨us.toList, hl⟩
          · exact ⟨[v'], ⟨rfl, fun i h1 h2 => by
              have : i = 0 := by simpa using h1
              subst this; exact hv⟩⟩
        have hfz : Fz w0 ρ W w W2 fun ρ' => ρ' = ρ := ⟨ρ.pr, .rfl', k1, k2, k3, rfl⟩
        refine hfz.bind fun ρ0 _ _ he => ?_
        subst he
        have main : ∀ us, LR' ρ0 vs us → (∀ {pr}, RdL pr T us → v'.cells.toList = us) → Fz w0 ρ0 W2 w W3 fun ρ' => AltS P w0 ρ' W3 w (.act (storeA q T) (Local.storeA q T)) sem := fun us hl hc => by
          refine (argL_sound k1 hl h3).bind fun ρ1 hl1 hW3 hT => Fz.refl hW3 ?_
          refine AltS.act fun n W' hr => ?_
          have hul : us.length = z := by rw [← hl.len]; exact hlen
          obtain ⟨rfl, f1, f2, f3, f4⟩ := storeA_sound hW3 (by rw [hl1.z _ k4]; exact k5) (by rw [hl1.L _ k4]; exact k6) hT (by omega) hr
          rw [hl1.b _ k4, hl1.s _ k4] at f1 f2
          refine ⟨.skip, _, hd _ (run_storeAt_any f1 (by rw [e2, hul, ← e4]; rfl) (fun u hu => one_basic (hT.basic u hu)) (hc hT)), ρ1, .rfl', fun k hk => .inl hk, f2, .skip, by omega, f4⟩
        rcases cellsV_sound hv hvs with ⟨-, us, rfl, hl⟩ | ⟨-, rfl⟩
        · exact main us.toList hl fun _ => rfl
        · exact main [v'] ⟨rfl, fun i h1 h2 => by
              have : i = 0 := by simpa using h1
              subst this; exact hv⟩ fun hT => basic_cells (hT.basic v' (by simp))
      · cases h2
    · cases h2
  · cases h2
theorem faO_sound {s : TypeId} {f : Nat} {x y : Value} {W W1 : Tw} {w : World} {a : Alt} {sem : Sem Next} (hW : WR w0 ρ W w) (hx : VR ρ x y) (h : faO P s x f W = some (a, W1)) (hd : Does P w (Instr.fieldAt s y f) sem) :
    Fz w0 ρ W w W1 fun ρ' => AltS P w0 ρ' W1 w a sem := by
  obtain ⟨q, W2, h1, h2⟩ := bind_some h
  obtain ⟨k1, k2, k3, k4, k5, k6, k7, rfl⟩ := ptO_sound hW hx h1
  simp only at h2
  split at h2
  · rename_i o ho
    split at h2
    · rename_i hb
      cases h2
      have hb' : q.j + o < q.c.n := by
        have := Nat.le_of_ble_eq_true hb
        omega
      refine ⟨ρ.pr, .rfl', k1, k2, k3, ?_⟩
      refine AltS.act fun n W' hr => ?_
      have hN := ptN_sound (q := ⟨q.k, q.c, q.i, q.j + o⟩) k1 k4 k5 k6 hb' hr
      refine ⟨_, w, hd (.pointer (some ⟨ρ.b q.k, ρ.s q.k + q.i * q.c.n + (q.j + o), none⟩)) w ?_, hN⟩
      unfold faOff at ho
      split at ho
      · rename_i fs hu
        cases hf : fs[f]? with
        | none => rw [hf] at ho; cases ho
        | some fd =>
          rw [hf, Option.bind_some] at ho
          split at ho
          · rename_i hnz
            cases ho
            unfold fieldNZ at hnz
            rw [hu] at hnz
            simp only [hf] at hnz
            cases hi : P.info? fd.type with
            | none => rw [hi] at hnz; cases hnz
            | some ti =>
              rw [hi] at hnz
              have hnz' : ti.size ≠ 0 := by simpa using hnz
              have hs : (Go.sizeOf fd.type : Sem Nat).run P w = .ok ti.size w := by
                show (Sem.bind (Go.typeInfo fd.type) _).run P w = _
                rw [run_bind]
                have : (Go.typeInfo fd.type : Sem TypeInfo).run P w = .ok ti w := by
                  show (Sem.bind _ _).run P w = _
                  simp only [Go.program, Sem.bind, Sem.run, hi]
                  rfl
                rw [this]
                rfl
              unfold Instr.fieldAt
              show (Sem.bind (Go.underlying s) _).run P w = _
              rw [run_bind, run_und hu]
              simp only [hf]
              show (Sem.bind (Go.fieldPlace _ fd) _).run P w = _
              rw [run_bind]
              have hp : (Go.fieldPlace ⟨ρ.b q.k, ρ.s q.k + q.i * q.c.n + q.j, none⟩ fd).run P w = .ok ⟨ρ.b q.k, ρ.s q.k + q.i * q.c.n + (q.j + fd.offset), none⟩ w := by
                unfold Go.fieldPlace
                show (Sem.bind (Go.sizeOf fd.type) _).run P w = _
                rw [run_bind, hs]
                simp only [if_neg hnz', add_none, ← Nat.add_assoc]
                rfl
              rw [hp]
              rfl
          · cases ho
      · cases ho
    · cases h2
  · cases h2
theorem ncO_sound {ev : Operand → Value} {dst : Option Nat} {ox : Operand} {ty pos after guard} {x : Value} {W W1 : Tw} {w : World} {a : Alt} (hW : WR w0 ρ W w) (hx : VR ρ x (ev ox)) (h : ncO x W = some (a, W1)) :
    Fz w0 ρ W w W1 fun ρ' => AltS P w0 ρ' W1 w a (execOp ev ⟨dst, .nilCheck ox, ty, pos, after, guard⟩) := by
  obtain ⟨q, W2, h1, h2⟩ := bind_some h
  cases h2
  obtain ⟨k1, k2, k3, k4, k5, k6, k7, hy⟩ := ptO_sound hW hx h1
  refine ⟨ρ.pr, .rfl', k1, k2, k3, AltS.vl k1 ?_ hx⟩
  show (match ev ox with
    | .pointer none | .nilIface | .nilFunc => runtimePanic .nilDeref
    | .func (.method name) first captured => _
    | x => pure (.value x) : Sem Next).run P w = _
  rw [hy]
  rfl
theorem idxO_sound {t : TypeId} {z : Nat} {x y iv : Value} {i : Int} {kk : IntKind} {W W1 : Tw} {w : World} {a : Alt} {sem : Sem Next} (hz : elSz P t = some z) (hW : WR w0 ρ W w) (hx : VR ρ x y) (hi : iv = .int kk i) (h : idxO z x i W = some (a, W1)) (hd : Does P w (Instr.indexAt t y iv) sem) :
    Fz w0 ρ W w W1 fun ρ' => AltS P w0 ρ' W1 w a sem := by
  unfold idxO at h
  split at h
  · rename_i n
    obtain ⟨r, W2, h1, h2⟩ := bind_some h
    obtain ⟨hg, rfl⟩ := look_some h1
    simp only at h2
    split at h2
    · rename_i c l ho
      split at h2
      · rename_i hb
        cases h2
        have hc := Nat.eq_of_beq_eq_true hb
        obtain ⟨cA, lo, hi2, n1, n2, n3, n4, n5, n6, n7⟩ := (hW.row _ _ hg).ls _ _ ho
        have hgl := Tw.get_lt hg
        have hy : y = .slice (some ⟨ρ.b n, ρ.s n, none⟩) (List.length l) (List.length l + ρ.x n) := by
          cases hx with
          | any y => simp [D0] at hgl
          | gho _ y hn hm => simp [D0] at hn; omega
          | sym _ y hd hm hb => exact n7 _ hm
        have hWr := hW.read n
        refine ⟨ρ.pr, .rfl', hWr, rfl, rfl, ?_⟩
        refine AltS.br (fun hcnd => AltS.act fun nx W' hr => ?_) fun _ => AltS.fail
        have hcnd' := of_decide_eq_true hcnd
        have hN := ptN_sound (q := ⟨n, c, i.toNat, 0⟩) hWr (hW.dom _ _ hg) n3 (by rw [n4]; exact hcnd'.2) c.n_pos hr
        refine ⟨_, w, hd (.pointer (some ⟨ρ.b n, ρ.s n + i.toNat * c.n + 0, none⟩)) w ?_, hN⟩
        obtain ⟨e, ti, he, hti, hsz⟩ := run_elem hz
        rw [hy, hi, run_iaS he hti hcnd'.1 hcnd'.2, hsz, hc, Nat.add_zero]
      · cases h2
    · cases h2
  · cases h
end
end Mo

namespace Mo
open Go

/-! ## Parts of what a symbol stands for -/
noncomputable def intO : TV → Option Int
  | ⟨.int _, x⟩ => some x
  | _ => none
noncomputable def payO (v : Option Value) (W : Tw) : Option (Option Int × Tw) := match v with
  | none => some (none, W)
  | some v => (payT v W).bind fun p => ((intO p.1).map some).map fun x => (x, p.2)
theorem Local.payO (v : Option Value) : Local (Mo.payO v) := by
  cases v with
  | none => exact Local.ret _
  | some v => exact Local.map (Local.payT v) fun p => (intO p).map some
noncomputable def cutOk (n : Nat) : Option Int → Option Int → Option Int → Bool
  | none, none, none => true
  | some a, none, none => decide (0 ≤ a ∧ a.toNat ≤ n)
  | none, some b, none => decide (0 ≤ b ∧ b.toNat ≤ n)
  | some a, some b, none => decide (0 ≤ a ∧ a ≤ b ∧ b.toNat ≤ n)
  | none, some b, some m => decide (0 ≤ b ∧ b = m ∧ m.toNat ≤ n)
  | some a, some b, some m => decide (0 ≤ a ∧ a ≤ b ∧ b = m ∧ m.toNat ≤ n)
  | _, none, some _ => false
noncomputable def cutL {α : Type} (l : List α) : Option Int → Option Int → List α
  | none, none => l
  | some a, none => l.drop a.toNat
  | none, some b => l.take b.toNat
  | some a, some b => (l.take b.toNat).drop a.toNat
noncomputable def xN (t : TV) (W : Tw) : Option (Next × Tw) := (symX t W).bind fun p => some (.value p.1, p.2)
theorem Local.xN (t : TV) : Local (Mo.xN t) := Local.bind (Local.symX t) fun v => Local.ret (Next.value v)
noncomputable def cutY : Option Int → TV → Alt
  | none, t => .sy t
  | some _, t => .act (xN t) (Local.xN t)
noncomputable def cutA (P : Program) (t : TypeId) (lo hi mx : Option Int) : TV → Alt
  | ⟨.sl c, l⟩ => match elSz P t with
    | some z => Bool.rec (motive := fun _ => Alt) .fail (.br (cutOk (@List.length c.D l) lo hi mx) (cutY mx ⟨.sl c, @cutL c.D l lo hi⟩) .fail) (Nat.beq z c.n)
    | none => .fail
  | ⟨.str, s⟩ => match mx with
    | none => Bool.rec (motive := fun _ => Alt) .fail (.br (cutOk (@List.length UInt8 s) lo hi none) (.sy ⟨.str, @cutL UInt8 s lo hi⟩) .fail) (isStr P t)
    | some _ => .fail
  | _ => .fail
/-- What is one's own is shut. -/
noncomputable def shutV (v : Value) (W : Tw) : Option (Unit × Tw) := match v with
  | .chan (some n) => shutT n W
  | _ => some ((), W)
theorem Local.shutV (v : Value) : Local (Mo.shutV v) := by
  unfold Mo.shutV
  split
  · exact Local.shutT _
  · exact Local.ret _
noncomputable def sliceO (P : Program) (t : TypeId) (x : Value) (lo hi mx : Option Value) (W : Tw) : Option (Alt × Tw) := (shutV x W).bind fun (_, W1) => (payT x W1).bind fun (p, W2) => (payO lo W2).bind fun (a, W3) => (payO hi W3).bind fun (b, W4) => (payO mx W4).bind fun (m, W5) =>
  some (cutA P t a b m p, W5)
theorem Local.sliceO (P : Program) (t : TypeId) (x : Value) (lo hi mx : Option Value) : Local (Mo.sliceO P t x lo hi mx) :=
  Local.bind (G := fun (_ : Unit) W => (Mo.payT x W).bind fun p => (Mo.payO lo p.2).bind fun a => (Mo.payO hi a.2).bind fun b => (Mo.payO mx b.2).bind fun m => some (cutA P t a.1 b.1 m.1 p.1, m.2)) (Local.shutV x) fun _ =>
  Local.bind (G := fun p W => (Mo.payO lo W).bind fun a => (Mo.payO hi a.2).bind fun b => (Mo.payO mx b.2).bind fun m => some (cutA P t a.1 b.1 m.1 p, m.2)) (Local.payT x) fun p =>
  Local.bind (G := fun a W => (Mo.payO hi W).bind fun b => (Mo.payO mx b.2).bind fun m => some (cutA P t a b.1 m.1 p, m.2)) (Local.payO lo) fun a =>
  Local.bind (G := fun b W => (Mo.payO mx W).bind fun m => some (cutA P t a b m.1 p, m.2)) (Local.payO hi) fun b =>
  Local.bind (G := fun m W => some (cutA P t a b m p, W)) (Local.payO mx) fun m => Local.ret _
section
variable {P : Program} {w0 : Bs} {ρ : Ren}
/-- A number, or none. -/
inductive IV : Option Int → Option Value → Prop
  | none : IV none none
  | some (k : IntKind) (z : Int) : IV (some z) (some (.int k z))
theorem payO_sound {v v' : Option Value} {W W' : Tw} {w : World} {x : Option Int} (hW : WR w0 ρ W w) (hv : OV ρ v v') (h : payO v W = some (x, W')) : IV x v' ∧ WR w0 ρ W' w ∧ W'.nx = W.nx ∧ W'.lim = W.lim := by
  cases hv with
  | none => cases h; exact ⟨.none, hW, rfl, rfl⟩
  | some hv =>
    obtain ⟨p, W1, h1, h2⟩ := bind_some h
    obtain ⟨k1, k2, k3, k4⟩ := payT_sound hW hv h1
    obtain ⟨t, z⟩ := p
    cases t with
    | int k =>
      cases h2
      unfold TV.Rd Ty.Rd at k1
      rw [k1]
      exact ⟨.some k z, k2, k3, k4⟩
    | _ => cases h2
theorem cut_spec {α : Type} {l : List α} {lo hi mx : Option Int} (h : cutOk (List.length l) lo hi mx = true) : ∃ k h m, k ≤ h ∧ h ≤ m ∧ h ≤ List.length l ∧ cutL l lo hi = (l.take h).drop k ∧
    (lo = none ∧ k = 0 ∨ ∃ z, lo = some z ∧ 0 ≤ z ∧ z.toNat = k) ∧ (hi = none ∧ h = List.length l ∨ ∃ z, hi = some z ∧ 0 ≤ z ∧ z.toNat = h) ∧
    (mx = none ∧ m = List.length l ∨ ∃ z, mx = some z ∧ 0 ≤ z ∧ z.toNat = m ∧ m ≤ List.length l ∧ (∃ u, hi = some u) ∧ m = h) := by
  match lo, hi, mx with
  | none, none, none => exact ⟨0, List.length l, List.length l, by omega, by omega, by omega, by simp [cutL], .inl ⟨rfl, rfl⟩, .inl ⟨rfl, rfl⟩, .inl ⟨rfl, rfl⟩⟩
  | some a, none, none =>
    have h' := of_decide_eq_true h
    exact ⟨a.toNat, List.length l, List.length l, h'.2, by omega, by omega, by simp [cutL], .inr ⟨a, rfl, h'.1, rfl⟩, .inl ⟨rfl, rfl⟩, .inl ⟨rfl, rfl⟩⟩
  | none, some b, none =>
    have h' := of_decide_eq_true h
    exact ⟨0, b.toNat, List.length l, by omega, h'.2, h'.2, by simp [cutL], .inl ⟨rfl, rfl⟩, .inr ⟨b, rfl, h'.1, rfl⟩, .inl ⟨rfl, rfl⟩⟩
  | some a, some b, none =>
    have h' := of_decide_eq_true h
    exact ⟨a.toNat, b.toNat, List.length l, by omega, h'.2.2, h'.2.2, rfl, .inr ⟨a, rfl, h'.1, rfl⟩, .inr ⟨b, rfl, by omega, rfl⟩, .inl ⟨rfl, rfl⟩⟩
  | none, some b, some m =>
    have h' := of_decide_eq_true h
    exact ⟨0, b.toNat, m.toNat, by omega, by omega, by omega, by simp [cutL], .inl ⟨rfl, rfl⟩, .inr ⟨b, rfl, h'.1, rfl⟩, .inr ⟨m, rfl, by omega, rfl, h'.2.2, ⟨b, rfl⟩, by omega⟩⟩
  | some a, some b, some m =>
    have h' := of_decide_eq_true h
    exact ⟨a.toNat, b.toNat, m.toNat, by omega, by omega, by omega, rfl, .inr ⟨a, rfl, h'.1, rfl⟩, .inr ⟨b, rfl, by omega, rfl⟩, .inr ⟨m, rfl, by omega, rfl, h'.2.2.2, ⟨b, rfl⟩, by omega⟩⟩
  | none, none, some _ => cases h
  | some _, none, some _ => cases h
theorem ov_refl {x : Option Int} {v : Option Value} (h : IV x v) : OV ρ v v := by
  cases h with
  | none => exact .none
  | some k z => exact .some (.int k z)
theorem idxT_of {x : Option Int} {v : Option Value} {d k : Nat} (h : IV x v) (hk : x = none ∧ k = d ∨ ∃ z, x = some z ∧ 0 ≤ z ∧ z.toNat = k) : idxT d v = some k := by
  cases h with
  | none => rcases hk with ⟨-, rfl⟩ | ⟨z, h, -⟩; rfl; cases h
  | some q z =>
    rcases hk with ⟨h, -⟩ | ⟨z', h, h1, h2⟩
    · cases h
    · cases h
      simp only [idxT]
      rw [if_pos h1, h2]
theorem run_bounds {b : Bool} {l cap : Nat} {lo hi mx : Option Int} {lo' hi' mx' : Option Value} {k h m : Nat} (a1 : IV lo lo') (a2 : IV hi hi') (a3 : IV mx mx') (hkh : k ≤ h) (hhm : h ≤ m)
    (h1 : lo = none ∧ k = 0 ∨ ∃ z, lo = some z ∧ 0 ≤ z ∧ z.toNat = k) (h2 : hi = none ∧ h = l ∨ ∃ z, hi = some z ∧ 0 ≤ z ∧ z.toNat = h) (h3 : mx = none ∧ m = cap ∨ ∃ z, mx = some z ∧ 0 ≤ z ∧ z.toNat = m ∧ m ≤ cap ∧ ∃ u, hi = some u) :
    Instr.sliceBounds b l cap lo' hi' mx' = pure (k, h, m) := by
  let ρ0 : Ren := ⟨fun _ => False, fun _ => 0, fun _ => 0, fun _ => 0, fun _ => 0, fun _ => 0, fun _ _ => False, fun _ _ => none⟩
  refine slice_run (ρ := ρ0) (ov_refl a1) (ov_refl a2) (ov_refl a3) ?_ (idxT_of a2 (by
    rcases h2 with ⟨e1, e2⟩ | e
    · exact .inl ⟨e1, e2⟩
    · exact .inr e)) (idxT_of a1 h1) hkh hhm
  rcases h3 with ⟨rfl, rfl⟩ | ⟨z, rfl, e1, e2, e3, u, rfl⟩
  · cases a3; exact .inl ⟨rfl, rfl⟩
  · cases a3 with
    | some q z => cases a2 with
      | some q2 z2 =>
        refine .inr ⟨_, rfl, ?_, e3, _, rfl⟩
        simp only [idxT]
        rw [if_pos e1, e2]
theorem rd_cut {pr : Pt} {c : Tys} {l : List c.D} {b off k h : Nat} (hk : k ≤ h) (hh : h ≤ List.length l) (hr : ∀ i (hi : i < List.length l), c.Rd pr (List.get l ⟨i, hi⟩) b (off + i * c.n)) :
    ∀ i (hi : i < List.length ((l.take h).drop k)), c.Rd pr (List.get ((l.take h).drop k) ⟨i, hi⟩) b (off + k * c.n + i * c.n) := fun i hi => by
  have hi' : k + i < List.length l := by
    have := hi
    rw [List.length_drop, List.length_take] at this
    omega
  have := hr (k + i) hi'
  have e : List.get ((l.take h).drop k) ⟨i, hi⟩ = List.get l ⟨k + i, hi'⟩ := by
    show ((l.take h).drop k)[i] = l[k + i]
    simp
  rw [e, Nat.add_assoc, ← Nat.add_mul]
  exact this
theorem rd_mks {pr : Pt} {z : Ty.str.D} {v : Value} (h : v = .string ⟨⟨z⟩⟩) : Ty.str.Rd pr z v := by
  unfold Ty.Rd
  exact h
theorem cutC_sound {W : Tw} {w : World} (hW : WR w0 ρ W w) {t : TypeId} {c : Tys} {l : List c.D} {y : Value} {lo hi mx : Option Int} {lo' hi' mx' : Option Value} {sem : Sem Next} {z : Nat} (hp : (Ty.sl c).Rd ρ.pr l y) (a1 : IV lo lo') (a2 : IV hi hi') (a3 : IV mx mx')
    (hd : Does P w (Instr.sliceAt t y lo' hi' mx') sem) (hz : elSz P t = some z) (hb : Nat.beq z c.n = true) (hc : cutOk (List.length l) lo hi mx = true) : AltS P w0 ρ W w (cutY mx ⟨.sl c, cutL l lo hi⟩) sem := by
  have hzc := Nat.eq_of_beq_eq_true hb
  obtain ⟨e, ti, he, hti, hsz⟩ := run_elem hz
  obtain ⟨k, h, m, g1, g2, g3, g4, g5, g6, g7⟩ := cut_spec (l := l) hc
  obtain ⟨a, cap, rfl, r1, r2⟩ := sl_rd.1 hp
  -- which bound there is
  have hm : ∃ M, h ≤ M ∧ (mx = none ∧ M = cap ∨ ∃ z, mx = some z ∧ 0 ≤ z ∧ z.toNat = M ∧ M ≤ cap ∧ ∃ u, hi = some u) ∧ (mx = none ∨ M = h) := by
    rcases g7 with ⟨e1, e2⟩ | ⟨z, e1, e2, e3, e4, e5, e6⟩
    · exact ⟨cap, by omega, .inl ⟨e1, rfl⟩, .inl e1⟩
    · exact ⟨m, g2, .inr ⟨z, e1, e2, e3, by omega, e5⟩, .inr e6⟩
  obtain ⟨M, hM, h7, h8⟩ := hm
  have hrun : (Instr.sliceAt t (.slice a (List.length l) cap) lo' hi' mx').run P w = .ok (.slice (if M = k then a else a.map (·.add (k * ti.size))) (h - k) (M - k)) w := by
    unfold Instr.sliceAt
    show (Sem.bind (Go.underlying t) _).run P w = _
    rw [run_bind, run_und he]
    show (Instr.slice t _ lo' hi' mx').run P w = _
    unfold Instr.slice
    show (Sem.bind (Go.underlying t) _).run P w = _
    rw [run_bind, run_und he]
    show (Sem.bind (Instr.sliceBounds true _ cap lo' hi' mx') _).run P w = _
    rw [run_bounds a1 a2 a3 g1 hM g5 g6 h7]
    show (Sem.bind (Go.sizeOf e) _).run P w = _
    have hs : (Go.sizeOf e : Sem Nat).run P w = .ok ti.size w := by
      show (Sem.bind (Go.typeInfo e) _).run P w = _
      rw [run_bind]
      have : (Go.typeInfo e : Sem TypeInfo).run P w = .ok ti w := by
        show (Sem.bind _ _).run P w = _
        simp only [Go.program, Sem.bind, Sem.run, hti]
        rfl
      rw [this]
      rfl
    rw [run_bind, hs]
    rfl
  have key : (Ty.sl c).Rd ρ.pr (cutL l lo hi) (.slice (if M = k then a else a.map (·.add (k * ti.size))) (h - k) (M - k)) := by
   skip
   rw [g4]
   have hlen : List.length ((l.take h).drop k) = h - k := by rw [List.length_drop, List.length_take]; omega
   rcases r2 with ⟨rfl, r2⟩ | ⟨b, off, rfl, r2⟩
   · have hM0 : M = 0 := by
        rcases h7 with ⟨-, rfl⟩ | ⟨_, _, _, _, h, _⟩
        · exact r2.2
        · have := r2.2; omega
     have hl0 : List.length l = 0 := r2.1
     refine sl_rd.2 ⟨none, M - k, ?_, by omega, .inl ⟨rfl, by omega, by omega⟩⟩
     rw [hlen]
     split <;> rfl
   · by_cases hMk : M = k
     · refine sl_rd.2 ⟨some ⟨b, off, none⟩, M - k, by rw [if_pos hMk, hlen], by omega, .inr ⟨b, off, rfl, fun i hi => absurd hi (by omega)⟩⟩
     · refine sl_rd.2 ⟨some ⟨b, off + k * c.n, none⟩, M - k, ?_, by omega, .inr ⟨b, off + k * c.n, rfl, rd_cut g1 g3 r2⟩⟩
       rw [if_neg hMk, hlen]
       simp only [Option.map_some, add_none, hsz, hzc]
  cases mx with
  | none => exact AltS.sy hW (hd _ _ hrun) key
  | some z =>
    have hMh : M = h := by
      rcases h8 with h8 | h8
      · cases h8
      · exact h8
    subst hMh
    refine AltS.act fun n W' hr => ?_
    obtain ⟨v, W1, f1, f2⟩ := bind_some hr
    cases f2
    exact ⟨_, w, hd _ _ hrun, (symX_sound hW f1 key).mono fun _ _ hv => .value hv⟩
theorem cutS_sound {W : Tw} {w : World} (hW : WR w0 ρ W w) {t : TypeId} {s : List UInt8} {lo hi : Option Int} {lo' hi' : Option Value} {sem : Sem Next} (a1 : IV lo lo') (a2 : IV hi hi')
    (hd : Does P w (Instr.sliceAt t (.string ⟨⟨s⟩⟩) lo' hi' none) sem) (hu : P.underlying t = some .string) (hc : cutOk (List.length s) lo hi none = true) : AltS P w0 ρ W w (.sy ⟨.str, cutL s lo hi⟩) sem := by
  obtain ⟨k, h, m, g1, g2, g3, g4, g5, g6, g7⟩ := cut_spec (l := s) hc
  have hrun : (Instr.sliceAt t (.string ⟨⟨s⟩⟩) lo' hi' none).run P w = .ok (.string ((⟨⟨s⟩⟩ : ByteArray).extract k h)) w := by
    unfold Instr.sliceAt
    show (Sem.bind (Go.underlying t) _).run P w = _
    rw [run_bind, run_und hu]
    show (Instr.slice t _ lo' hi' none).run P w = _
    unfold Instr.slice
    show (Sem.bind (Go.underlying t) _).run P w = _
    rw [run_bind, run_und hu]
    show (Sem.bind (Instr.sliceBounds false _ _ lo' hi' none) _).run P w = _
    have hsz : (⟨⟨s⟩⟩ : ByteArray).size = List.length s := rfl
    rw [hsz, run_bounds (m := List.length s) a1 a2 .none g1 g3 g5 g6 (.inl ⟨rfl, rfl⟩)]
    rfl
  refine AltS.sy hW (hd _ _ hrun) ?_
  refine rd_mks ?_
  show _ = Value.string ⟨⟨cutL s lo hi⟩⟩
  rw [g4]
  congr 1
  apply ByteArray.ext
  show (ByteArray.extract _ k h).data = _
  rw [ByteArray.data_extract]
  apply Array.ext'
  rw [List.drop_take]
  simp [List.extract]
theorem cutA_sound {W : Tw} {w : World} (hW : WR w0 ρ W w) {t : TypeId} {p : TV} {y : Value} {lo hi mx : Option Int} {lo' hi' mx' : Option Value} {sem : Sem Next} (hp : p.Rd ρ.pr y) (a1 : IV lo lo') (a2 : IV hi hi') (a3 : IV mx mx')
    (hd : Does P w (Instr.sliceAt t y lo' hi' mx') sem) : AltS P w0 ρ W w (cutA P t lo hi mx p) sem := by
  have rec' : ∀ {c : Bool} {t : Alt}, (c = true → AltS P w0 ρ W w t sem) → AltS P w0 ρ W w (Bool.rec (motive := fun _ => Alt) .fail t c) sem := by
    intro c t h
    cases c with
    | true => exact h rfl
    | false => exact AltS.fail
  unfold cutA
  split
  · rename_i c l
    split
    · rename_i z hz
      exact rec' fun hb => AltS.br (fun hc => cutC_sound hW hp a1 a2 a3 hd hz hb hc) fun _ => AltS.fail
    · exact AltS.fail
  · rename_i s
    cases a3 with
    | some k z => exact AltS.fail
    | none =>
      refine rec' fun hs => AltS.br (fun hc => ?_) fun _ => AltS.fail
      have hu : P.underlying t = some .string := by
        unfold isStr at hs
        split at hs
        · assumption
        · cases hs
      have hy : y = .string ⟨⟨s⟩⟩ := by
        unfold TV.Rd Ty.Rd at hp
        exact hp
      subst hy
      exact cutS_sound hW a1 a2 hd hu hc
  · exact AltS.fail
theorem shutV_sound {v : Value} {W W' : Tw} {w : World} {u : Unit} (hW : WR w0 ρ W w) (h : shutV v W = some (u, W')) : Fz w0 ρ W w W' fun _ => True := by
  unfold shutV at h
  split at h
  · exact shutT_sound hW h
  · cases h; exact .refl hW trivial
theorem sliceO_sound {t : TypeId} {x y : Value} {lo hi mx lo' hi' mx' : Option Value} {W W1 : Tw} {w : World} {a : Alt} {sem : Sem Next} (hW : WR w0 ρ W w) (hx : VR ρ x y) (h1 : OV ρ lo lo') (h2 : OV ρ hi hi') (h3 : OV ρ mx mx') (h : sliceO P t x lo hi mx W = some (a, W1))
    (hd : Does P w (Instr.sliceAt t y lo' hi' mx') sem) : Fz w0 ρ W w W1 fun ρ' => AltS P w0 ρ' W1 w a sem := by
  obtain ⟨u, V1, e1, f1⟩ := bind_some h
  obtain ⟨p, V2, e2, f2⟩ := bind_some f1
  obtain ⟨a0, V3, e3, f3⟩ := bind_some f2
  obtain ⟨b0, V4, e4, f4⟩ := bind_some f3
  obtain ⟨m0, V5, e5, f5⟩ := bind_some f4
  cases f5
  refine (shutV_sound hW e1).bind fun ρ1 hl1 hV1 _ => ?_
  obtain ⟨p1, p2, p3, p4⟩ := payT_sound hV1 (hx.le hl1) e2
  have ovle : ∀ {v v' : Option Value}, OV ρ v v' → OV ρ1 v v' := fun h => by
    cases h with
    | none => exact .none
    | some h => exact .some (h.le hl1)
  obtain ⟨q1, q2, q3, q4⟩ := payO_sound p2 (ovle h1) e3
  obtain ⟨r1, r2, r3, r4⟩ := payO_sound q2 (ovle h2) e4
  obtain ⟨s1, s2, s3, s4⟩ := payO_sound r2 (ovle h3) e5
  exact ⟨ρ1.pr, .rfl', s2, ((s3.trans r3).trans q3).trans p3, ((s4.trans r4).trans q4).trans p4, cutA_sound s2 p1 q1 r1 s1 hd⟩
end
end Mo

namespace Mo
open Go

/-! ## A map, asked by a text of which only a name is known -/
/-- A bool or an int, as a value. -/
def plV : (t : Ty) → t.D → Option Value
  | .int k, z => some (.int k z)
  | .bool, b => some (.bool b)
  | _, _ => none
noncomputable def vPl : (t : Ty) → Value → Option t.D
  | .int k, v => match v with
    | .int j z => castI j k z
    | _ => none
  | .bool, v => match v with
    | .bool b => some b
    | _ => none
  | _, _ => none
theorem vPl_some {t : Ty} {v : Value} {x : t.D} (h : vPl t v = some x) : plV t x = some v := by
  cases t with
  | int k =>
    cases v <;> first | (cases h; done) | skip
    rename_i j z
    obtain ⟨h1, h2⟩ := castI_some (show castI j k z = some x from h)
    subst h1
    have h2' : z = x := h2
    rw [← h2']
    rfl
  | bool =>
    cases v <;> first | (cases h; done) | skip
    cases h
    rfl
  | str => cases h
  | sl c => cases h
theorem plV_rd {pr : Pt} {t : Ty} {v : Value} {x : t.D} (h : plV t x = some v) : t.Rd pr x v := by
  cases t with
  | int k => cases h; unfold Ty.Rd; rfl
  | bool => cases h; unfold Ty.Rd; rfl
  | str => cases h
  | sl c => cases h
theorem plV_VR {ρ : Ren} {t : Ty} {v y : Value} {x : t.D} (h : plV t x = some v) (hv : VR ρ v y) : y = v := by
  cases t with
  | int k => cases h; cases hv; rfl
  | bool => cases h; cases hv; rfl
  | str => cases h
  | sl c => cases h
/-- Entries, told. -/
noncomputable def esT (t : Ty) : List MapEntry → Option (List (List UInt8 × t.D))
  | [] => some []
  | e :: r => match e.key with
    | .string k => (vPl t e.val).bind fun v => (esT t r).map fun l => (k.data.toList, v) :: l
    | _ => none
noncomputable def getM {α : Type} (d : α) : List (List UInt8 × α) → List UInt8 → α
  | [], _ => d
  | p :: r, s => Bool.rec (motive := fun _ => α) (getM d r s) p.2 (s == p.1)
noncomputable def hasM {α : Type} : List (List UInt8 × α) → List UInt8 → Bool
  | [], _ => false
  | p :: r, s => Bool.rec (motive := fun _ => Bool) (hasM r s) true (s == p.1)
/-- The kind of what a map has. -/
noncomputable def tyV : Value → Option Ty
  | .int k _ => some (.int k)
  | .bool _ => some .bool
  | _ => none
noncomputable def twoN (a b : TV) (W : Tw) : Option (Next × Tw) := (symN a W).bind fun p => (symN b p.2).bind fun q => some (.value (.tuple ⟨[p.1, q.1]⟩), q.2)
theorem Local.twoN (a b : TV) : Local (Mo.twoN a b) := Local.bind (G := fun v W => (Mo.symN b W).bind fun q => some (Next.value (.tuple ⟨[v, q.1]⟩), q.2)) (Local.symN a) fun v => Local.bind (G := fun u W => some (Next.value (.tuple ⟨[v, u]⟩), W)) (Local.symN b) fun u => Local.ret _
noncomputable def altM (c : Bool) (a b : TV) : Alt := match c with
  | true => .act (twoN a b) (Local.twoN a b)
  | false => .sy a
noncomputable def isStrT (P : Program) (t : TypeId) : Bool := match P.underlying t with
  | some .string => true
  | _ => false
noncomputable def lookM (P : Program) (key elem : TypeId) (c : Bool) (s : List UInt8) (r : Row) : Option Alt := match isStrT P key, r.ob, (P.info? elem).bind (·.zero) with
  | true, some (.o (.map es _)), some z => (tyV z).bind fun t => (vPl t z).bind fun d => (esT t es.toList).map fun l => altM c ⟨t, getM d l s⟩ ⟨.bool, hasM l s⟩
  | _, _, _ => none
noncomputable def lookO (P : Program) (t : TypeId) (x i : Value) (c : Bool) (W : Tw) : Option (Alt × Tw) := match x, P.underlying t with
  | .map (some n), some (.map key elem) => (payT i W).bind fun p => match p.1 with
    | ⟨.str, s⟩ => (Tw.look n p.2).bind fun r => (lookM P key elem c s r.1).map fun a => (a, r.2)
    | _ => none
  | _, _ => none
theorem Local.lookO (P : Program) (t : TypeId) (x i : Value) (c : Bool) : Local (Mo.lookO P t x i c) := by
  unfold Mo.lookO
  split
  · rename_i n key elem _
    refine Local.bind (G := fun (p : TV) W => match p with
      | ⟨.str, s⟩ => (Tw.look n W).bind fun r => (lookM P key elem c s r.1).map fun a => (a, r.2)
      | _ => none) (Local.payT i) fun p => ?_
    split
    · rename_i s
      exact Local.map (Local.look n) fun r => lookM P key elem c s r
    · exact Local.fails
  · exact Local.fails
section
variable {P : Program} {w0 : Bs} {ρ : Ren}
theorem bytes_beq {s : List UInt8} {k : ByteArray} : ((⟨⟨s⟩⟩ : ByteArray) == k) = (s == k.data.toList) := by
  obtain ⟨⟨l⟩⟩ := k
  show ((⟨s⟩ : Array UInt8) == ⟨l⟩) = (s == l)
  rw [Bool.eq_iff_iff, beq_iff_eq, beq_iff_eq, Array.mk.injEq]
theorem findNow_T {t : Ty} {s : List UInt8} (d : t.D) : ∀ {es es' : List MapEntry} {l : List (List UInt8 × t.D)} (i : Nat), esT t es = some l → ME ρ es es' →
    ∃ r, Instr.findNow .string (.string ⟨⟨s⟩⟩) es' i = some r ∧ ((hasM l s = true ∧ ∃ j v, r = some (j, v) ∧ plV t (getM d l s) = some v) ∨ (hasM l s = false ∧ r = none ∧ getM d l s = d))
  | [], es', l, i, h, hm => by
    cases hm
    cases h
    exact ⟨none, rfl, .inr ⟨rfl, rfl, rfl⟩⟩
  | e :: r, es', l, i, h, hm => by
    cases hm with
    | cons b hk hv hm =>
      rename_i k v v' l'
      rw [esT] at h
      split at h
      · rename_i k' hk'
        obtain ⟨x, h1, h2⟩ := Option.bind_eq_some_iff.1 h
        obtain ⟨l2, h3, rfl⟩ := Option.map_eq_some_iff.1 h2
        have hk2 : k = .string k' := hk'
        subst hk2
        have hx : plV t x = some v := vPl_some h1
        have hvv : v' = v := plV_VR hx hv
        subst hvv
        rw [Instr.findNow]
        show ∃ r, (match Instr.sameNow .string (.string ⟨⟨s⟩⟩) (.string k') with
          | some true => some (some (i, v'))
          | some false => Instr.findNow .string (.string ⟨⟨s⟩⟩) l' (i + 1)
          | none => none) = some r ∧ _
        have hs : Instr.sameNow .string (.string ⟨⟨s⟩⟩) (.string k') = some (s == k'.data.toList) := by
          rw [← bytes_beq]
          rfl
        rw [hs]
        cases hb : (s == k'.data.toList) with
        | true =>
          refine ⟨_, rfl, .inl ⟨?_, i, v', rfl, ?_⟩⟩
          · rw [hasM, hb]
          · rw [getM, hb]
            exact hx
        | false =>
          obtain ⟨r, e1, e2⟩ := findNow_T d (i + 1) h3 hm
          refine ⟨r, e1, ?_⟩
          rw [hasM, getM, hb]
          exact e2
      · cases h
theorem altM_sound {W : Tw} {w : World} {c : Bool} {a b : TV} {y z : Value} {sem : Sem Next} (hW : WR w0 ρ W w) (ha : a.Rd ρ.pr y) (hb : b.Rd ρ.pr z) (hr : sem.run P w = .ok (.value (if c then .tuple #[y, z] else y)) w) : AltS P w0 ρ W w (altM c a b) sem := by
  cases c with
  | false => exact AltS.sy hW hr ha
  | true =>
    refine AltS.act fun n W' h => ?_
    obtain ⟨v, W1, h1, h2⟩ := bind_some h
    obtain ⟨u, W2, h3, h4⟩ := bind_some h2
    cases h4
    refine ⟨_, w, hr, ?_⟩
    refine (symN_sound hW h1 ha).bind fun ρ1 hl1 hW1 hv => (symN_sound hW1 h3 (hb.mono hl1.pr)).mono fun ρ2 hl2 hu => .value ?_
    refine .tuple rfl fun i hi => ?_
    match i, hi with
    | 0, _ => exact hv.le hl2
    | 1, _ => exact hu
theorem lookO_sound {t : TypeId} {x i x' i' : Value} {c : Bool} {W W1 : Tw} {w : World} {a : Alt} {sem : Sem Next} (hW : WR w0 ρ W w) (hx : VR ρ x x') (hi : VR ρ i i') (h : lookO P t x i c W = some (a, W1)) (hd : ∀ y w', (Instr.lookup t x' i' c).run P w = .ok y w' → sem.run P w = .ok (.value y) w') :
    WR w0 ρ W1 w ∧ W1.nx = W.nx ∧ W1.lim = W.lim ∧ AltS P w0 ρ W1 w a sem := by
  unfold lookO at h
  split at h
  · rename_i n key elem hu
    obtain ⟨p, W2, h1, h2⟩ := bind_some h
    obtain ⟨k1, k2, k3, k4⟩ := payT_sound hW hi h1
    obtain ⟨tp, s⟩ := p
    cases tp with
    | str =>
      simp only at h2
      obtain ⟨r, W3, h3, h4⟩ := bind_some h2
      obtain ⟨hg, rfl⟩ := look_some h3
      obtain ⟨al, h5, h6⟩ := Option.map_eq_some_iff.1 h4
      cases h6
      refine ⟨k2.read n, k3, k4, ?_⟩
      unfold lookM at h5
      split at h5
      · rename_i es cnt z hst ho hz
        obtain ⟨ty, h7, h8⟩ := Option.bind_eq_some_iff.1 h5
        obtain ⟨d, h9, h10⟩ := Option.bind_eq_some_iff.1 h8
        obtain ⟨l, h11, rfl⟩ := Option.map_eq_some_iff.1 h10
        obtain ⟨inf, hi1, hi2⟩ := Option.bind_eq_some_iff.1 hz
        have hi' : i' = .string ⟨⟨s⟩⟩ := by unfold TV.Rd Ty.Rd at k1; exact k1
        subst hi'
        cases hx with
        | map _ hdm =>
          obtain ⟨-, o', e1, e2⟩ := (k2.row _ _ hg).ob _ ho
          cases e2 with
          | map _ hme =>
            rename_i es'
            obtain ⟨q, f1, f2⟩ := findNow_T (s := s) d 0 h11 hme
            have hkey : P.underlying key = some .string := by
              unfold isStrT at hst
              split at hst
              · rename_i hh; exact hh
              · cases hst
            have hzv : plV ty d = some z := vPl_some h9
            have hck : (Instr.checkKey es'.isEmpty 10000 key (.string ⟨⟨s⟩⟩)).run P w = .ok () w := by
              unfold Instr.checkKey
              simp [run_und hkey]
            have hfk : (Instr.findKey key (.string ⟨⟨s⟩⟩) es'.toList).run P w = .ok q w := by
              unfold Instr.findKey
              simp [run_und hkey, f1]
            have hgo : (getObj (ρ.b n)).run P w = .ok (.map es' cnt) w := by
              unfold getObj
              simp [Sem.run, e1]
            have hzr : (zeroValue elem).run P w = .ok z w := by
              unfold zeroValue typeInfo
              simp [hi1, hi2]
            rcases f2 with ⟨g1, j, v, rfl, g2⟩ | ⟨g1, rfl, g2⟩
            · refine altM_sound (y := v) (z := .bool true) (k2.read n) (plV_rd g2) (by rw [g1]; exact plV_rd (t := .bool) rfl) (hd _ _ ?_)
              unfold Instr.lookup
              simp [run_und hu, hgo, hck, hfk]
            · refine altM_sound (y := z) (z := .bool false) (k2.read n) (by rw [g2]; exact plV_rd hzv) (by rw [g1]; exact plV_rd (t := .bool) rfl) (hd _ _ ?_)
              unfold Instr.lookup
              simp [run_und hu, hgo, hck, hfk, hzr]
      · cases h5
    | _ => cases h2
  · cases h
end
end Mo

namespace Mo
open Go

/-! ## make, of a length of which only a name is known -/
noncomputable def tyZ : Value → Option Ty
  | .int k z => match Int.decEq z 0 with
    | .isTrue _ => some (.int k)
    | .isFalse _ => none
  | .bool b => match b with
    | false => some .bool
    | true => none
  | .string s => match s with
    | ⟨⟨[]⟩⟩ => some .str
    | _ => none
  | _ => none
noncomputable def tysZ : List Value → Option Tys
  | [] => none
  | [v] => (tyZ v).map .one
  | v :: r => (tyZ v).bind fun t => (tysZ r).map fun c => .cons t c
theorem tyZ_rd {pr : Pt} {v : Value} {t : Ty} (h : tyZ v = some t) : t.Rd pr t.df v := by
  unfold tyZ at h
  split at h
  · rename_i k z
    split at h
    · rename_i hz _
      cases h
      subst hz
      unfold Ty.Rd
      rfl
    · cases h
  · split at h
    · cases h; unfold Ty.Rd; rfl
    · cases h
  · split at h
    · cases h; unfold Ty.Rd; rfl
    · cases h
  · cases h
theorem tysZ_at {pr : Pt} : ∀ {vs : List Value} {c : Tys} {a : Array Value} {o : Nat}, tysZ vs = some c → (∀ j (h : j < vs.length), a.getD (o + j) undef = vs[j]) → c.n = vs.length ∧ c.At pr c.df a o
  | [], c, a, o, h, _ => by cases h
  | [v], c, a, o, h, hc => by
    obtain ⟨t, h1, rfl⟩ := Option.map_eq_some_iff.1 (show (tyZ v).map Tys.one = some c from h)
    refine ⟨rfl, ?_⟩
    show t.Rd pr _ _
    have := hc 0 (by simp)
    rw [Nat.add_zero] at this
    rw [this]
    exact tyZ_rd h1
  | v :: u :: r, c, a, o, h, hc => by
    obtain ⟨t, h1, h2⟩ := Option.bind_eq_some_iff.1 (show (tyZ v).bind (fun t => (tysZ (u :: r)).map fun c => Tys.cons t c) = some c from h)
    obtain ⟨c', h3, rfl⟩ := Option.map_eq_some_iff.1 h2
    obtain ⟨k1, k2⟩ := tysZ_at (pr := pr) (a := a) (o := o + 1) h3 fun j hj => by
      have := hc (j + 1) (by simpa using hj)
      rw [show o + 1 + j = o + (j + 1) by omega, this]
      rfl
    refine ⟨by simp only [Tys.n, k1, List.length_cons], ?_, k2⟩
    have := hc 0 (by simp)
    rw [Nat.add_zero] at this
    rw [this]
    exact tyZ_rd h1
noncomputable def newM (c : Tys) (n : Nat) (e : TypeId) (W : Tw) : Option (Next × Tw) := (W.lay (rowL c (List.replicate n c.df) e)).bind fun p => some (.value (.chan (some p.1)), p.2)
theorem Local.newM (c : Tys) (n : Nat) (e : TypeId) : Local (Mo.newM c n e) := Local.bind (Local.lay _) fun n => Local.ret (Next.value (.chan (some n)))
noncomputable def mkI (P : Program) (t : TypeId) : Option (TypeId × Nat × Tys) := match P.underlying t with
  | some (.slice e) => match P.info? e with
    | some i => match i.zero with
      | some z => if Nat.beq z.cells.size i.size && Nat.blt 0 i.size then (tysZ z.cells.toList).map fun c => (e, i.bytes, c) else none
      | none => none
    | none => none
  | _ => none
noncomputable def isInt : TV → Option Int
  | ⟨.int _, x⟩ => some x
  | _ => none
noncomputable def sameS : Value → Value → Bool
  | .chan (some a), .chan (some b) => Nat.beq a b
  | _, _ => false
noncomputable def makeO (P : Program) (t : TypeId) (x y : Value) (W : Tw) : Option (Alt × Tw) := match sameS x y with
  | true => (payT x W).bind fun p => match isInt p.1, mkI P t with
    | some n, some q => some (.br (decide (0 ≤ n ∧ n * (q.2.1 + 1) ≤ 1099511627776)) (.act (newM q.2.2 n.toNat q.1) (Local.newM q.2.2 n.toNat q.1)) .fail, p.2)
    | _, _ => none
  | false => none
theorem Local.makeO (P : Program) (t : TypeId) (x y : Value) : Local (Mo.makeO P t x y) := by
  unfold Mo.makeO
  split
  · refine Local.bind (G := fun (p : TV) (W : Tw) => (match isInt p, mkI P t with
      | some n, some q => some (Alt.br (decide (0 ≤ n ∧ n * (q.2.1 + 1) ≤ 1099511627776)) (.act (Mo.newM q.2.2 n.toNat q.1) (Local.newM q.2.2 n.toNat q.1)) .fail, W)
      | _, _ => none : Option (Alt × Tw))) (Local.payT x) fun p => ?_
    split
    · exact Local.ret _
    · exact Local.fails
  · exact Local.fails
section
variable {P : Program} {w0 : Bs} {ρ : Ren}
theorem sameS_eq {x y : Value} (h : sameS x y = true) : ∃ n, x = .chan (some n) ∧ y = .chan (some n) := by
  unfold sameS at h
  split at h
  · rename_i a b
    rw [Nat.beq_eq] at h
    subst h
    exact ⟨a, rfl, rfl⟩
  · cases h
theorem isInt_rd {pr : Pt} {p : TV} {n : Int} {v : Value} (h : isInt p = some n) (hr : p.Rd pr v) : ∃ k, v = .int k n := by
  obtain ⟨t, x⟩ := p
  cases t with
  | int k =>
    cases h
    unfold TV.Rd Ty.Rd at hr
    exact ⟨k, hr⟩
  | _ => cases h
theorem makeO_sound {t : TypeId} {x y x' y' : Value} {W W1 : Tw} {w : World} {a : Alt} {sem : Sem Next} (hW : WR w0 ρ W w) (hx : VR ρ x x') (hy : VR ρ y y') (h : makeO P t x y W = some (a, W1)) (hd : ∀ y w', (Instr.makeSlice t x' y').run P w = .ok y w' → sem.run P w = .ok (.value y) w') :
    WR w0 ρ W1 w ∧ W1.nx = W.nx ∧ W1.lim = W.lim ∧ AltS P w0 ρ W1 w a sem := by
  unfold makeO at h
  split at h
  · rename_i hs
    obtain ⟨m, rfl, rfl⟩ := sameS_eq hs
    obtain ⟨p, W2, h1, h2⟩ := bind_some h
    obtain ⟨k1, k2, k3, k4⟩ := payT_sound hW hx h1
    obtain ⟨k1', -, -, -⟩ := payT_sound hW hy h1
    split at h2
    · rename_i n q hn hq
      cases h2
      obtain ⟨kx, rfl⟩ := isInt_rd hn k1
      obtain ⟨ky, rfl⟩ := isInt_rd hn k1'
      refine ⟨k2, k3, k4, AltS.br (fun hb => AltS.act fun nx W' hr => ?_) fun _ => AltS.fail⟩
      rw [decide_eq_true_eq] at hb
      obtain ⟨b1, b2⟩ := hb
      unfold mkI at hq
      split at hq
      · rename_i e ht
        split at hq
        · rename_i i hi
          split at hq
          · rename_i z hz
            split at hq
            · rename_i hc
              rw [Bool.and_eq_true, Nat.beq_eq, Nat.blt_eq] at hc
              obtain ⟨c1, c2⟩ := hc
              obtain ⟨c, h3, rfl⟩ := Option.map_eq_some_iff.1 hq
              simp only at b2 hr
              obtain ⟨nm, W3, h4, h5⟩ := bind_some hr
              cases h5
              have hcb : n * (i.bytes : Int) ≤ 1099511627776 ∧ n ≤ 1099511627776 := by
                rw [Int.mul_add, Int.mul_one] at b2
                have : 0 ≤ n * (i.bytes : Int) := Int.mul_nonneg (by omega) (by omega)
                omega
              have hm := run_make (P := P) w t e i z ht hi hz kx ky n n b1 (Int.le_refl _) (by rw [Int.mul_comm]; omega) (by omega)
              refine ⟨_, _, hd _ _ hm, ?_⟩
              have hcn : c.n = i.size := by
                have := (tysZ_at (pr := ρ.pr) (a := z.cells) (o := 0) h3 fun j hj => by
                  have hj' : j < z.cells.size := by simpa using hj
                  simp [Array.getD, hj']).1
                rw [this, ← c1]
                simp
              have hat : AtL ρ.pr c (List.replicate n.toNat c.df) (madeCells z.cells (n.toNat * i.size)) 0 := by
                intro j hj
                have hj' : j < n.toNat := by simpa using hj
                have e1 : List.get (List.replicate n.toNat c.df) ⟨j, hj⟩ = c.df := by simp
                rw [e1]
                refine (tysZ_at (pr := ρ.pr) h3 fun k hk => ?_).2
                have hk' : k < z.cells.size := by simpa using hk
                have hlt : j * c.n + k < n.toNat * i.size := by rw [hcn]; exact row_lt hj' (by omega)
                have hmod : (j * c.n + k) % z.cells.size = k := by
                  rw [hcn, ← c1, Nat.mul_comm, Nat.mul_add_mod, Nat.mod_eq_of_lt hk']
                have hsz : (madeCells z.cells (n.toNat * i.size)).size = n.toNat * i.size := by simp [madeCells]
                rw [Nat.zero_add, Array.getD_eq_getD_getElem?, Array.getElem?_eq_getElem (by rw [hsz]; exact hlt)]
                simp only [madeCells, Array.getElem_map, Array.getElem_range, hmod, Option.getD_some]
                simp [hk']
              have key := own_name (b := w.heap.size) (s := 0) (X := 0) (w' := w.alloc (.cells (madeCells z.cells (n.toNat * i.size)) e)) (lo := 0) (hi := 0) (l := List.replicate n.toNat c.df) k2 h4 k2.fresh k2.freshm k2.freshp (by
                show (w.heap.push _)[_]? = _
                simp) (.inl rfl) (by simp [madeCells, hcn]) hat (fun k hk hne => by
                show (w.heap.push _)[_]? = _
                rw [Array.getElem?_push, if_neg (by omega)]) (by show w.heap.size ≤ (w.heap.push _).size; simp) rfl rfl rfl
              refine key.mono fun ρ2 hl hv => .value ?_
              simpa using hv
            · cases hq
          · cases hq
        · cases hq
      · cases hq
    · cases h2
  · cases h
end
end Mo

namespace Mo
open Go

/-! ## Whether two arrays, or two structs, are alike -/
noncomputable def payL : List Value → Tw → Option (List TV × Tw)
  | [], W => some ([], W)
  | v :: r, W => (payT v W).bind fun (x, W1) => (payL r W1).bind fun (l, W2) => some (x :: l, W2)
theorem Local.payL : ∀ l, Local (Mo.payL l)
  | [] => Local.ret _
  | v :: r => Local.bind (G := fun x W => (Mo.payL r W).bind fun q => some (x :: q.1, q.2)) (Local.payT v) fun x => Local.bind (G := fun l W => some (x :: l, W)) (Local.payL r) fun l => Local.ret _
noncomputable def eqI (P : Program) (e : TypeId) (k j : IntKind) (x y : Int) : Option Bool := match P.underlying e with
  | some (.int _) => (castI j k y).map fun z => decide (x = z)
  | _ => none
noncomputable def eqBo (P : Program) (e : TypeId) (x y : Bool) : Option Bool := match P.underlying e with
  | some .bool => some (x == y)
  | _ => none
noncomputable def eqSt (P : Program) (e : TypeId) (x y : List UInt8) : Option Bool := match P.underlying e with
  | some .string => some (x == y)
  | _ => none
noncomputable def eqTV (P : Program) (e : TypeId) : TV → TV → Option Bool
  | ⟨.int k, x⟩, ⟨.int j, y⟩ => eqI P e k j x y
  | ⟨.bool, x⟩, ⟨.bool, y⟩ => eqBo P e x y
  | ⟨.str, x⟩, ⟨.str, y⟩ => eqSt P e x y
  | _, _ => none
noncomputable def eqL (P : Program) : List TypeId → List TV → List TV → Option Bool
  | [], [], [] => some true
  | e :: es, x :: xs, y :: ys => (eqTV P e x y).bind fun b => (eqL P es xs ys).map fun c => Bool.rec (motive := fun _ => Bool) false c b
  | _, _, _ => none
noncomputable def fldsT : Nat → List Field → Option (List TypeId)
  | _, [] => some []
  | i, f :: r => match f.name != "_", Nat.beq f.offset i with
    | true, true => (fldsT (i + 1) r).map fun l => f.type :: l
    | _, _ => none
noncomputable def shapeQ (P : Program) (t : TypeId) : Option (List TypeId) := match P.underlying t with
  | some (.array n e) => match P.info? e, Nat.beq (P.cellsOf e) 1 with
    | some _, true => some (List.replicate n e)
    | _, _ => none
  | some (.struct fs) => match P.stoodInHeld t with
    | false => fldsT 0 fs.toList
    | true => none
  | _ => none
noncomputable def eqB (b : BinOp) (c : Bool) : Option Bool := match b with
  | .eql => some c
  | .neq => some (!c)
  | _ => none
noncomputable def eqS (P : Program) (b : BinOp) (t : TypeId) (T U : List TV) : Option Alt := match P.eqGuardType P.depth t with
  | false => (shapeQ P t).bind fun es => (eqL P es T U).bind fun c => (eqB b c).map fun r => Alt.sy ⟨.bool, r⟩
  | true => none
noncomputable def eqO (P : Program) (b : BinOp) (t : TypeId) (xs ys : List Value) (W : Tw) : Option (Alt × Tw) := (payL xs W).bind fun p => (payL ys p.2).bind fun q => (eqS P b t p.1 q.1).map fun a => (a, q.2)
theorem Local.eqO (P : Program) (b : BinOp) (t : TypeId) (xs ys : List Value) : Local (Mo.eqO P b t xs ys) :=
  Local.bind (G := fun a W => (Mo.payL ys W).bind fun q => (eqS P b t a q.1).map fun r => (r, q.2)) (Local.payL xs) fun a => Local.map (Local.payL ys) fun c => eqS P b t a c
noncomputable def eqV (x y : Value) : Option (List Value × List Value) := match x, y with
  | .agg ⟨a⟩, .agg ⟨b⟩ => some (a, b)
  | _, _ => none
section
variable {P : Program} {w0 : Bs} {ρ : Ren}
theorem rd_int {pr : Pt} {k : IntKind} {x : (Ty.int k).D} {v : Value} (h : (TV.mk (.int k) x).Rd pr v) : v = .int k x := by unfold TV.Rd Ty.Rd at h; exact h
theorem rd_bool {pr : Pt} {x : Ty.bool.D} {v : Value} (h : (TV.mk .bool x).Rd pr v) : v = .bool x := by unfold TV.Rd Ty.Rd at h; exact h
theorem rd_str {pr : Pt} {x : Ty.str.D} {v : Value} (h : (TV.mk .str x).Rd pr v) : v = .string ⟨⟨x⟩⟩ := by unfold TV.Rd Ty.Rd at h; exact h
theorem bool_rd {pr : Pt} {x : Bool} : (TV.mk .bool x).Rd pr (.bool x) := by unfold TV.Rd Ty.Rd; rfl
theorem bytes_toList (x : List UInt8) : (⟨⟨x⟩⟩ : ByteArray).toList = x := by
  rw [ByteArray.toList_eq]
theorem run_bin {ev : Operand → Value} {dst : Option Nat} {b : BinOp} {t yt : TypeId} {ox oy : Operand} {ty pos after guard} {r : Value} {w : World}
    (hg : (eqGuard b t ox oy (ev ox) (ev oy)).run P w = .ok () w) (hb : (binOp b t (ev ox) (ev oy)).run P w = .ok r w) : (execOp ev ⟨dst, .binOp b t ox oy yt, ty, pos, after, guard⟩).run P w = .ok (.value r) w := by
  show (Sem.bind (Sem.bind _ _) _).run P w = _
  rw [run_bind, run_bind, hg]
  simp only [hb]
  rfl
theorem payL_sound : ∀ {vs ys : List Value} {W W' : Tw} {w : World} {T : List TV}, WR w0 ρ W w → LR' ρ vs ys → payL vs W = some (T, W') → RdL ρ.pr T ys ∧ WR w0 ρ W' w ∧ W'.nx = W.nx ∧ W'.lim = W.lim
  | [], ys, W, W', w, T, hW, hv, h => by
    cases h
    cases ys with
    | nil => exact ⟨trivial, hW, rfl, rfl⟩
    | cons y s => have := hv.len; simp at this
  | v :: vs, ys, W, W', w, T, hW, hv, h => by
    cases ys with
    | nil => have := hv.len; simp at this
    | cons y s =>
      obtain ⟨p, W1, h1, h2⟩ := bind_some h
      obtain ⟨q, W2, h3, h4⟩ := bind_some h2
      cases h4
      obtain ⟨k1, k2, k3, k4⟩ := payT_sound hW (hv.at' 0 (by simp) (by simp)) h1
      obtain ⟨m1, m2, m3, m4⟩ := payL_sound (ys := s) k2 ⟨by simpa using hv.len, fun i h1 h2 => hv.at' (i + 1) (by simpa using h1) (by simpa using h2)⟩ h3
      exact ⟨⟨k1, m1⟩, m2, m3.trans k3, m4.trans k4⟩

theorem plain_int {e : TypeId} {k : IntKind} (h : P.underlying e = some (.int k)) : P.plainKey e = true := by unfold Program.plainKey; rw [h]
theorem plain_bool {e : TypeId} (h : P.underlying e = some .bool) : P.plainKey e = true := by unfold Program.plainKey; rw [h]
theorem plain_str {e : TypeId} (h : P.underlying e = some .string) : P.plainKey e = true := by unfold Program.plainKey; rw [h]
theorem eqTV_sound {e : TypeId} {x y : TV} {a c : Value} {b : Bool} {pr : Pt} {d : Nat} {w : World} (h : eqTV P e x y = some b) (hx : x.Rd pr a) (hy : y.Rd pr c) :
    P.plainKey e = true ∧ (Op.equalIn (d + 1) e a c).run P w = .ok b w := by
  obtain ⟨tx, x⟩ := x
  obtain ⟨ty, y⟩ := y
  cases tx <;> cases ty <;> first | (cases h; done) | skip
  · rename_i k j
    have ha := rd_int hx
    have hc := rd_int hy
    replace h : eqI P e k j x y = some b := h
    unfold eqI at h
    split at h
    · rename_i k' hu
      obtain ⟨z, h1, rfl⟩ := Option.map_eq_some_iff.1 h
      obtain ⟨h2, h3⟩ := castI_some h1
      subst h2
      have h3' : y = z := h3
      rw [ha, hc]
      refine ⟨plain_int hu, ?_⟩
      rw [run_equalIn_int w d e _ _ _ _ hu, ← h3']
      congr 1
    · cases h
  · have ha := rd_bool hx
    have hc := rd_bool hy
    replace h : eqBo P e x y = some b := h
    unfold eqBo at h
    split at h
    · rename_i hu
      cases h
      rw [ha, hc]
      exact ⟨plain_bool hu, run_equalIn_bool' w d e _ _ hu⟩
    · cases h
  · have ha := rd_str hx
    have hc := rd_str hy
    replace h : eqSt P e x y = some b := h
    unfold eqSt at h
    split at h
    · rename_i hu
      cases h
      rw [ha, hc]
      refine ⟨plain_str hu, ?_⟩
      rw [run_equalIn_string w d e _ _ hu, bytes_toList, bytes_toList]
    · cases h
theorem RdL.one {pr : Pt} {x : TV} {r : List TV} {xs : Array Value} {i : Nat} (h : RdL pr (x :: r) (xs.toList.drop i)) : ∃ a, xs[i]? = some a ∧ x.Rd pr a ∧ RdL pr r (xs.toList.drop (i + 1)) := by
  cases hd : xs.toList.drop i with
  | nil => rw [hd] at h; exact h.elim
  | cons a s =>
    rw [hd] at h
    have e1 : xs.toList[i]? = some a := by
      have := congrArg List.head? hd
      simpa [List.head?_drop] using this
    have e2 : xs.toList.drop (i + 1) = s := by
      have := congrArg (List.drop 1) hd
      simpa [List.drop_drop, Nat.add_comm] using this
    exact ⟨a, by rw [← Array.getElem?_toList]; exact e1, h.1, by rw [e2]; exact h.2⟩
theorem eqFields_sound {d : Nat} {xs ys : Array Value} {pr : Pt} {w : World} : ∀ {fs : List Field} {i : Nat} {es : List TypeId} {T U : List TV} {b : Bool}, fldsT i fs = some es → eqL P es T U = some b → RdL pr T (xs.toList.drop i) → RdL pr U (ys.toList.drop i) →
    (Op.eqFields (d + 1) xs ys fs).run P w = .ok b w
  | [], i, es, T, U, b, h, he, hx, hy => by
    cases h
    cases T with
    | nil => cases U with
      | nil => cases he; simp [Op.eqFields]
      | cons u s => cases he
    | cons u s => cases he
  | f :: fs, i, es, T, U, b, h, he, hx, hy => by
    unfold fldsT at h
    split at h
    · rename_i hn ho
      obtain ⟨l, h1, rfl⟩ := Option.map_eq_some_iff.1 h
      have ho' : f.offset = i := Nat.eq_of_beq_eq_true ho
      have hn' : f.name ≠ "_" := by simpa using hn
      cases T with
      | nil => cases he
      | cons x T => cases U with
        | nil => cases he
        | cons y U =>
          obtain ⟨c, e1, e2⟩ := Option.bind_eq_some_iff.1 (show ((eqTV P f.type x y).bind fun b => (eqL P l T U).map fun c => Bool.rec (motive := fun _ => Bool) false c b) = some b from he)
          obtain ⟨r, e3, rfl⟩ := Option.map_eq_some_iff.1 e2
          obtain ⟨a1, p1, p2, p3⟩ := hx.one
          obtain ⟨a2, q1, q2, q3⟩ := hy.one
          obtain ⟨hp, hq⟩ := eqTV_sound (d := d) (w := w) e1 p2 q2
          have ih := eqFields_sound (w := w) h1 e3 p3 q3 (d := d)
          rw [← ho'] at p1 q1
          simp only [Op.eqFields, hn', ne_eq, not_false_eq_true, if_true, Sem.run_bind, run_part_plain w hp p1, run_part_plain w hp q1, hq, Result.andThen_ok]
          cases c
          · simp
          · simpa using ih
    · cases h
theorem eqItems_sound {d : Nat} {e : TypeId} {xs ys : Array Value} {pr : Pt} {w : World} : ∀ {n i : Nat} {T U : List TV} {b : Bool}, eqL P (List.replicate n e) T U = some b → RdL pr T (xs.toList.drop i) → RdL pr U (ys.toList.drop i) →
    (Op.eqItems (d + 1) e 1 xs ys (List.range' i n)).run P w = .ok b w
  | 0, i, T, U, b, he, hx, hy => by
    cases T with
    | nil => cases U with
      | nil => cases he; simp [Op.eqItems]
      | cons u s => cases he
    | cons u s => cases he
  | n + 1, i, T, U, b, he, hx, hy => by
    cases T with
    | nil => cases he
    | cons x T => cases U with
      | nil => cases he
      | cons y U =>
        obtain ⟨c, e1, e2⟩ := Option.bind_eq_some_iff.1 (show ((eqTV P e x y).bind fun b => (eqL P (List.replicate n e) T U).map fun c => Bool.rec (motive := fun _ => Bool) false c b) = some b from he)
        obtain ⟨r, e3, rfl⟩ := Option.map_eq_some_iff.1 e2
        obtain ⟨a1, p1, p2, p3⟩ := hx.one
        obtain ⟨a2, q1, q2, q3⟩ := hy.one
        obtain ⟨hp, hq⟩ := eqTV_sound (d := d) (w := w) e1 p2 q2
        have ih := eqItems_sound (w := w) e3 p3 q3 (d := d)
        rw [List.range'_succ]
        rw [← Nat.mul_one i] at p1 q1
        simp only [Op.eqItems, Sem.run_bind, run_part_plain w hp p1, run_part_plain w hp q1, hq, Result.andThen_ok]
        cases c
        · simp
        · simpa using ih
theorem eqV_some {x y : Value} {c : List Value × List Value} (h : eqV x y = some c) : x = .agg ⟨c.1⟩ ∧ y = .agg ⟨c.2⟩ := by
  unfold eqV at h
  split at h
  · cases h; exact ⟨rfl, rfl⟩
  · cases h
theorem agg_LR {l : List Value} {v : Value} (h : VR ρ (.agg ⟨l⟩) v) : ∃ us, v = .agg us ∧ LR' ρ l us.toList := by
  cases h with
  | agg hx h =>
    rename_i xs'
    refine ⟨xs', rfl, by simpa using hx, fun i h1 h2 => ?_⟩
    have := h i (by simpa using h1)
    simpa [Array.getD, h1, show i < xs'.size by simpa using h2] using this
theorem eqS_sound {b : BinOp} {t : TypeId} {T U : List TV} {xs ys : Array Value} {a : Alt} {W : Tw} {w : World} {ev : Operand → Value} {dst : Option Nat} {yt : TypeId} {ox oy : Operand} {ty pos after guard}
    (hW : WR w0 ρ W w) (h : eqS P b t T U = some a) (h1 : ev ox = .agg xs) (h2 : ev oy = .agg ys) (hx : RdL ρ.pr T xs.toList) (hy : RdL ρ.pr U ys.toList) :
    AltS P w0 ρ W w a (execOp ev ⟨dst, .binOp b t ox oy yt, ty, pos, after, guard⟩) := by
  unfold eqS at h
  split at h
  · rename_i hg
    obtain ⟨es, e1, e2⟩ := Option.bind_eq_some_iff.1 h
    obtain ⟨c, e3, e4⟩ := Option.bind_eq_some_iff.1 e2
    obtain ⟨r, e5, rfl⟩ := Option.map_eq_some_iff.1 e4
    have hq : (Op.equalIn 10000 t (.agg xs) (.agg ys)).run P w = .ok c w := by
      unfold shapeQ at e1
      split at e1
      · rename_i n e hu
        split at e1
        · rename_i i hi hc
          cases e1
          have hc' : P.cellsOf e = 1 := Nat.eq_of_beq_eq_true hc
          rw [show (10000 : Nat) = 9999 + 1 from rfl, run_equalIn_array w 9999 xs ys hu hi, hc', List.range_eq_range']
          exact eqItems_sound (d := 9998) e3 (by simpa using hx) (by simpa using hy)
        · cases e1
      · rename_i fs hu
        split at e1
        · rename_i hp
          have hf : P.fieldsOf t = fs := by unfold Program.fieldsOf; rw [hu]
          rw [show (10000 : Nat) = 9999 + 1 from rfl, run_equalIn_struct w 9999 t xs ys (by rw [hf]; exact hu) hp, hf]
          exact eqFields_sound (d := 9998) e1 e3 (by simpa using hx) (by simpa using hy)
        · cases e1
      · cases e1
    have hb : (binOp b t (.agg xs) (.agg ys)).run P w = .ok (.bool r) w := by
      cases b <;> first | (cases e5; done) | skip
      · cases e5
        rw [run_eql_struct, hq]; rfl
      · cases e5
        rw [run_neq_struct, hq]; rfl
    exact AltS.sy hW (run_bin (by rw [h1, h2]; exact run_eqGuard_agg w b t ox oy xs ys hg) (by rw [h1, h2]; exact hb)) bool_rd
  · cases h
theorem eqO_sound {ev : Operand → Value} {dst : Option Nat} {b : BinOp} {t yt : TypeId} {ox oy : Operand} {ty pos after guard} {x y : Value} {c : List Value × List Value} {W W1 : Tw} {w : World} {a : Alt} (hW : WR w0 ρ W w)
    (hc : eqV x y = some c) (hx : VR ρ x (ev ox)) (hy : VR ρ y (ev oy)) (h : eqO P b t c.1 c.2 W = some (a, W1)) :
    WR w0 ρ W1 w ∧ W1.nx = W.nx ∧ W1.lim = W.lim ∧ AltS P w0 ρ W1 w a (execOp ev ⟨dst, .binOp b t ox oy yt, ty, pos, after, guard⟩) := by
  obtain ⟨xs, ys⟩ := c
  obtain ⟨rfl, rfl⟩ := eqV_some hc
  obtain ⟨us, h1, l1⟩ := agg_LR hx
  obtain ⟨vs, h2, l2⟩ := agg_LR hy
  obtain ⟨p, W2, g1, g2⟩ := bind_some h
  obtain ⟨q, W3, g3, g4⟩ := bind_some g2
  obtain ⟨r, g5, g6⟩ := Option.map_eq_some_iff.1 g4
  cases g6
  obtain ⟨k1, k2, k3, k4⟩ := payL_sound hW l1 g1
  obtain ⟨m1, m2, m3, m4⟩ := payL_sound k2 l2 g3
  exact ⟨m2, m3.trans k3, m4.trans k4, eqS_sound m2 g5 h1 h2 k1 m1⟩
end
end Mo

namespace Mo
open Go

/-! ## A text of bytes -/
def numsB (l : List Int) : List UInt8 := l.map fun n => UInt8.ofNat n.toNat
noncomputable def cvB (P : Program) (s d : TypeId) (l : List Int) : Alt := match P.underlying s, P.underlying d with
  | some (.slice e), some .string => match P.underlying e with
    | some (.int .u8) => .sy ⟨.str, numsB l⟩
    | _ => .fail
  | _, _ => .fail
section
variable {P : Program} {w0 : Bs} {ρ : Ren}
theorem conv_exec {ev : Operand → Value} {dst : Option Nat} {a b : TypeId} {ox : Operand} {ty pos after guard} {r : Value} {w : World} (h : (convert a b (ev ox)).run P w = .ok r w) :
    (execOp ev ⟨dst, .convert a b ox, ty, pos, after, guard⟩).run P w = .ok (.value r) w := by
  show (Sem.bind _ _).run P w = _
  rw [run_bind, h]
  rfl
theorem cvB_sound {W : Tw} {w : World} (hW : WR w0 ρ W w) {ev : Operand → Value} {dst : Option Nat} {a b : TypeId} {ox : Operand} {ty pos after guard} {l : List Int} (hx : (TV.mk (.sl (.one (.int .u8))) l).Rd ρ.pr (ev ox)) :
    AltS P w0 ρ W w (cvB P a b l) (execOp ev ⟨dst, .convert a b ox, ty, pos, after, guard⟩) := by
  unfold cvB
  split
  · rename_i e hs hd
    split
    · rename_i he
      have hr : (Ty.sl (.one (.int .u8))).Rd ρ.pr l (ev ox) := hx
      obtain ⟨ad, cap, h1, h2, h3⟩ := sl_rd.1 hr
      rcases h3 with ⟨rfl, h4, rfl⟩ | ⟨bb, off, rfl, h4⟩
      · have hl : l = [] := List.eq_nil_of_length_eq_zero h4
        subst hl
        refine AltS.sy hW (conv_exec (r := .string ByteArray.empty) ?_) (by unfold TV.Rd Ty.Rd; rfl)
        rw [h1]
        exact run_convert_bytes_nil w a e hs he _ _ b hd
      · refine AltS.sy hW (conv_exec (r := .string (strOfNums l)) ?_) (by unfold TV.Rd Ty.Rd; rfl)
        rw [h1]
        refine run_convert_bytes_arg w a e hs he bb off _ cap l rfl (fun i hi => ?_) b hd
        obtain ⟨y, g1, g2⟩ := h4 i hi
        have hy : y = .int .u8 (l.getD i 0) := by
          have g3 : Ty.Rd ρ.pr (.int .u8) (l.get ⟨i, hi⟩) y := g2
          unfold Ty.Rd at g3
          rw [g3]
          have hi' : i < l.length := hi
          simp [List.getD, hi']
        subst hy
        have hoff : off + i * (Tys.one (.int .u8)).n = off + i := by show off + i * 1 = _; omega
        rw [hoff] at g1
        obtain ⟨c, e1, m, q1, q2⟩ := hW.prw _ _ _ g1
        unfold World.cell?
        simp [q1, q2]
    · exact AltS.fail
  · exact AltS.fail
end
end Mo

namespace Mo
open Go

/-! ## Operations over symbols -/
noncomputable def binJ (b : BinOp) (k : IntKind) (x y : Int) : Alt := match b with
  | .add => .sy ⟨.int k, k.wrap (x + y)⟩
  | .sub => .sy ⟨.int k, k.wrap (x - y)⟩
  | .mul => .sy ⟨.int k, k.wrap (x * y)⟩
  | .quo => .br (decide (y = 0)) .fail (.sy ⟨.int k, k.wrap (x.tdiv y)⟩)
  | .rem => .br (decide (y = 0)) .fail (.sy ⟨.int k, x.tmod y⟩)
  | .and => .sy ⟨.int k, k.wrap ((BitVec.ofInt k.bits x &&& BitVec.ofInt k.bits y).toNat : Int)⟩
  | .or => .sy ⟨.int k, k.wrap ((BitVec.ofInt k.bits x ||| BitVec.ofInt k.bits y).toNat : Int)⟩
  | .xor => .sy ⟨.int k, k.wrap ((BitVec.ofInt k.bits x ^^^ BitVec.ofInt k.bits y).toNat : Int)⟩
  | .andNot => .sy ⟨.int k, k.wrap ((BitVec.ofInt k.bits x &&& ~~~ BitVec.ofInt k.bits y).toNat : Int)⟩
  | .eql => .sy ⟨.bool, x == y⟩
  | .neq => .sy ⟨.bool, x != y⟩
  | .lss => .sy ⟨.bool, decide (x < y)⟩
  | .leq => .sy ⟨.bool, decide (x ≤ y)⟩
  | .gtr => .sy ⟨.bool, decide (x > y)⟩
  | .geq => .sy ⟨.bool, decide (x ≥ y)⟩
  | _ => .fail
noncomputable def binI (b : BinOp) (k j : IntKind) (x y : Int) : Alt := match b with
  | .shl => .br (decide (0 ≤ y)) (.sy ⟨.int k, k.wrap (x * 2 ^ min y.toNat k.bits)⟩) .fail
  | .shr => .br (decide (0 ≤ y)) (.sy ⟨.int k, x.fdiv (2 ^ min y.toNat k.bits)⟩) .fail
  | b => Bool.rec (motive := fun _ => Alt) .fail (binJ b k x y) (kEq k j)
noncomputable def binS (b : BinOp) (x y : List UInt8) : Alt := match b with
  | .eql => .sy ⟨.bool, x == y⟩
  | .neq => .sy ⟨.bool, !(x == y)⟩
  | .add => .br (decide ((List.length x + List.length y : Nat) ≤ 9223372036854775807)) (.sy ⟨.str, x ++ y⟩) .fail
  | _ => .fail
noncomputable def isBool (P : Program) (t : TypeId) : Bool := match P.underlying t with
  | some .bool => true
  | _ => false
noncomputable def binB (b : BinOp) (x y : Bool) : Alt := match b with
  | .eql => .sy ⟨.bool, x == y⟩
  | .neq => .sy ⟨.bool, !(x == y)⟩
  | _ => .fail
noncomputable def binA (P : Program) (b : BinOp) (t : TypeId) : TV → TV → Alt
  | ⟨.int k, x⟩, ⟨.int j, y⟩ => binI b k j x y
  | ⟨.str, x⟩, ⟨.str, y⟩ => binS b x y
  | ⟨.bool, x⟩, ⟨.bool, y⟩ => Bool.rec (motive := fun _ => Alt) .fail (binB b x y) (isBool P t)
  | _, _ => .fail
noncomputable def unI (u : UnOp) (k : IntKind) (x : Int) : Alt := match u with
  | .neg => .sy ⟨.int k, k.wrap (0 - x)⟩
  | .xor => .sy ⟨.int k, k.wrap ((BitVec.ofInt k.bits (if k.signed then -1 else k.max) ^^^ BitVec.ofInt k.bits x).toNat : Int)⟩
  | _ => .fail
noncomputable def unB (u : UnOp) (x : Bool) : Alt := match u with
  | .not => .sy ⟨.bool, !x⟩
  | _ => .fail
noncomputable def unA (u : UnOp) : TV → Alt
  | ⟨.int k, x⟩ => unI u k x
  | ⟨.bool, x⟩ => unB u x
  | _ => .fail
noncomputable def cvI (P : Program) (s d : TypeId) (x : Int) : Alt := match P.underlying s, P.underlying d with
  | some (.int _), some (.int k) => .sy ⟨.int k, k.wrap x⟩
  | _, _ => .fail
noncomputable def cvA (P : Program) (s d : TypeId) : TV → Alt
  | ⟨.int _, x⟩ => cvI P s d x
  | ⟨.sl (.one (.int .u8)), l⟩ => cvB P s d l
  | _ => .fail
noncomputable def isSl (P : Program) (t : TypeId) : Bool := match P.underlying t with
  | some (.slice _) => true
  | _ => false
noncomputable def lenA (P : Program) (t : TypeId) : TV → Alt
  | ⟨.str, x⟩ => Bool.rec (motive := fun _ => Alt) .fail (.sy ⟨.int .i64, ((@List.length UInt8 x : Nat) : Int)⟩) (isStr P t)
  | ⟨.sl c, l⟩ => Bool.rec (motive := fun _ => Alt) .fail (.sy ⟨.int .i64, ((@List.length c.D l : Nat) : Int)⟩) (isSl P t)
  | _ => .fail
noncomputable def iaL (c : Tys) (l : List c.D) (i : Int) : Alt := .br (decide (0 ≤ i ∧ i.toNat < l.length)) (.vw c (l.getD i.toNat c.df)) .fail
noncomputable def iaA (P : Program) (t : TypeId) : TV → TV → Alt
  | ⟨.sl c, l⟩, ⟨.int _, i⟩ => match elSz P t with
    | some z => Bool.rec (motive := fun _ => Alt) .fail (iaL c l i) (Nat.beq z c.n)
    | none => .fail
  | _, _ => .fail
noncomputable def ixS (s : List UInt8) (i : Int) : Alt := .br (decide (0 ≤ i ∧ i.toNat < s.length)) (.sy ⟨.int .u8, (((s.getD i.toNat 0).toNat : Nat) : Int)⟩) .fail
noncomputable def ixA (P : Program) (t : TypeId) : TV → TV → Alt
  | ⟨.str, s⟩, ⟨.int _, i⟩ => Bool.rec (motive := fun _ => Alt) .fail (ixS s i) (isStr P t)
  | _, _ => .fail
noncomputable def pickA (x y : Value) : TV → Alt
  | ⟨.bool, b⟩ => .br b (.vl x) (.vl y)
  | _ => .fail
/-- A row of one's own? -/
noncomputable def ownQ (x : Value) (W : Tw) : Option (Bool × Tw) := match x with
  | .chan (some n) => (W.look n).bind fun p => (match p.1.ob with
    | some (.l _ _) => some true
    | _ => some false).map fun b => (b, p.2)
  | _ => some (false, W)
theorem Local.ownQ (x : Value) : Local (Mo.ownQ x) := by
  unfold Mo.ownQ
  split
  · exact Local.map (Local.look _) fun r => match r.ob with
    | some (.l _ _) => some true
    | _ => some false
  · exact Local.ret _
/-- How long a row of one's own is. -/
noncomputable def lenO (P : Program) (t : TypeId) (x : Value) (W : Tw) : Option (Alt × Tw) := match x with
  | .chan (some n) => (W.look n).bind fun p => (match p.1.ob with
    | some (.l _ l) => if isSl P t then some (Alt.sy ⟨.int .i64, ((List.length l : Nat) : Int)⟩) else none
    | _ => none).map fun a => (a, p.2)
  | _ => none
theorem Local.lenO (P : Program) (t : TypeId) (x : Value) : Local (Mo.lenO P t x) := by
  unfold Mo.lenO
  split
  · exact Local.map (Local.look _) fun r => match r.ob with
    | some (.l _ l) => if isSl P t then some (Alt.sy ⟨.int .i64, ((List.length l : Nat) : Int)⟩) else none
    | _ => none
  · exact Local.fails
noncomputable def mnI (mx : Bool) (x y : Int) : Int := match mx with
  | true => if y > x then y else x
  | false => if y < x then y else x
noncomputable def mnL (mx : Bool) : Int → List TV → Option Int
  | x, [] => some x
  | x, ⟨.int _, y⟩ :: r => mnL mx (mnI mx x y) r
  | _, _ => none
noncomputable def mnA (mx : Bool) : List TV → Alt
  | ⟨.int k, x⟩ :: r => match mnL mx x r with
    | some z => .sy ⟨.int k, z⟩
    | none => .fail
  | _ => .fail
noncomputable def intI (p : TV) : Option Int := match p with
  | ⟨.int _, z⟩ => some z
  | _ => none
noncomputable def idxP (P : Program) (t : TypeId) (x i : Value) (W : Tw) : Option (Alt × Tw) := (ownQ x W).bind fun b => match b.1 with
  | true => match elSz P t with
    | some z => (payT i b.2).bind fun q => match intI q.1 with
      | some j => idxO z x j q.2
      | none => none
    | none => none
  | false => (payT x b.2).bind fun p => (payT i p.2).bind fun q => some (iaA P t p.1 q.1, q.2)
theorem Local.idxP (P : Program) (t : TypeId) (x i : Value) : Local (Mo.idxP P t x i) := by
  refine Local.bind (G := fun (b : Bool) W => match b with
    | true => match elSz P t with
      | some z => (Mo.payT i W).bind fun q => match intI q.1 with
        | some j => Mo.idxO z x j q.2
        | none => none
      | none => none
    | false => (Mo.payT x W).bind fun p => (Mo.payT i p.2).bind fun q => some (iaA P t p.1 q.1, q.2)) (Local.ownQ x) fun b => ?_
  cases b with
  | true =>
    dsimp only
    cases elSz P t with
    | none => exact Local.fails
    | some z =>
      refine Local.bind (G := fun (q : TV) W => match intI q with
        | some j => Mo.idxO z x j W
        | none => none) (Local.payT i) fun q => ?_
      cases intI q with
      | none => exact Local.fails
      | some j => exact Local.idxO z x j
  | false => exact Local.bind (G := fun a W => (Mo.payT i W).bind fun q => some (iaA P t a q.1, q.2)) (Local.payT x) fun a => Local.bind (G := fun b W => some (iaA P t a b, W)) (Local.payT i) fun b => Local.ret _
noncomputable def lenP (P : Program) (t : TypeId) (x : Value) (W : Tw) : Option (Alt × Tw) := (ownQ x W).bind fun b => match b.1 with
  | true => lenO P t x b.2
  | false => (payT x b.2).bind fun p => some (lenA P t p.1, p.2)
theorem Local.lenP (P : Program) (t : TypeId) (x : Value) : Local (Mo.lenP P t x) := by
  refine Local.bind (G := fun (b : Bool) W => match b with
    | true => Mo.lenO P t x W
    | false => (Mo.payT x W).bind fun p => some (lenA P t p.1, p.2)) (Local.ownQ x) fun b => ?_
  cases b with
  | true => exact Local.lenO P t x
  | false => exact Local.bind (G := fun a W => some (lenA P t a, W)) (Local.payT x) fun a => Local.ret _
noncomputable def isNl : Value → Bool
  | .slice none _ _ => true
  | _ => false
noncomputable def nilA (P : Program) (t : TypeId) (b : BinOp) : Option Alt := match b with
  | .eql => if isSl P t then some (.vl (.bool false)) else none
  | .neq => if isSl P t then some (.vl (.bool true)) else none
  | _ => none
/-- What is known not to be nil. -/
noncomputable def nilO (P : Program) (t : TypeId) (b : BinOp) (x : Value) (W : Tw) : Option (Alt × Tw) := match x with
  | .chan (some n) => (W.look n).bind fun p => (match p.1.ob with
    | some (.l _ _) => nilA P t b
    | some (.p _) => if Nat.beq p.1.elem 1 then nilA P t b else none
    | _ => none).map fun a => (a, p.2)
  | _ => none
theorem Local.nilO (P : Program) (t : TypeId) (b : BinOp) (x : Value) : Local (Mo.nilO P t b x) := by
  unfold Mo.nilO
  split
  · exact Local.map (Local.look _) fun r => match r.ob with
    | some (.l _ _) => nilA P t b
    | some (.p _) => if Nat.beq r.elem 1 then nilA P t b else none
    | _ => none
  · exact Local.fails
/-- Which alternatives there are. -/
noncomputable def symO (P : Program) (ev : Operand → Value) (o : Op) (W : Tw) : Option (Alt × Tw) := match o with
  | .binOp b t x y _ => match isNl (ev y) with
    | true => nilO P t b (ev x) W
    | false => match eqV (ev x) (ev y) with
      | some c => eqO P b t c.1 c.2 W
      | none => (payT (ev x) W).bind fun p => (payT (ev y) p.2).bind fun q => some (binA P b t p.1 q.1, q.2)
  | .unOp u _ x => (payT (ev x) W).bind fun p => some (unA u p.1, p.2)
  | .convert s d x => (payT (ev x) W).bind fun p => some (cvA P s d p.1, p.2)
  | .pick c x y => (payT (ev c) W).bind fun p => some (pickA (ev x) (ev y) p.1, p.2)
  | .index t x i => (payT (ev x) W).bind fun p => (payT (ev i) p.2).bind fun q => some (ixA P t p.1 q.1, q.2)
  | .indexAddr t x i => idxP P t (ev x) (ev i) W
  | .load t x => loadO P t (ev x) W
  | .store t x y => storeO P t (ev x) (ev y) W
  | .fieldAddr s x f => faO P s (ev x) f W
  | .nilCheck x => ncO (ev x) W
  | .slice t x lo hi mx => sliceO P t (ev x) (lo.map ev) (hi.map ev) (mx.map ev) W
  | .call c => match c.callee, c.args.toList, c.argTypes.toList with
    | .builtin .len, [x], [t] => lenP P t (ev x) W
    | .builtin .append, [s, x], ts => appendO P ⟨ts⟩ (ev s) (ev x) W
    | .builtin .min, xs, _ => (payL (xs.map ev) W).bind fun p => some (mnA false p.1, p.2)
    | .builtin .max, xs, _ => (payL (xs.map ev) W).bind fun p => some (mnA true p.1, p.2)
    | _, _, _ => none
  | .lookup t x i c => lookO P t (ev x) (ev i) c W
  | .makeSlice t x y => makeO P t (ev x) (ev y) W
  | _ => none
noncomputable def symR (P : Program) (ev : Operand → Value) (o : Op) (W : Tw) : Option (Next × Tw) := (symO P ev o W).bind fun p => p.1.run p.2
theorem Local.symO (P : Program) (ev : Operand → Value) (o : Op) : Local (Mo.symO P ev o) := by
  have two : ∀ (x y : Value) (f : TV → TV → Alt), Local fun W => (Mo.payT x W).bind fun p => (Mo.payT y p.2).bind fun q => some (f p.1 q.1, q.2) := fun x y f =>
    Local.bind (G := fun a W => (Mo.payT y W).bind fun q => some (f a q.1, q.2)) (Local.payT x) fun a => Local.bind (G := fun b W => some (f a b, W)) (Local.payT y) fun b => Local.ret _
  have one : ∀ (x : Value) (f : TV → Alt), Local fun W => (Mo.payT x W).bind fun p => some (f p.1, p.2) := fun x f =>
    Local.bind (G := fun a W => some (f a, W)) (Local.payT x) fun a => Local.ret _
  unfold Mo.symO
  split
  · split
    · exact Local.nilO _ _ _ _
    · split
      · exact Local.eqO _ _ _ _ _
      · exact two _ _ _
  · exact one _ _
  · exact one _ _
  · exact one _ _
  · exact two _ _ _
  · exact Local.idxP _ _ _ _
  · exact Local.loadO _ _ _
  · exact Local.storeO _ _ _ _
  · exact Local.faO _ _ _ _
  · exact Local.ncO _
  · exact Local.sliceO _ _ _ _ _ _
  · split
    · exact Local.lenP _ _ _
    · exact Local.appendO _ _ _ _
    · exact Local.bind (G := fun l W => some (mnA false l, W)) (Local.payL _) fun l => Local.ret _
    · exact Local.bind (G := fun l W => some (mnA true l, W)) (Local.payL _) fun l => Local.ret _
    · exact Local.fails
  · exact Local.lookO _ _ _ _ _
  · exact Local.makeO _ _ _ _
  · exact Local.fails
theorem Local.symR (P : Program) (ev : Operand → Value) (o : Op) : Local (Mo.symR P ev o) := Local.bind (G := fun (a : Alt) W => a.run W) (Local.symO P ev o) fun a => Alt.local' a

section
variable {P : Program} {w0 : Bs} {ρ : Ren}
theorem int_rd {pr : Pt} {k : IntKind} {x : Int} : (TV.mk (.int k) x).Rd pr (.int k x) := by unfold TV.Rd Ty.Rd; rfl
theorem str_rd {pr : Pt} {x : List UInt8} : (TV.mk .str x).Rd pr (.string ⟨⟨x⟩⟩) := by unfold TV.Rd Ty.Rd; rfl

theorem guard_int {b : BinOp} {t : TypeId} {ox oy : Operand} {k j : IntKind} {x y : Int} {w : World} : (eqGuard b t ox oy (.int k x) (.int j y)).run P w = .ok () w := by
  unfold eqGuard; cases b <;> rfl
theorem guard_str {b : BinOp} {t : TypeId} {ox oy : Operand} {x y : ByteArray} {w : World} : (eqGuard b t ox oy (.string x) (.string y)).run P w = .ok () w := by
  unfold eqGuard; cases b <;> rfl
theorem guard_bool {b : BinOp} {t : TypeId} {ox oy : Operand} {x y : Bool} {w : World} : (eqGuard b t ox oy (.bool x) (.bool y)).run P w = .ok () w := by
  unfold eqGuard; cases b <;> rfl
theorem run_pure {α : Type} {s : Sem α} {a : α} {w : World} (h : s = pure a) : s.run P w = .ok a w := by rw [h]; rfl

theorem binJ_sound {W : Tw} {w : World} (hW : WR w0 ρ W w) {ev : Operand → Value} {dst : Option Nat} {b : BinOp} {t yt : TypeId} {ox oy : Operand} {ty pos after guard} {k : IntKind} {x y : Int} (hx : ev ox = .int k x) (hy : ev oy = .int k y) :
    AltS P w0 ρ W w (binJ b k x y) (execOp ev ⟨dst, .binOp b t ox oy yt, ty, pos, after, guard⟩) := by
  have hg : (eqGuard b t ox oy (ev ox) (ev oy)).run P w = .ok () w := by rw [hx, hy]; exact guard_int
  have go : ∀ {r : Value} {v : TV}, binOp b t (.int k x) (.int k y) = pure r → v.Rd ρ.pr r → AltS P w0 ρ W w (.sy v) (execOp ev ⟨dst, .binOp b t ox oy yt, ty, pos, after, guard⟩) := fun hb hv =>
    AltS.sy hW (run_bin hg (by rw [hx, hy]; exact run_pure hb)) hv
  cases b <;> unfold binJ <;> dsimp only
  case add => exact go (by simp [binOp, Op.intArith]) int_rd
  case sub => exact go (by simp [binOp, Op.intArith]) int_rd
  case mul => exact go (by simp [binOp, Op.intArith]) int_rd
  case quo => exact AltS.br (fun _ => AltS.fail) fun h => go (by
    have : ¬ y = 0 := by simpa using h
    simp [binOp, Op.intDiv, this]) int_rd
  case rem => exact AltS.br (fun _ => AltS.fail) fun h => go (by
    have : ¬ y = 0 := by simpa using h
    simp [binOp, Op.intDiv, this]) int_rd
  case and => exact go (by simp [binOp, Op.intBits]) int_rd
  case or => exact go (by simp [binOp, Op.intBits]) int_rd
  case xor => exact go (by simp [binOp, Op.intBits]) int_rd
  case andNot => exact go (by simp [binOp, Op.intBits]) int_rd
  case eql => exact go (by simp [binOp, Op.intCmp]) bool_rd
  case neq => exact go (by simp [binOp, Op.intCmp]) bool_rd
  case lss => exact go (by simp [binOp, Op.intCmp]) bool_rd
  case leq => exact go (by simp [binOp, Op.intCmp]) bool_rd
  case gtr => exact go (by simp [binOp, Op.intCmp]) bool_rd
  case geq => exact go (by simp [binOp, Op.intCmp]) bool_rd
  all_goals exact AltS.fail
theorem AltS.rec {W : Tw} {w : World} {s : Sem Next} {c : Bool} {t : Alt} (h : c = true → AltS P w0 ρ W w t s) : AltS P w0 ρ W w (Bool.rec (motive := fun _ => Alt) .fail t c) s := by
  cases c with
  | true => exact h rfl
  | false => exact AltS.fail
theorem binI_sound {W : Tw} {w : World} (hW : WR w0 ρ W w) {ev : Operand → Value} {dst : Option Nat} {b : BinOp} {t yt : TypeId} {ox oy : Operand} {ty pos after guard} {k j : IntKind} {x y : Int} (hx : ev ox = .int k x) (hy : ev oy = .int j y) :
    AltS P w0 ρ W w (binI b k j x y) (execOp ev ⟨dst, .binOp b t ox oy yt, ty, pos, after, guard⟩) := by
  have hg : (eqGuard b t ox oy (ev ox) (ev oy)).run P w = .ok () w := by rw [hx, hy]; exact guard_int
  have gen : AltS P w0 ρ W w (Bool.rec (motive := fun _ => Alt) .fail (binJ b k x y) (kEq k j)) (execOp ev ⟨dst, .binOp b t ox oy yt, ty, pos, after, guard⟩) :=
    AltS.rec fun h => binJ_sound hW hx (by rw [hy, kEq_eq h])
  cases b <;> unfold binI <;> dsimp only <;> first | exact gen | skip
  case shl => exact AltS.br (fun h => AltS.sy hW (run_bin hg (by
    have h0 : 0 ≤ y := by simpa using h
    have : ¬ y < 0 := by omega
    rw [hx, hy]; exact run_pure (by simp [binOp, Op.shift, this]))) int_rd) fun _ => AltS.fail
  case shr => exact AltS.br (fun h => AltS.sy hW (run_bin hg (by
    have h0 : 0 ≤ y := by simpa using h
    have : ¬ y < 0 := by omega
    rw [hx, hy]; exact run_pure (by simp [binOp, Op.shift, this]))) int_rd) fun _ => AltS.fail
theorem bytes_size (x : List UInt8) : (⟨⟨x⟩⟩ : ByteArray).size = x.length := rfl
theorem binS_sound {W : Tw} {w : World} (hW : WR w0 ρ W w) {ev : Operand → Value} {dst : Option Nat} {b : BinOp} {t yt : TypeId} {ox oy : Operand} {ty pos after guard} {x y : List UInt8} (hx : ev ox = .string ⟨⟨x⟩⟩) (hy : ev oy = .string ⟨⟨y⟩⟩) :
    AltS P w0 ρ W w (binS b x y) (execOp ev ⟨dst, .binOp b t ox oy yt, ty, pos, after, guard⟩) := by
  have hg : (eqGuard b t ox oy (ev ox) (ev oy)).run P w = .ok () w := by rw [hx, hy]; exact guard_str
  have go : ∀ {r : Value} {v : TV}, binOp b t (.string ⟨⟨x⟩⟩) (.string ⟨⟨y⟩⟩) = pure r → v.Rd ρ.pr r → AltS P w0 ρ W w (.sy v) (execOp ev ⟨dst, .binOp b t ox oy yt, ty, pos, after, guard⟩) := fun hb hv =>
    AltS.sy hW (run_bin hg (by rw [hx, hy]; exact run_pure hb)) hv
  cases b <;> unfold binS <;> dsimp only
  case eql => exact go (by simp only [binOp, Op.stringOp, bytes_toList]) bool_rd
  case neq => exact go (by simp only [binOp, Op.stringOp, bytes_toList]) bool_rd
  case add => exact AltS.br (fun h => go (by
    have h' : List.length x + List.length y ≤ 9223372036854775807 := by simpa using h
    have h2 : ¬ (((⟨⟨x⟩⟩ : ByteArray).size + (⟨⟨y⟩⟩ : ByteArray).size : Nat) : Int) > IntKind.i64.max := by
      rw [bytes_size, bytes_size]
      show ¬ (_ > (9223372036854775807 : Int))
      omega
    simp only [binOp, Op.stringOp]
    rw [if_neg h2]) (by
      have : (⟨⟨x⟩⟩ : ByteArray) ++ ⟨⟨y⟩⟩ = ⟨⟨x ++ y⟩⟩ := by
        apply ByteArray.ext
        show (ByteArray.append _ _).data = _
        simp
      rw [this]; exact str_rd)) fun _ => AltS.fail
  all_goals exact AltS.fail
theorem equal_bool {t : TypeId} {x y : Bool} {w : World} (ht : P.underlying t = some .bool) : (Op.equal t (.bool x) (.bool y)).run P w = .ok (x == y) w := by
  unfold Op.equal
  show (Op.equalIn (9999 + 1) t _ _).run P w = _
  unfold Op.equalIn
  show (Sem.bind _ _).run P w = _
  rw [run_bind, run_und ht]
  rfl
theorem binB_sound {W : Tw} {w : World} (hW : WR w0 ρ W w) {ev : Operand → Value} {dst : Option Nat} {b : BinOp} {t yt : TypeId} {ox oy : Operand} {ty pos after guard} {x y : Bool} (ht : isBool P t = true) (hx : ev ox = .bool x) (hy : ev oy = .bool y) :
    AltS P w0 ρ W w (binB b x y) (execOp ev ⟨dst, .binOp b t ox oy yt, ty, pos, after, guard⟩) := by
  have hg : (eqGuard b t ox oy (ev ox) (ev oy)).run P w = .ok () w := by rw [hx, hy]; exact guard_bool
  have hu : P.underlying t = some .bool := by
    unfold isBool at ht
    split at ht
    · assumption
    · cases ht
  cases b <;> unfold binB <;> dsimp only
  case eql =>
    refine AltS.sy hW (run_bin (r := .bool (x == y)) hg ?_) bool_rd
    rw [hx, hy]
    show (Sem.bind (Op.equal t _ _) _).run P w = _
    rw [run_bind, equal_bool hu]
    rfl
  case neq =>
    refine AltS.sy hW (run_bin (r := .bool (!(x == y))) hg ?_) bool_rd
    rw [hx, hy]
    show (Sem.bind (Op.equal t _ _) _).run P w = _
    rw [run_bind, equal_bool hu]
    rfl
  all_goals exact AltS.fail
theorem binA_sound {W : Tw} {w : World} (hW : WR w0 ρ W w) {ev : Operand → Value} {dst : Option Nat} {b : BinOp} {t yt : TypeId} {ox oy : Operand} {ty pos after guard} {x y : TV} (hx : x.Rd ρ.pr (ev ox)) (hy : y.Rd ρ.pr (ev oy)) :
    AltS P w0 ρ W w (binA P b t x y) (execOp ev ⟨dst, .binOp b t ox oy yt, ty, pos, after, guard⟩) := by
  unfold binA
  split
  · exact binI_sound hW (rd_int hx) (rd_int hy)
  · exact binS_sound hW (rd_str hx) (rd_str hy)
  · exact AltS.rec fun ht => binB_sound hW ht (rd_bool hx) (rd_bool hy)
  · exact AltS.fail
theorem run_un {ev : Operand → Value} {dst : Option Nat} {u : UnOp} {t : TypeId} {ox : Operand} {ty pos after guard} {r : Value} {w : World} (hb : (Op.unary u (ev ox)).run P w = .ok r w) :
    (execOp ev ⟨dst, .unOp u t ox, ty, pos, after, guard⟩).run P w = .ok (.value r) w := by
  show (Sem.bind _ _).run P w = _
  rw [run_bind, hb]
  rfl
theorem unA_sound {W : Tw} {w : World} (hW : WR w0 ρ W w) {ev : Operand → Value} {dst : Option Nat} {u : UnOp} {t : TypeId} {ox : Operand} {ty pos after guard} {x : TV} (hx : x.Rd ρ.pr (ev ox)) :
    AltS P w0 ρ W w (unA u x) (execOp ev ⟨dst, .unOp u t ox, ty, pos, after, guard⟩) := by
  unfold unA
  split
  · have h := rd_int hx
    cases u <;> unfold unI <;> dsimp only
    case neg => exact AltS.sy hW (run_un (by rw [h]; exact run_pure (by simp [Op.unary, Op.intArith]))) int_rd
    case xor => exact AltS.sy hW (run_un (by rw [h]; exact run_pure (by simp [Op.unary, Op.intBits]))) int_rd
    all_goals exact AltS.fail
  · have h := rd_bool hx
    cases u <;> unfold unB <;> dsimp only
    case not => exact AltS.sy hW (run_un (by rw [h]; exact run_pure rfl)) bool_rd
    all_goals exact AltS.fail
  · exact AltS.fail
theorem run_convI {a b : TypeId} {q k j : IntKind} {n : Int} {w : World} (ha : P.underlying a = some (.int j)) (hb : P.underlying b = some (.int k)) : (convert a b (.int q n)).run P w = .ok (.int k (k.wrap n)) w := by
  unfold convert
  show (Sem.bind (Go.underlying a) _).run P w = _
  rw [run_bind, run_und ha]
  show (Sem.bind (Go.underlying b) _).run P w = _
  rw [run_bind, run_und hb]
  rfl
theorem cvI_sound {W : Tw} {w : World} (hW : WR w0 ρ W w) {ev : Operand → Value} {dst : Option Nat} {a b : TypeId} {ox : Operand} {ty pos after guard} {k : IntKind} {x : Int} (h : ev ox = .int k x) :
    AltS P w0 ρ W w (cvI P a b x) (execOp ev ⟨dst, .convert a b ox, ty, pos, after, guard⟩) := by
  unfold cvI
  split
  · rename_i q ha hb
    refine AltS.sy hW ?_ int_rd
    show (Sem.bind (convert a b (ev ox)) _).run P w = _
    rw [h, run_bind, run_convI ha hb]
    rfl
  · exact AltS.fail
theorem cvA_sound {W : Tw} {w : World} (hW : WR w0 ρ W w) {ev : Operand → Value} {dst : Option Nat} {a b : TypeId} {ox : Operand} {ty pos after guard} {x : TV} (hx : x.Rd ρ.pr (ev ox)) :
    AltS P w0 ρ W w (cvA P a b x) (execOp ev ⟨dst, .convert a b ox, ty, pos, after, guard⟩) := by
  unfold cvA
  split
  · exact cvI_sound hW (rd_int hx)
  · exact cvB_sound hW hx
  · exact AltS.fail
theorem pickA_sound {W : Tw} {w : World} (hW : WR w0 ρ W w) {ev : Operand → Value} {dst : Option Nat} {c x y : Operand} {ty pos after guard} {vx vy : Value} {t : TV} (hc : t.Rd ρ.pr (ev c)) (hx : VR ρ vx (ev x)) (hy : VR ρ vy (ev y)) :
    AltS P w0 ρ W w (pickA vx vy t) (execOp ev ⟨dst, .pick c x y, ty, pos, after, guard⟩) := by
  unfold pickA
  split
  · rename_i b
    have h := rd_bool hc
    refine AltS.br (fun hb => ?_) fun hb => ?_
    · refine AltS.vl hW ?_ hx
      show (Sem.bind (asBool (ev c)) _).run P w = _
      rw [h, hb]
      rfl
    · refine AltS.vl hW ?_ hy
      show (Sem.bind (asBool (ev c)) _).run P w = _
      rw [h, hb]
      rfl
  · exact AltS.fail
theorem run_ixS {t : TypeId} {s : List UInt8} {k : IntKind} {n : Int} {w : World} (hu : P.underlying t = some .string) (h0 : 0 ≤ n) (h1 : n.toNat < s.length) :
    (Instr.index t (.string ⟨⟨s⟩⟩) (.int k n)).run P w = .ok (.int .u8 ((s.getD n.toNat 0).toNat : Nat)) w := by
  unfold Instr.index
  show (Sem.bind (Go.underlying t) _).run P w = _
  rw [run_bind, run_und hu]
  have e : (⟨⟨s⟩⟩ : ByteArray)[n.toNat]? = some (s.getD n.toNat 0) := by
    have h2 : n.toNat < (⟨⟨s⟩⟩ : ByteArray).size := h1
    rw [List.getD_eq_getElem?_getD, List.getElem?_eq_getElem h1]
    exact getElem?_pos (⟨⟨s⟩⟩ : ByteArray) n.toNat h2
  simp only
  rw [if_pos h0, e]
  rfl
theorem ixS_sound {W : Tw} {w : World} (hW : WR w0 ρ W w) {ev : Operand → Value} {dst : Option Nat} {t : TypeId} {x i : Operand} {ty pos after guard} {s : List UInt8} {k : IntKind} {n : Int} (hu : P.underlying t = some .string) (h1 : ev x = .string ⟨⟨s⟩⟩) (h2 : ev i = .int k n) :
    AltS P w0 ρ W w (ixS s n) (execOp ev ⟨dst, .index t x i, ty, pos, after, guard⟩) := by
  refine AltS.br (fun hc => ?_) fun _ => AltS.fail
  have hc' := of_decide_eq_true hc
  refine AltS.sy hW (y := .int .u8 ((s.getD n.toNat 0).toNat : Nat)) ?_ int_rd
  show (Sem.bind (Instr.index t (ev x) (ev i)) _).run P w = _
  rw [h1, h2, run_bind, run_ixS hu hc'.1 hc'.2]
  rfl
theorem ixA_sound {W : Tw} {w : World} (hW : WR w0 ρ W w) {ev : Operand → Value} {dst : Option Nat} {t : TypeId} {x i : Operand} {ty pos after guard} {a b : TV} (hx : a.Rd ρ.pr (ev x)) (hi : b.Rd ρ.pr (ev i)) :
    AltS P w0 ρ W w (ixA P t a b) (execOp ev ⟨dst, .index t x i, ty, pos, after, guard⟩) := by
  unfold ixA
  split
  · rename_i s k n
    have h1 := rd_str hx
    have h2 := rd_int hi
    refine AltS.rec fun ht => ?_
    have hu : P.underlying t = some .string := by
      unfold isStr at ht
      split at ht
      · assumption
      · cases ht
    exact ixS_sound hW hu h1 h2
  · exact AltS.fail
theorem iaL_sound {W : Tw} {w : World} (hW : WR w0 ρ W w) {ev : Operand → Value} {dst : Option Nat} {t : TypeId} {x i : Operand} {ty pos after guard} {c : Tys} {l : List c.D} {k : IntKind} {n : Int} (hz : elSz P t = some c.n) (h1 : (TV.mk (.sl c) l).Rd ρ.pr (ev x)) (h2 : ev i = .int k n) :
    AltS P w0 ρ W w (iaL c l n) (execOp ev ⟨dst, .indexAddr t x i, ty, pos, after, guard⟩) := by
  refine AltS.br (fun hc => ?_) fun _ => AltS.fail
  have hc' := of_decide_eq_true hc
  obtain ⟨e, ti, he, hi, hsz⟩ := run_elem hz
  unfold TV.Rd Ty.Rd at h1
  obtain ⟨a, cap, h3, h4, h5⟩ := h1
  rcases h5 with ⟨-, h5⟩ | ⟨b, off, rfl, h5⟩
  · have h5' : l.length = 0 := h5.1
    omega
  · refine AltS.vw hW (b := b) (o := off + n.toNat * c.n) ?_ ?_
    · show (Sem.bind (Instr.indexAt t (ev x) (ev i)) _).run P w = _
      rw [h3, h2, run_bind, run_iaS he hi hc'.1 hc'.2, hsz]
      rfl
    · have := h5 n.toNat hc'.2
      rw [List.getD_eq_getElem?_getD, List.getElem?_eq_getElem hc'.2]
      exact this
theorem iaA_sound {W : Tw} {w : World} (hW : WR w0 ρ W w) {ev : Operand → Value} {dst : Option Nat} {t : TypeId} {x i : Operand} {ty pos after guard} {a b : TV} (hx : a.Rd ρ.pr (ev x)) (hi : b.Rd ρ.pr (ev i)) :
    AltS P w0 ρ W w (iaA P t a b) (execOp ev ⟨dst, .indexAddr t x i, ty, pos, after, guard⟩) := by
  unfold iaA
  split
  · split
    · rename_i z hz
      refine AltS.rec fun hb => ?_
      rw [Nat.beq_eq] at hb
      exact iaL_sound hW (by rw [hz, hb]) hx (rd_int hi)
    · exact AltS.fail
  · exact AltS.fail
theorem run_lenB {ev : Operand → Value} {dst : Option Nat} {x : Operand} {t : TypeId} {ty pos after guard} {r : Value} {w : World} (hb : ∀ ty, (Builtin.len_ #[t] ty #[ev x]).run P w = .ok r w) :
    (execOp ev ⟨dst, .call ⟨.builtin .len, #[x], #[t]⟩, ty, pos, after, guard⟩).run P w = .ok (.value r) w := by
  have e : Array.map ev #[x] = #[ev x] := by simp
  show (do let d ← resolve ev ⟨.builtin .len, #[x], #[t]⟩ ty; invoke d.target d.args : Sem Next).run P w = _
  unfold resolve
  simp only [e]
  show (Sem.bind (Builtin.len_ #[t] ty #[ev x]) _).run P w = _
  rw [run_bind, hb]
  rfl
theorem run_lenS {t ty : TypeId} {s : List UInt8} {w : World} (hu : P.underlying t = some .string) : (Builtin.len_ #[t] ty #[.string ⟨⟨s⟩⟩]).run P w = .ok (.int .i64 (s.length : Nat)) w := by
  unfold Builtin.len_
  show (Sem.bind (Go.underlying t) _).run P w = _
  rw [run_bind, run_und hu]
  rfl
theorem run_lenL {t ty e : TypeId} {a : Option Addr} {l c : Nat} {w : World} (hu : P.underlying t = some (.slice e)) : (Builtin.len_ #[t] ty #[.slice a l c]).run P w = .ok (.int .i64 (l : Nat)) w := by
  unfold Builtin.len_
  show (Sem.bind (Go.underlying t) _).run P w = _
  rw [run_bind, run_und hu]
  rfl
theorem lenA_sound {W : Tw} {w : World} (hW : WR w0 ρ W w) {ev : Operand → Value} {dst : Option Nat} {t : TypeId} {x : Operand} {ty pos after guard} {a : TV} (hx : a.Rd ρ.pr (ev x)) :
    AltS P w0 ρ W w (lenA P t a) (execOp ev ⟨dst, .call ⟨.builtin .len, #[x], #[t]⟩, ty, pos, after, guard⟩) := by
  unfold lenA
  split
  · rename_i s
    refine AltS.rec fun ht => ?_
    have hu : P.underlying t = some .string := by
      unfold isStr at ht
      split at ht
      · assumption
      · cases ht
    exact AltS.sy hW (run_lenB fun ty => by rw [rd_str hx]; exact run_lenS hu) int_rd
  · rename_i c l
    refine AltS.rec fun ht => ?_
    have hu : ∃ e, P.underlying t = some (.slice e) := by
      unfold isSl at ht
      split at ht
      · exact ⟨_, by assumption⟩
      · cases ht
    obtain ⟨e, hu⟩ := hu
    unfold TV.Rd Ty.Rd at hx
    obtain ⟨a, cap, h3, h4, h5⟩ := hx
    exact AltS.sy hW (run_lenB fun ty => by rw [h3]; exact run_lenL hu) int_rd
  · exact AltS.fail
theorem does_v {s : Sem Value} {w : World} : Does P w s (do pure (.value (← s))) := fun y w' h => by
  show (Sem.bind s _).run P w = _
  rw [run_bind, h]
  rfl
theorem doesU_v {s : Sem Unit} {w : World} : DoesU P w s (do s; pure .skip) := fun w' h => by
  show (Sem.bind s _).run P w = _
  rw [run_bind, h]
  rfl
theorem ownQ_sound {x : Value} {W W' : Tw} {w : World} {b : Bool} (hW : WR w0 ρ W w) (h : ownQ x W = some (b, W')) : WR w0 ρ W' w ∧ W'.nx = W.nx ∧ W'.lim = W.lim := by
  unfold ownQ at h
  split at h
  · rename_i n
    obtain ⟨r, W1, h1, h2⟩ := bind_some h
    obtain ⟨hg, rfl⟩ := look_some h1
    simp only at h2
    have : W' = W.read n := by
      split at h2
      · cases h2; rfl
      · cases h2; rfl
    subst this
    exact ⟨hW.read n, rfl, rfl⟩
  · cases h; exact ⟨hW, rfl, rfl⟩
theorem lenO_sound {ev : Operand → Value} {dst : Option Nat} {t : TypeId} {x : Operand} {ty pos after guard} {v : Value} {W W1 : Tw} {w : World} {a : Alt} (hW : WR w0 ρ W w) (hx : VR ρ v (ev x)) (h : lenO P t v W = some (a, W1)) :
    WR w0 ρ W1 w ∧ W1.nx = W.nx ∧ W1.lim = W.lim ∧ AltS P w0 ρ W1 w a (execOp ev ⟨dst, .call ⟨.builtin .len, #[x], #[t]⟩, ty, pos, after, guard⟩) := by
  unfold lenO at h
  split at h
  · rename_i n
    obtain ⟨r, W2, h1, h2⟩ := bind_some h
    obtain ⟨hg, rfl⟩ := look_some h1
    simp only at h2
    split at h2
    · rename_i c l ho
      split at h2
      · rename_i ht
        cases h2
        have hgl := Tw.get_lt hg
        obtain ⟨cA, lo, hi2, n1, n2, n3, n4, n5, n6, n7⟩ := (hW.row _ _ hg).ls _ _ ho
        have hy : ev x = .slice (some ⟨ρ.b n, ρ.s n, none⟩) (List.length l) (List.length l + ρ.x n) := by
          generalize ev x = y at hx
          cases hx with
          | any y => simp [D0] at hgl
          | gho _ y hn hm => simp [D0] at hn; omega
          | sym _ y hd hm hb => exact n7 _ hm
        have hu : ∃ e, P.underlying t = some (.slice e) := by
          unfold isSl at ht
          split at ht
          · exact ⟨_, by assumption⟩
          · cases ht
        obtain ⟨e, hu⟩ := hu
        refine ⟨hW.read n, rfl, rfl, AltS.sy (hW.read n) (run_lenB fun ty => by rw [hy]; exact run_lenL hu) int_rd⟩
      · cases h2
    · cases h2
  · cases h
theorem mn_fold {mx : Bool} {k : IntKind} : ∀ {r : List TV} {ys : List Value} {x z : Int} {pr : Pt}, mnL mx x r = some z → RdL pr r ys → (ys.foldlM (if mx then Builtin.max2 else Builtin.min2) (.int k x) : Sem Value) = pure (.int k z)
  | [], [], x, z, pr, h, _ => by cases h; rfl
  | ⟨.int j, v⟩ :: r, y :: ys, x, z, pr, h, hr => by
    have hy : y = .int j v := rd_int hr.1
    subst hy
    have h' : mnL mx (mnI mx x v) r = some z := h
    have ih := mn_fold (k := k) h' hr.2
    rw [List.foldlM_cons]
    have e : ((if mx then Builtin.max2 else Builtin.min2) (.int k x) (.int j v) : Sem Value) = pure (.int k (mnI mx x v)) := by
      cases mx <;> rfl
    rw [e]
    show Sem.bind (pure _) _ = _
    exact ih
  | ⟨.bool, v⟩ :: r, y :: ys, x, z, pr, h, hr => by cases h
  | ⟨.str, v⟩ :: r, y :: ys, x, z, pr, h, hr => by cases h
  | ⟨.sl _, v⟩ :: r, y :: ys, x, z, pr, h, hr => by cases h
theorem mnA_sound {mx : Bool} {T : List TV} {ys : List Value} {W : Tw} {w : World} {sem : Sem Next} (hW : WR w0 ρ W w) (hr : RdL ρ.pr T ys)
    (hd : ∀ v, (match ys with
      | [] => stuck (if mx then "max: at least one argument expected" else "min: at least one argument expected")
      | x :: rest => rest.foldlM (if mx then Builtin.max2 else Builtin.min2) x : Sem Value).run P w = .ok v w → sem.run P w = .ok (.value v) w) : AltS P w0 ρ W w (mnA mx T) sem := by
  match T, ys, hr with
  | [], [], _ => exact AltS.fail
  | ⟨.int k, z⟩ :: r, y :: s, hr =>
    have hy : y = .int k z := rd_int hr.1
    subst hy
    show AltS P w0 ρ W w (match mnL mx z r with
      | some z => Alt.sy ⟨.int k, z⟩
      | none => Alt.fail) sem
    cases hm : mnL mx z r with
    | none => exact AltS.fail
    | some m =>
      refine AltS.sy hW (hd (.int k m) ?_) int_rd
      simp only
      rw [mn_fold hm hr.2]
      rfl
  | ⟨.bool, z⟩ :: r, y :: s, hr => exact AltS.fail
  | ⟨.str, z⟩ :: r, y :: s, hr => exact AltS.fail
  | ⟨.sl _, z⟩ :: r, y :: s, hr => exact AltS.fail
theorem run_built {ev : Operand → Value} {dst : Option Nat} {b : Go.Builtin} {xs : Array Operand} {ts : Array TypeId} {ty pos after guard} {r : Value} {w w' : World} {f : Array TypeId → TypeId → Array Value → Sem Value}
    (hi : ∀ d args, (invoke (.builtin b ts ty d) args : Sem Next) = (do pure (.value (← f ts ty args)))) (hb : (f ts ty (xs.map ev)).run P w = .ok r w') :
    (execOp ev ⟨dst, .call ⟨.builtin b, xs, ts⟩, ty, pos, after, guard⟩).run P w = .ok (.value r) w' := by
  show (do let d ← resolve ev ⟨.builtin b, xs, ts⟩ ty; invoke d.target d.args : Sem Next).run P w = _
  unfold resolve
  show (invoke (.builtin b ts ty _) (xs.map ev) : Sem Next).run P w = _
  rw [hi]
  show (Sem.bind _ _).run P w = _
  rw [run_bind, hb]
  rfl
theorem equal_nil {t e : TypeId} {a : Addr} {l c l' c' : Nat} {w : World} (ht : P.underlying t = some (.slice e)) : (Op.equal t (.slice (some a) l c) (.slice none l' c')).run P w = .ok false w := by
  unfold Op.equal
  show (Op.equalIn (9999 + 1) t _ _).run P w = _
  unfold Op.equalIn
  show (Sem.bind (Go.underlying t) _).run P w = _
  rw [run_bind, run_und ht]
  rfl
theorem nilO_sound {ev : Operand → Value} {dst : Option Nat} {b : BinOp} {t yt : TypeId} {ox oy : Operand} {ty pos after guard} {x y : Value} {W W1 : Tw} {w : World} {a : Alt} (hW : WR w0 ρ W w) (hx : VR ρ x (ev ox)) (hy : VR ρ y (ev oy)) (hn : isNl y = true) (h : nilO P t b x W = some (a, W1)) :
    WR w0 ρ W1 w ∧ W1.nx = W.nx ∧ W1.lim = W.lim ∧ AltS P w0 ρ W1 w a (execOp ev ⟨dst, .binOp b t ox oy yt, ty, pos, after, guard⟩) := by
  have hy' : ∃ l c, ev oy = .slice none l c := by
    generalize ev oy = v at hy
    unfold isNl at hn
    split at hn
    · cases hy; exact ⟨_, _, rfl⟩
    · cases hn
  obtain ⟨l', c', hy'⟩ := hy'
  unfold nilO at h
  split at h
  · rename_i n
    obtain ⟨r, W2, h1, h2⟩ := bind_some h
    obtain ⟨hg, rfl⟩ := look_some h1
    have hgl := Tw.get_lt hg
    have hm : ρ.m n (ev ox) := by
      generalize ev ox = v at hx
      cases hx with
      | any y => simp [D0] at hgl
      | gho _ y hn hm => simp [D0] at hn; omega
      | sym _ y hd hm hb => exact hm
    have main : (∃ ad k j, ev ox = .slice (some ad) k j) → nilA P t b = some a → AltS P w0 ρ (W.read n) w a (execOp ev ⟨dst, .binOp b t ox oy yt, ty, pos, after, guard⟩) := by
      rintro ⟨ad, k, j, hox⟩ ha
      unfold nilA at ha
      split at ha
      · split at ha
        · rename_i ht
          cases ha
          have hu : ∃ e, P.underlying t = some (.slice e) := by
            unfold isSl at ht
            split at ht
            · exact ⟨_, by assumption⟩
            · cases ht
          obtain ⟨e, hu⟩ := hu
          refine AltS.vl (hW.read n) (run_bin (r := .bool false) ?_ ?_) (.bool false)
          · rw [hox, hy']; rfl
          · rw [hox, hy']
            show (Sem.bind (Op.equal t _ _) _).run P w = _
            rw [run_bind, equal_nil hu]
            rfl
        · cases ha
      · split at ha
        · rename_i ht
          cases ha
          have hu : ∃ e, P.underlying t = some (.slice e) := by
            unfold isSl at ht
            split at ht
            · exact ⟨_, by assumption⟩
            · cases ht
          obtain ⟨e, hu⟩ := hu
          refine AltS.vl (hW.read n) (run_bin (r := .bool true) ?_ ?_) (.bool true)
          · rw [hox, hy']; rfl
          · rw [hox, hy']
            show (Sem.bind (Op.equal t _ _) _).run P w = _
            rw [run_bind, equal_nil hu]
            rfl
        · cases ha
      · cases ha
    simp only at h2
    split at h2
    · rename_i c l ho
      cases hna : nilA P t b with
      | none => rw [hna] at h2; cases h2
      | some a' =>
        rw [hna] at h2
        cases h2
        obtain ⟨cA, lo, hi2, n1, n2, n3, n4, n5, n6, n7⟩ := (hW.row _ _ hg).ls _ _ ho
        exact ⟨hW.read n, rfl, rfl, main ⟨_, _, _, n7 _ hm⟩ hna⟩
    · rename_i p ho
      split at h2
      · rename_i he
        cases hna : nilA P t b with
        | none => rw [hna] at h2; cases h2
        | some a' =>
          rw [hna] at h2
          cases h2
          exact ⟨hW.read n, rfl, rfl, main (((hW.row _ _ hg).py _ ho _ hm).2.2 (Nat.eq_of_beq_eq_true he)) hna⟩
      · cases h2
    · cases h2
  · cases h
/-- Operations over symbols are as they are told. -/
theorem symO_sound {ev ev' : Operand → Value} {o : Oper} {W W1 : Tw} {w : World} {a : Alt} (hv : ∀ x ∈ o.op.operands, VR ρ (ev x) (ev' x)) (hW : WR w0 ρ W w) (h : symO P ev o.op W = some (a, W1)) :
    Fz w0 ρ W w W1 fun ρ' => AltS P w0 ρ' W1 w a (execOp ev' o) := by
  have old : ∀ {W1 : Tw} {a : Alt} {s : Sem Next}, WR w0 ρ W1 w ∧ W1.nx = W.nx ∧ W1.lim = W.lim ∧ AltS P w0 ρ W1 w a s → Fz w0 ρ W w W1 fun ρ' => AltS P w0 ρ' W1 w a s := fun ⟨h1, h2, h3, h4⟩ => ⟨ρ.pr, .rfl', h1, h2, h3, h4⟩
  obtain ⟨dst, op, type, pos, after, guard⟩ := o
  simp only at hv h
  unfold symO at h
  split at h
  · rename_i b t x y z
    split at h
    · rename_i hn
      exact old (nilO_sound hW (hv x (by simp [Op.operands])) (hv y (by simp [Op.operands])) hn h)
    · split at h
      · rename_i c hc
        exact old (eqO_sound hW hc (hv x (by simp [Op.operands])) (hv y (by simp [Op.operands])) h)
      · obtain ⟨p, W2, h1, h2⟩ := bind_some h
        obtain ⟨q, W3, h3, h4⟩ := bind_some h2
        cases h4
        obtain ⟨k1, k2, k3, k4⟩ := payT_sound hW (hv x (by simp [Op.operands])) h1
        obtain ⟨m1, m2, m3, m4⟩ := payT_sound k2 (hv y (by simp [Op.operands])) h3
        exact old ⟨m2, m3.trans k3, m4.trans k4, binA_sound m2 k1 m1⟩
  · rename_i u t x
    obtain ⟨p, W2, h1, h2⟩ := bind_some h
    cases h2
    obtain ⟨k1, k2, k3, k4⟩ := payT_sound hW (hv x (by simp [Op.operands])) h1
    exact old ⟨k2, k3, k4, unA_sound k2 k1⟩
  · rename_i s d x
    obtain ⟨p, W2, h1, h2⟩ := bind_some h
    cases h2
    obtain ⟨k1, k2, k3, k4⟩ := payT_sound hW (hv x (by simp [Op.operands])) h1
    exact old ⟨k2, k3, k4, cvA_sound k2 k1⟩
  · rename_i c x y
    obtain ⟨p, W2, h1, h2⟩ := bind_some h
    cases h2
    obtain ⟨k1, k2, k3, k4⟩ := payT_sound hW (hv c (by simp [Op.operands])) h1
    exact old ⟨k2, k3, k4, pickA_sound k2 k1 (hv x (by simp [Op.operands])) (hv y (by simp [Op.operands]))⟩
  · rename_i t x i
    obtain ⟨p, W2, h1, h2⟩ := bind_some h
    obtain ⟨q, W3, h3, h4⟩ := bind_some h2
    cases h4
    obtain ⟨k1, k2, k3, k4⟩ := payT_sound hW (hv x (by simp [Op.operands])) h1
    obtain ⟨m1, m2, m3, m4⟩ := payT_sound k2 (hv i (by simp [Op.operands])) h3
    exact old ⟨m2, m3.trans k3, m4.trans k4, ixA_sound m2 k1 m1⟩
  · rename_i t x i
    have hx := hv x (by simp [Op.operands])
    have hi := hv i (by simp [Op.operands])
    obtain ⟨b, W0', g1, g2⟩ := bind_some h
    obtain ⟨o1, o2, o3⟩ := ownQ_sound hW g1
    cases b with
    | true =>
      simp only at g2
      cases hz : elSz P t with
      | none => rw [hz] at g2; cases g2
      | some z =>
        rw [hz] at g2
        obtain ⟨q, W3, h3, h4⟩ := bind_some g2
        obtain ⟨m1, m2, m3, m4⟩ := payT_sound o1 hi h3
        obtain ⟨tq, xq⟩ := q
        cases tq with
        | int kk =>
          have h4' : idxO z (ev x) xq W3 = some (a, W1) := h4
          obtain ⟨p1, p2, p3, p4, p5, p6⟩ := idxO_sound hz m2 hx (rd_int m1) h4' (sem := execOp ev' ⟨dst, .indexAddr t x i, type, pos, after, guard⟩) does_v
          exact ⟨p1, p2, p3, p4.trans (m3.trans o2), p5.trans (m4.trans o3), p6⟩
        | _ => cases h4
    | false =>
      obtain ⟨p, W2, h1, h2⟩ := bind_some g2
      obtain ⟨q, W3, h3, h4⟩ := bind_some h2
      cases h4
      obtain ⟨k1, k2, k3, k4⟩ := payT_sound o1 hx h1
      obtain ⟨m1, m2, m3, m4⟩ := payT_sound k2 hi h3
      exact old ⟨m2, (m3.trans k3).trans o2, (m4.trans k4).trans o3, iaA_sound m2 k1 m1⟩
  · rename_i t x
    exact loadO_sound hW (hv x (by simp [Op.operands])) h does_v
  · rename_i t x y
    exact storeO_sound hW (hv x (by simp [Op.operands])) (hv y (by simp [Op.operands])) h doesU_v
  · rename_i s x f
    exact faO_sound hW (hv x (by simp [Op.operands])) h does_v
  · rename_i x
    exact ncO_sound hW (hv x (by simp [Op.operands])) h
  · rename_i t x lo hi mx
    have ov : ∀ {y : Option Operand}, (∀ z, y = some z → VR ρ (ev z) (ev' z)) → OV ρ (y.map ev) (y.map ev') := fun {y} h => by
      cases y with
      | none => exact .none
      | some z => exact .some (h z rfl)
    exact sliceO_sound hW (hv x (by simp [Op.operands])) (ov fun z hz => hv z (by subst hz; simp [Op.operands])) (ov fun z hz => hv z (by subst hz; simp [Op.operands])) (ov fun z hz => hv z (by subst hz; simp [Op.operands])) h does_v
  · rename_i c
    split at h
    · rename_i x t hcal hargs hty
      obtain ⟨cal, ⟨as⟩, ⟨ts⟩⟩ := c
      simp only at hcal hargs hty
      subst hcal hargs hty
      have hx := hv x (by simp [Op.operands, Call.operands])
      obtain ⟨b, W0', g1, g2⟩ := bind_some h
      obtain ⟨o1, o2, o3⟩ := ownQ_sound hW g1
      cases b with
      | true =>
        obtain ⟨l1, l2, l3, l4⟩ := lenO_sound (dst := dst) (ty := type) (pos := pos) (after := after) (guard := guard) o1 hx g2
        exact old ⟨l1, l2.trans o2, l3.trans o3, l4⟩
      | false =>
        obtain ⟨p, W2, h1, h2⟩ := bind_some g2
        cases h2
        obtain ⟨k1, k2, k3, k4⟩ := payT_sound o1 hx h1
        exact old ⟨k2, k3.trans o2, k4.trans o3, lenA_sound k2 k1⟩
    · rename_i s x hcal hargs
      obtain ⟨cal, ⟨as⟩, ⟨ts⟩⟩ := c
      simp only at hcal hargs h
      subst hcal hargs
      refine appendO_sound (ty := type) hW (hv s (by simp [Op.operands, Call.operands])) (hv x (by simp [Op.operands, Call.operands])) h fun y w' hy => ?_
      exact run_built (P := P) (b := .append) (xs := ⟨[s, x]⟩) (ts := ⟨ts⟩) (f := Builtin.append_) (fun _ _ => rfl) (by simpa using hy)
    · rename_i hcal
      obtain ⟨cal, ⟨as⟩, ⟨ts⟩⟩ := c
      simp only at hcal h
      subst hcal
      obtain ⟨T, W2, h1, h2⟩ := bind_some h
      cases h2
      have hl : LR' ρ (as.map ev) (as.map ev') := ⟨by simp, fun i h1 h2 => by
        simp only [List.getElem_map]
        exact hv _ (by simp [Op.operands, Call.operands])⟩
      obtain ⟨k1, k2, k3, k4⟩ := payL_sound hW hl h1
      refine old ⟨k2, k3, k4, ?_⟩
      refine mnA_sound k2 k1 fun v hb => ?_
      refine run_built (P := P) (b := .min) (xs := ⟨as⟩) (f := Builtin.min_) (fun _ _ => rfl) ?_
      have e : (Array.map ev' ⟨as⟩).toList = as.map ev' := by simp
      unfold Builtin.min_
      rw [e]
      exact hb
    · rename_i hcal
      obtain ⟨cal, ⟨as⟩, ⟨ts⟩⟩ := c
      simp only at hcal h
      subst hcal
      obtain ⟨T, W2, h1, h2⟩ := bind_some h
      cases h2
      have hl : LR' ρ (as.map ev) (as.map ev') := ⟨by simp, fun i h1 h2 => by
        simp only [List.getElem_map]
        exact hv _ (by simp [Op.operands, Call.operands])⟩
      obtain ⟨k1, k2, k3, k4⟩ := payL_sound hW hl h1
      refine old ⟨k2, k3, k4, ?_⟩
      refine mnA_sound k2 k1 fun v hb => ?_
      refine run_built (P := P) (b := .max) (xs := ⟨as⟩) (f := Builtin.max_) (fun _ _ => rfl) ?_
      have e : (Array.map ev' ⟨as⟩).toList = as.map ev' := by simp
      unfold Builtin.max_
      rw [e]
      exact hb
    · cases h
  · rename_i t x i c
    exact old (lookO_sound hW (hv x (by simp [Op.operands])) (hv i (by simp [Op.operands])) h fun y w' hy => does_v y w' hy)
  · rename_i t x y
    exact old (makeO_sound hW (hv x (by simp [Op.operands])) (hv y (by simp [Op.operands])) h fun y w' hy => does_v y w' hy)
  · cases h
theorem symR_sound {ev ev' : Operand → Value} {o : Oper} {W W' : Tw} {w : World} {n : Next} (hv : ∀ x ∈ o.op.operands, VR ρ (ev x) (ev' x)) (hW : WR w0 ρ W w) (h : symR P ev o.op W = some (n, W')) :
    ∃ m w', (execOp ev' o).run P w = .ok m w' ∧ Nxt w0 ρ W w W' w' fun ρ2 => NR ρ2 n m := by
  obtain ⟨a, W1, h1, h2⟩ := bind_some h
  obtain ⟨pr', k0, k1, k2, k3, k4⟩ := symO_sound hv hW h1
  obtain ⟨m, w', m1, ρ2, n1, n2, n3, n4, n5, n6⟩ := k4 n W' h2
  exact ⟨m, w', m1, ρ2, (Ren.le_pr k0).trans n1, fun k hk => by rw [← k2]; exact n2 k hk, n3, n4, by rw [← k2]; exact n5, n6.trans k3⟩
end
end Mo

