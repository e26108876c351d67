import Derived.Test.YtmaiomgopbjfoaaGreatDoorK9
set_option linter.all false
namespace Mir
open Go

/-! ## Operations whose kinds are known -/
inductive CI where
  | mv (x : CO)
  | ld (ag : Bool) (sz : Nat) (x : CO)
  | st (sz : Nat) (x y : CO)
  | fa (off : Nat) (x : CO)
  | ias (e : Nat) (x y : CO)
  | iap (n e : Nat) (x y : CO)
  | bin (b : BinOp) (t : TypeId) (x y : CO)
  | al (cs : List Value) (t : TypeId)
  | bo (t : TypeId) (x : CO)
  | pi (c x y : CO)
  | nc (x : CO)
  | fig (off sz : Nat) (x : CO)
  | fis (off : Nat) (x : CO)
  | ex (i : Nat) (x : CO)
  | cv (k : IntKind) (x : CO)
  | len (x : CO)
  | app (e z b : Nat) (x y : CO)
  | call (x : CO) (xs : List CO)
  | gen (o : Oper)
/-- What a field is. -/
noncomputable def cF (tb : Tb) (s : TypeId) (n : Nat) : Option (Nat × Nat × Bool) := match tb.ty.get s with
  | some ⟨_, _, .st fs, _⟩ => getX fs n
  | _ => none
/-- An operation's kind. -/
noncomputable def cI (tb : Tb) (o : Oper) : CI := match o.op with
  | .move x => match cO x with
    | some x => .mv x
    | none => .gen o
  | .assign x => match cO x with
    | some x => .mv x
    | none => .gen o
  | .load t x => match cO x, tb.ty.get t with
    | some x, some ti => .ld ti.ag ti.sz x
    | _, _ => .gen o
  | .store t x y => match cO x, cO y, tb.ty.get t with
    | some x, some y, some ti => .st ti.sz x y
    | _, _, _ => .gen o
  | .fieldAddr s x n => match cO x, cF tb s n with
    | some x, some (off, _ + 1, _) => .fa off x
    | _, _ => .gen o
  | .indexAddr t x y => match cO x, cO y, tb.ty.get t with
    | some x, some y, some ⟨_, _, .sl e, _⟩ => .ias e x y
    | some x, some y, some ⟨_, _, .ar n e, _⟩ => .iap n e x y
    | _, _, _ => .gen o
  | .binOp b t x y _ => match cO x, cO y with
    | some x, some y => .bin b t x y
    | _, _ => .gen o
  | .alloc t => match tb.ty.get t with
    | some ti => .al ti.z.cells.toList t
    | none => .gen o
  | .box t x => match cO x with
    | some x => .bo t x
    | none => .gen o
  | .pick c x y => match cO c, cO x, cO y with
    | some c, some x, some y => .pi c x y
    | _, _, _ => .gen o
  | .nilCheck x => match cO x with
    | some x => .nc x
    | none => .gen o
  | .field s x n => match cO x, cF tb s n with
    | some x, some (off, sz, true) => .fig off sz x
    | some x, some (off, _, false) => .fis off x
    | _, _ => .gen o
  | .extract x i => match cO x with
    | some x => .ex i x
    | none => .gen o
  | .convert s d x => match cO x, tb.ty.get s, tb.ty.get d with
    | some x, some _, some ⟨_, _, .int k, _⟩ => .cv k x
    | _, _, _ => .gen o
  | .call c => match c.callee with
    | .value x => match cO x, cOL c.args.toList with
      | some x, some xs => .call x xs
      | _, _ => .gen o
    | .builtin .len => match c.args.toList, c.argTypes.toList with
      | [x], [t] => match cO x, tb.ty.get t with
        | some x, some ⟨_, _, .sl _, _⟩ => .len x
        | _, _ => .gen o
      | _, _ => .gen o
    | .builtin .append => match c.args.toList, c.argTypes.toList with
      | [x, y], [t, u] => match cO x, cO y, Nat.beq t u, tb.ap.get t with
        | some x, some y, true, some (e, z, b) => .app e z b x y
        | _, _, _, _ => .gen o
      | _, _ => .gen o
    | _ => .gen o
  | _ => .gen o

abbrev An := Option (Value × Tw)
abbrev KV := Value → Tw → An
abbrev CallK := FuncId → List Value → Tw → KV → An
/-- What a run is given. -/
structure ZE where
  gen : Oper → Tr Value → Tw → KV → An
  ck : CallK
  fn : FuncId → Bool

noncomputable def zmv (x : CO) (_ : ZE) (_ : Oper) (sl : Tr Value) (W : Tw) (k : KV) : An := fW (evO x sl) fun v => k v W
noncomputable def zld (ag : Bool) (sz : Nat) (x : CO) (_ : ZE) (_ : Oper) (sl : Tr Value) (W : Tw) (k : KV) : An := zLd ag sz (evO x sl) W k
noncomputable def zst (sz : Nat) (x y : CO) (_ : ZE) (_ : Oper) (sl : Tr Value) (W : Tw) (k : KV) : An := fW (evO y sl) fun v => zSt sz (evO x sl) v W k
noncomputable def zfa (off : Nat) (x : CO) (_ : ZE) (_ : Oper) (sl : Tr Value) (W : Tw) (k : KV) : An := asP (evO x sl) fun b o => fN (Nat.add o off) fun o => k (.pointer (some ⟨b, o, none⟩)) W
noncomputable def zias (e : Nat) (x y : CO) (_ : ZE) (_ : Oper) (sl : Tr Value) (W : Tw) (k : KV) : An :=
  asS (evO x sl) fun b o n _ => asN (evO y sl) fun _ i => Bool.rec (motive := fun _ => An) none (fN (Nat.add o (Nat.mul i e)) fun o => k (.pointer (some ⟨b, o, none⟩)) W) (Nat.blt i n)
noncomputable def ziap (n e : Nat) (x y : CO) (_ : ZE) (_ : Oper) (sl : Tr Value) (W : Tw) (k : KV) : An :=
  asP (evO x sl) fun b o => asN (evO y sl) fun _ i => Bool.rec (motive := fun _ => An) none (fN (Nat.add o (Nat.mul i e)) fun o => k (.pointer (some ⟨b, o, none⟩)) W) (Nat.blt i n)
noncomputable def zbin (b : BinOp) (_ : TypeId) (x y : CO) (E : ZE) (o : Oper) (sl : Tr Value) (W : Tw) (k : KV) : An :=
  Option.rec (motive := fun _ => An) (E.gen o sl W k) (fun v => k v W) (bzz b (evO x sl) (evO y sl))
noncomputable def zal (cs : List Value) (t : TypeId) (_ : ZE) (_ : Oper) (_ : Tr Value) (W : Tw) (k : KV) : An := W.layK ⟨cs, t, false, 0, none⟩ fun n W => k (.pointer (some ⟨n, 0, none⟩)) W
noncomputable def zbo (t : TypeId) (x : CO) (_ : ZE) (_ : Oper) (sl : Tr Value) (W : Tw) (k : KV) : An := fW (evO x sl) fun v => fZ v fun l => W.layK ⟨l, t, false, 0, none⟩ fun n W => k (.pointer (some ⟨n, 0, none⟩)) W
noncomputable def zpi (c x y : CO) (_ : ZE) (_ : Oper) (sl : Tr Value) (W : Tw) (k : KV) : An := match evO c sl with
  | .bool b => Bool.rec (motive := fun _ => An) (fW (evO y sl) fun v => k v W) (fW (evO x sl) fun v => k v W) b
  | _ => none
noncomputable def znc (x : CO) (E : ZE) (o : Oper) (sl : Tr Value) (W : Tw) (k : KV) : An := match evO x sl with
  | .pointer a => Option.rec (motive := fun _ => An) (E.gen o sl W k) (fun a => k (.pointer (some a)) W) a
  | _ => E.gen o sl W k
noncomputable def zfig (off sz : Nat) (x : CO) (_ : ZE) (_ : Oper) (sl : Tr Value) (W : Tw) (k : KV) : An := match evO x sl with
  | .agg ⟨cs⟩ => fTake [] sz (drp off cs) fun l => k (.agg ⟨l⟩) W
  | _ => none
noncomputable def zfis (off : Nat) (x : CO) (_ : ZE) (_ : Oper) (sl : Tr Value) (W : Tw) (k : KV) : An := match evO x sl with
  | .agg ⟨cs⟩ => Option.rec (motive := fun _ => An) none (fun v => k v W) (getR off cs)
  | _ => none
noncomputable def zex (i : Nat) (x : CO) (_ : ZE) (_ : Oper) (sl : Tr Value) (W : Tw) (k : KV) : An := match evO x sl with
  | .tuple ⟨vs⟩ => Option.rec (motive := fun _ => An) none (fun v => k v W) (getR i vs)
  | _ => none
noncomputable def zcv (q : IntKind) (x : CO) (E : ZE) (o : Oper) (sl : Tr Value) (W : Tw) (k : KV) : An := match evO x sl with
  | .int _ n => fI (cvz q n) fun n => k (.int q n) W
  | _ => E.gen o sl W k
noncomputable def zlen (x : CO) (E : ZE) (o : Oper) (sl : Tr Value) (W : Tw) (k : KV) : An := match evO x sl with
  | .slice a n _ => Option.rec (motive := fun _ => An) (E.gen o sl W k) (fun _ => k (.int .i64 (.ofNat n)) W) a
  | _ => E.gen o sl W k
noncomputable def zapp (e z b : Nat) (x y : CO) (E : ZE) (o : Oper) (sl : Tr Value) (W : Tw) (k : KV) : An := fW (evO x sl) fun v => fW (evO y sl) fun u => match v with
  | .slice base l c => Bool.rec (motive := fun _ => An) (E.gen o sl W k) (opb (srcR z u W fun n news W => appNR e z b base l c n news W) fun v W => fV 2 v fun v => k v W) (sl2 v u)
  | _ => E.gen o sl W k
/-- What operands are. -/
noncomputable def evOs (xs : List CO) : Tr Value → (List Value → An) → An :=
  List.rec (motive := fun _ => Tr Value → (List Value → An) → An) (fun _ k => k []) (fun x _ ih sl k => fW (evO x sl) fun v => ih sl fun l => k (v :: l)) xs
noncomputable def zcall (x : CO) (xs : List CO) (E : ZE) (o : Oper) (sl : Tr Value) (W : Tw) (k : KV) : An := match evO x sl with
  | .func f ⟨us⟩ ⟨ys⟩ => match f with
    | .func g => match E.fn g with
      | true => match us, ys with
        | [], [] => evOs xs sl fun l => E.ck g l W k
        | us, ys => evOs xs sl fun l => fSp (us ++ (l ++ ys)) fun l => E.ck g l W k
      | false => E.gen o sl W k
    | _ => E.gen o sl W k
  | _ => E.gen o sl W k
noncomputable def zgen (_ : Oper) (E : ZE) (o : Oper) (sl : Tr Value) (W : Tw) (k : KV) : An := E.gen o sl W k
noncomputable def zI (c : CI) : ZE → Oper → Tr Value → Tw → KV → An :=
  CI.rec (motive := fun _ => ZE → Oper → Tr Value → Tw → KV → An) zmv zld zst zfa zias ziap zbin zal zbo zpi znc zfig zfis zex zcv zlen zapp zcall zgen c
end Mir

namespace Mir
open Go

/-! ## Each of them leads where the slower one leads -/
def Qz (call : CallT) (rnd : RndT) (x : Option (Next × Tw)) (k : KV) (r : Value × Tw) : Prop :=
  ∃ n W1 v W', x = some (n, W1) ∧ finT call rnd n W1 = some (v, W') ∧ k v W' = some r
structure EOk (P : Program) (sy : SyT) (tb : Tb) (call : CallT) (rnd : RndT) (E : ZE) : Prop where
  gen : ∀ o sl W k r, E.gen o sl W k = some r → Qz call rnd (opQT P sy tb (getS sl) o W) k r
  ck : ∀ f args W k r, E.ck f args W k = some r → ∃ v W', call f ⟨args⟩ W = some (v, W') ∧ k v W' = some r
  fn : ∀ g, E.fn g = true → ∃ f, tb.fn.get g = some f
section
variable {P : Program} {sy : SyT} {tb : Tb} {call : CallT} {rnd : RndT} {E : ZE} {sl : Tr Value} {W : Tw} {k : KV} {r : Value × Tw} {o : Oper}
theorem Qz.val {x : Option (Next × Tw)} {v : Value} {W' : Tw} (h : x = some (.value v, W')) (hk : k v W' = some r) : Qz call rnd x k r := ⟨_, _, v, W', h, rfl, hk⟩
theorem ok_mv {x : Operand} {c : CO} (hx : cO x = some c) (h : zmv c E o sl W k = some r) : Qz call rnd (mvQ (getS sl) x W) k r := by
  obtain ⟨h1, h2⟩ := cO_ok hx sl
  unfold zmv at h
  rw [fW_eq, h1] at h
  refine .val ?_ h
  unfold mvQ
  rw [if_pos h2]
theorem ok_ld {t : TypeId} {x : Operand} {c : CO} {ti : TI} (hx : cO x = some c) (ht : tb.ty.get t = some ti) (h : zld ti.ag ti.sz c E o sl W k = some r) : Qz call rnd (ldQ tb (getS sl) t x W) k r := by
  obtain ⟨h1, h2⟩ := cO_ok hx sl
  unfold zld at h
  rw [h1] at h
  obtain ⟨a, u, W', e1, e2, e3⟩ := zLd_some h
  refine .val ?_ e3
  unfold ldQ
  rw [if_pos h2, e1]
  simp only [ht, e2, Option.bind_some]
theorem ok_st {t : TypeId} {x y : Operand} {c d : CO} {ti : TI} (hx : cO x = some c) (hy : cO y = some d) (ht : tb.ty.get t = some ti) (h : zst ti.sz c d E o sl W k = some r) : Qz call rnd (stQ tb (getS sl) t x y W) k r := by
  obtain ⟨h1, h2⟩ := cO_ok hx sl
  obtain ⟨h3, h4⟩ := cO_ok hy sl
  unfold zst at h
  rw [fW_eq, h1, h3] at h
  obtain ⟨a, W', e1, e2, e3⟩ := zSt_some h
  refine ⟨.skip, W', undef, W', ?_, rfl, e3⟩
  unfold stQ
  rw [h2, h4, Bool.and_self, if_pos rfl, e1]
  simp only [ht, fW_eq, e2, Option.bind_some]
theorem cF_some {s : TypeId} {n : Nat} {q : Nat × Nat × Bool} (h : cF tb s n = some q) : ∃ sz ag fs z, tb.ty.get s = some ⟨sz, ag, .st fs, z⟩ ∧ getX fs n = some q := by
  unfold cF at h
  split at h
  · rename_i sz ag fs z ht
    exact ⟨sz, ag, fs, z, ht, h⟩
  · cases h
theorem add_none (b o n : Nat) : (⟨b, o, none⟩ : Addr).add n = ⟨b, o + n, none⟩ := by
  unfold Addr.add
  split
  · rename_i h; rw [h]; rfl
  · rfl
theorem ok_fa {s : TypeId} {x : Operand} {n off sz : Nat} {ag : Bool} {c : CO} (hx : cO x = some c) (hf : cF tb s n = some (off, sz + 1, ag)) (h : zfa off c E o sl W k = some r) : Qz call rnd (faQ tb (getS sl) s x n W) k r := by
  obtain ⟨h1, h2⟩ := cO_ok hx sl
  obtain ⟨_, _, fs, _, ht, hg⟩ := cF_some hf
  unfold zfa at h
  rw [h1] at h
  obtain ⟨b, of, e1, e2⟩ := asP_some h
  rw [fN_eq] at e2
  refine .val ?_ e2
  unfold faQ
  rw [if_pos h2, e1]
  simp only [ht, hg, add_none]
  rfl
theorem ok_ias {t : TypeId} {x y : Operand} {c d : CO} {e sz : Nat} {ag : Bool} {z : Value} (hx : cO x = some c) (hy : cO y = some d) (ht : tb.ty.get t = some ⟨sz, ag, .sl e, z⟩) (h : zias e c d E o sl W k = some r) : Qz call rnd (iaQ tb (getS sl) t x y W) k r := by
  obtain ⟨h1, h2⟩ := cO_ok hx sl
  obtain ⟨h3, h4⟩ := cO_ok hy sl
  unfold zias at h
  rw [h1, h3] at h
  obtain ⟨b, of, n, c', e1, e2⟩ := asS_some h
  obtain ⟨q, i, e3, e4⟩ := asN_some e2
  cases hb : Nat.blt i n with
  | false => rw [hb] at e4; cases e4
  | true =>
    rw [hb] at e4
    simp only [fN_eq] at e4
    refine .val ?_ e4
    unfold iaQ
    rw [h2, h4, Bool.and_self, if_pos rfl, e1, e3]
    simp only [ht, hb, if_true, add_none]
    rfl
theorem ok_iap {t : TypeId} {x y : Operand} {c d : CO} {n e sz : Nat} {ag : Bool} {z : Value} (hx : cO x = some c) (hy : cO y = some d) (ht : tb.ty.get t = some ⟨sz, ag, .ar n e, z⟩) (h : ziap n e c d E o sl W k = some r) : Qz call rnd (iaQ tb (getS sl) t x y W) k r := by
  obtain ⟨h1, h2⟩ := cO_ok hx sl
  obtain ⟨h3, h4⟩ := cO_ok hy sl
  unfold ziap at h
  rw [h1, h3] at h
  obtain ⟨b, of, e1, e2⟩ := asP_some h
  obtain ⟨q, i, e3, e4⟩ := asN_some e2
  cases hb : Nat.blt i n with
  | false => rw [hb] at e4; cases e4
  | true =>
    rw [hb] at e4
    simp only [fN_eq] at e4
    refine .val ?_ e4
    unfold iaQ
    rw [h2, h4, Bool.and_self, if_pos rfl, e1, e3]
    simp only [ht, hb, if_true, add_none]
    rfl
theorem ok_al {t : TypeId} {ti : TI} (ht : tb.ty.get t = some ti) (h : zal ti.z.cells.toList t E o sl W k = some r) : Qz call rnd (alQ tb t W) k r := by
  unfold zal at h
  rw [Tw.layK_eq] at h
  obtain ⟨n, W', h1, h2⟩ := bind_some h
  refine .val ?_ h2
  unfold alQ
  simp only [ht, fZ_eq, Tw.layK_eq, h1, Option.bind_some]
theorem ok_bo {t : TypeId} {x : Operand} {c : CO} (hx : cO x = some c) (h : zbo t c E o sl W k = some r) : Qz call rnd (boQ (getS sl) t x W) k r := by
  obtain ⟨h1, h2⟩ := cO_ok hx sl
  unfold zbo at h
  rw [fW_eq, fZ_eq, Tw.layK_eq, h1] at h
  obtain ⟨n, W', h3, h4⟩ := bind_some h
  refine .val ?_ h4
  unfold boQ
  rw [if_pos h2, fW_eq, fZ_eq, Tw.layK_eq, h3]
  rfl
theorem ok_pi {c x y : Operand} {c' x' y' : CO} (hc : cO c = some c') (hx : cO x = some x') (hy : cO y = some y') (h : zpi c' x' y' E o sl W k = some r) : Qz call rnd (piQ (getS sl) c x y W) k r := by
  obtain ⟨h1, h2⟩ := cO_ok hc sl
  obtain ⟨h3, h4⟩ := cO_ok hx sl
  obtain ⟨h5, h6⟩ := cO_ok hy sl
  unfold zpi at h
  rw [h1, h3, h5] at h
  split at h
  · rename_i b hb
    cases b with
    | true =>
      simp only [fW_eq] at h
      refine .val ?_ h
      unfold piQ
      rw [h2, h4, h6]
      simp only [Bool.and_self, if_true, hb]
    | false =>
      simp only [fW_eq] at h
      refine .val ?_ h
      unfold piQ
      rw [h2, h4, h6]
      simp only [Bool.and_self, if_true, hb]
  · cases h
theorem ok_fig {s : TypeId} {x : Operand} {n off sz : Nat} {c : CO} (hx : cO x = some c) (hf : cF tb s n = some (off, sz, true)) (h : zfig off sz c E o sl W k = some r) : Qz call rnd (fiQ tb (getS sl) s x n W) k r := by
  obtain ⟨h1, h2⟩ := cO_ok hx sl
  obtain ⟨_, _, fs, _, ht, hg⟩ := cF_some hf
  unfold zfig at h
  rw [h1] at h
  split at h
  · rename_i cs hv
    rw [fTake_eq, drp_eq] at h
    cases hl : takeL (cs.drop off) sz with
    | none => rw [hl] at h; cases h
    | some vs =>
      rw [hl, Option.bind_some, List.append_nil] at h
      have e : vs = (cs.drop off).take sz := by
        obtain ⟨t1, t2, t3⟩ := takeL_some hl
        apply List.ext_getElem (by rw [List.length_take]; omega)
        intro i i1 i2
        rw [List.getElem_take]
        exact t3 i i1 _
      subst e
      refine .val ?_ h
      unfold fiQ
      rw [if_pos h2, hv]
      simp only [ht, hg]
  · cases h
theorem ok_fis {s : TypeId} {x : Operand} {n off sz : Nat} {c : CO} (hx : cO x = some c) (hf : cF tb s n = some (off, sz, false)) (h : zfis off c E o sl W k = some r) : Qz call rnd (fiQ tb (getS sl) s x n W) k r := by
  obtain ⟨h1, h2⟩ := cO_ok hx sl
  obtain ⟨_, _, fs, _, ht, hg⟩ := cF_some hf
  unfold zfis at h
  rw [h1] at h
  split at h
  · rename_i cs hv
    cases hl : getR off cs with
    | none => rw [hl] at h; cases h
    | some v =>
      rw [hl] at h
      rw [getR_eq] at hl
      have e : getX (cs.drop off) 0 = some v := by
        have key : ∀ (l : List Value) (o : Nat), getL l o = l[o]? := by
          intro l
          induction l with
          | nil => intro o; simp [getL]
          | cons x s ih => intro o; cases o <;> simp [getL, ih]
        rw [getX_eq]
        rw [key] at hl
        simpa using hl
      refine .val ?_ h
      unfold fiQ
      rw [if_pos h2, hv]
      simp only [ht, hg, e]
  · cases h
theorem ok_ex {x : Operand} {i : Nat} {c : CO} (hx : cO x = some c) (h : zex i c E o sl W k = some r) : Qz call rnd (exQ (getS sl) x i W) k r := by
  obtain ⟨h1, h2⟩ := cO_ok hx sl
  unfold zex at h
  rw [h1] at h
  split at h
  · rename_i vs hv
    cases hl : getR i vs with
    | none => rw [hl] at h; cases h
    | some v =>
      rw [hl] at h
      rw [getR_eq] at hl
      have e : getX vs i = some v := by
        have key : ∀ (l : List Value) (o : Nat), getL l o = l[o]? := by
          intro l
          induction l with
          | nil => intro o; simp [getL]
          | cons x s ih => intro o; cases o <;> simp [getL, ih]
        rw [getX_eq, ← key]
        exact hl
      refine .val ?_ h
      unfold exQ
      rw [if_pos h2, hv]
      simp only [e]
  · cases h
/-- What has a slower road too. -/
def Two (P : Program) (sy : SyT) (tb : Tb) (call : CallT) (rnd : RndT) (sl : Tr Value) (o : Oper) (W : Tw) (k : KV) (r : Value × Tw) (x : Option (Next × Tw)) : Prop :=
  Qz call rnd x k r ∨ Qz call rnd (opQT P sy tb (getS sl) o W) k r
theorem ok_bin (hE : EOk P sy tb call rnd E) {b : BinOp} {t : TypeId} {x y : Operand} {c d : CO} (hx : cO x = some c) (hy : cO y = some d) (h : zbin b t c d E o sl W k = some r) : Two P sy tb call rnd sl o W k r (biQ (getS sl) b t x y W) := by
  obtain ⟨h1, h2⟩ := cO_ok hx sl
  obtain ⟨h3, h4⟩ := cO_ok hy sl
  unfold zbin at h
  rw [h1, h3] at h
  cases hb : bzz b (ev (getS sl) x) (ev (getS sl) y) with
  | none => rw [hb] at h; exact .inr (hE.gen _ _ _ _ _ h)
  | some v =>
    rw [hb] at h
    refine .inl (.val ?_ h)
    unfold biQ
    rw [h2, h4, Bool.and_self, if_pos rfl, bzz_eq hb]
theorem ok_nc (hE : EOk P sy tb call rnd E) {x : Operand} {c : CO} (hx : cO x = some c) (h : znc c E o sl W k = some r) : Two P sy tb call rnd sl o W k r (ncQ (getS sl) x W) := by
  obtain ⟨h1, h2⟩ := cO_ok hx sl
  unfold znc at h
  rw [h1] at h
  split at h
  · rename_i a ha
    cases a with
    | none => exact .inr (hE.gen _ _ _ _ _ h)
    | some a =>
      refine .inl (.val ?_ h)
      unfold ncQ
      rw [if_pos h2, ha]
  · exact .inr (hE.gen _ _ _ _ _ h)
theorem ok_cv (hE : EOk P sy tb call rnd E) {s d : TypeId} {x : Operand} {c : CO} {ti : TI} {sz : Nat} {ag : Bool} {q : IntKind} {z : Value} (hx : cO x = some c) (hs : tb.ty.get s = some ti) (hd : tb.ty.get d = some ⟨sz, ag, .int q, z⟩) (h : zcv q c E o sl W k = some r) :
    Two P sy tb call rnd sl o W k r (cvQ tb (getS sl) s d x W) := by
  obtain ⟨h1, h2⟩ := cO_ok hx sl
  unfold zcv at h
  rw [h1] at h
  split at h
  · rename_i j n hv
    rw [fI_eq, cvz_eq] at h
    refine .inl (.val ?_ h)
    unfold cvQ
    rw [if_pos h2, hv]
    simp only [hs, hd]
  · exact .inr (hE.gen _ _ _ _ _ h)
theorem ok_len (hE : EOk P sy tb call rnd E) {l : List Operand} {ts : List TypeId} {cl : Call} {x : Operand} {t : TypeId} {c : CO} {sz : Nat} {ag : Bool} {e : Nat} {z : Value} (hl : cl.args.toList = [x]) (hts : cl.argTypes.toList = [t]) (hx : cO x = some c) (ht : tb.ty.get t = some ⟨sz, ag, .sl e, z⟩)
    (h : zlen c E o sl W k = some r) : Two P sy tb call rnd sl o W k r (leQ tb (getS sl) cl W) := by
  obtain ⟨h1, h2⟩ := cO_ok hx sl
  unfold zlen at h
  rw [h1] at h
  split at h
  · rename_i a n cc hv
    cases a with
    | none => exact .inr (hE.gen _ _ _ _ _ h)
    | some a =>
      refine .inl (.val ?_ h)
      unfold leQ
      rw [hl]
      simp only [h2, if_true, hts, lenQ, hv, ht]
      rfl
  · exact .inr (hE.gen _ _ _ _ _ h)
theorem ok_app (hE : EOk P sy tb call rnd E) {cl : Call} {x y : Operand} {t u : TypeId} {c d : CO} {e z b : Nat} (hl : cl.args.toList = [x, y]) (hts : cl.argTypes.toList = [t, u]) (htu : Nat.beq t u = true) (ha : tb.ap.get t = some (e, z, b)) (hx : cO x = some c) (hy : cO y = some d)
    (h : zapp e z b c d E o sl W k = some r) : Two P sy tb call rnd sl o W k r (apQ tb (getS sl) cl W) := by
  obtain ⟨h1, h2⟩ := cO_ok hx sl
  obtain ⟨h3, h4⟩ := cO_ok hy sl
  unfold zapp at h
  rw [fW_eq, fW_eq, h1, h3] at h
  split at h
  · rename_i base l cc hv
    cases hs : sl2 (ev (getS sl) x) (ev (getS sl) y) with
    | false =>
      rw [hs] at h
      exact .inr (hE.gen _ _ _ _ _ h)
    | true =>
      rw [hs] at h
      obtain ⟨v, W', e1, e2⟩ := opb_some h
      rw [fV_eq] at e2
      refine .inl (.val ?_ e2)
      unfold apQ
      rw [hl]
      simp only [h2, h4, Bool.and_self, if_true, hts, appR, htu, ha]
      rw [hv] at hs ⊢
      simp only at hs ⊢
      rw [hs]
      simp only [e1, Option.bind_some]
  · exact .inr (hE.gen _ _ _ _ _ h)
theorem evOs_eq : ∀ {l : List Operand} {cs : List CO} (k : List Value → An), cOL l = some cs → evOs cs sl k = k (evalL (getS sl) l) ∧ qdL l = true
  | [], cs, k, h => by
    cases h
    exact ⟨rfl, rfl⟩
  | x :: l, cs, k, h => by
    unfold cOL at h
    split at h
    · rename_i c l' hc hl
      cases h
      obtain ⟨h1, h2⟩ := cO_ok hc sl
      obtain ⟨h3, h4⟩ := evOs_eq (fun l => k (evO c sl :: l)) hl
      refine ⟨?_, by simp only [qdL, h2, h4, Bool.and_self]⟩
      show fW (evO c sl) (fun v => evOs l' sl fun l => k (v :: l)) = _
      rw [fW_eq, h3, h1]
      rfl
    · cases h
theorem ok_call (hE : EOk P sy tb call rnd E) {x : Operand} {xs : List Operand} {c : CO} {cs : List CO} (hx : cO x = some c) (hxs : cOL xs = some cs) (h : zcall c cs E o sl W k = some r) : Two P sy tb call rnd sl o W k r (clQQ tb (getS sl) x xs W) := by
  obtain ⟨h1, h2⟩ := cO_ok hx sl
  unfold zcall at h
  rw [h1] at h
  have key : ∀ {g us ys}, ev (getS sl) x = .func (.func g) ⟨us⟩ ⟨ys⟩ → E.fn g = true → E.ck g (us ++ (evalL (getS sl) xs ++ ys)) W k = some r → Qz call rnd (clQQ tb (getS sl) x xs W) k r := by
    intro g us ys hv hg hc
    obtain ⟨f, hf⟩ := hE.fn g hg
    obtain ⟨v, W', e1, e2⟩ := hE.ck _ _ _ _ _ hc
    refine ⟨.enter g ⟨us ++ (evalL (getS sl) xs ++ ys)⟩, W, v, W', ?_, e1, e2⟩
    unfold clQQ
    rw [h2, (evOs_eq (sl := sl) (fun _ => none) hxs).2, Bool.and_self, if_pos rfl, hv]
    simp only [hf, fLi_eq (fun v k => fW_eq)]
  split at h
  · rename_i f us ys hv
    split at h
    · rename_i g
      split at h
      · rename_i hg
        split at h
        · rw [(evOs_eq _ hxs).1] at h
          exact .inl (key hv hg (by simpa using h))
        · rw [(evOs_eq _ hxs).1, fSp_eq] at h
          exact .inl (key hv hg h)
      · exact .inr (hE.gen _ _ _ _ _ h)
    · exact .inr (hE.gen _ _ _ _ _ h)
  · exact .inr (hE.gen _ _ _ _ _ h)

theorem opQT_of {f : Nat → Value} {x : Option (Next × Tw)} (hx : opQ tb f o W = x) (h : Qz call rnd x k r) : Qz call rnd (opQT P sy tb f o W) k r := by
  obtain ⟨n, W1, v, W', h1, h2, h3⟩ := h
  refine ⟨n, W1, v, W', ?_, h2, h3⟩
  unfold opQT
  rw [hx, h1]
theorem zI_ok (hE : EOk P sy tb call rnd E) (h : zI (cI tb o) E o sl W k = some r) : Qz call rnd (opQT P sy tb (getS sl) o W) k r := by
  have two : ∀ {x : Option (Next × Tw)}, opQ tb (getS sl) o W = x → Two P sy tb call rnd sl o W k r x → Qz call rnd (opQT P sy tb (getS sl) o W) k r := by
    intro x hx h
    rcases h with h | h
    · exact opQT_of hx h
    · exact h
  have gen : zgen o E o sl W k = some r → Qz call rnd (opQT P sy tb (getS sl) o W) k r := fun h => hE.gen _ _ _ _ _ h
  obtain ⟨dst, op, type, pos, after, guard⟩ := o
  unfold cI at h
  cases op <;> dsimp only at h <;> try (exact gen h)
  case move x =>
    split at h
    · rename_i c hx; exact opQT_of rfl (ok_mv (E := E) (o := ⟨dst, .move x, type, pos, after, guard⟩) hx h)
    · exact gen h
  case assign x =>
    split at h
    · rename_i c hx; exact opQT_of rfl (ok_mv (E := E) (o := ⟨dst, .assign x, type, pos, after, guard⟩) hx h)
    · exact gen h
  case load t x =>
    split at h
    · rename_i c ti hx ht; exact opQT_of rfl (ok_ld (E := E) (o := ⟨dst, .load t x, type, pos, after, guard⟩) hx ht h)
    · exact gen h
  case store t x y =>
    split at h
    · rename_i c d ti hx hy ht; exact opQT_of rfl (ok_st (E := E) (o := ⟨dst, .store t x y, type, pos, after, guard⟩) hx hy ht h)
    · exact gen h
  case fieldAddr s x n =>
    split at h
    · rename_i c off sz ag hx hf; exact opQT_of rfl (ok_fa (E := E) (o := ⟨dst, .fieldAddr s x n, type, pos, after, guard⟩) hx hf h)
    · exact gen h
  case indexAddr t x y =>
    split at h
    · rename_i c d sz ag e z hx hy ht; exact opQT_of rfl (ok_ias (E := E) (o := ⟨dst, .indexAddr t x y, type, pos, after, guard⟩) hx hy ht h)
    · rename_i c d sz ag n e z hx hy ht; exact opQT_of rfl (ok_iap (E := E) (o := ⟨dst, .indexAddr t x y, type, pos, after, guard⟩) hx hy ht h)
    · exact gen h
  case binOp b t x y z =>
    split at h
    · rename_i c d hx hy; exact two rfl (ok_bin hE hx hy h)
    · exact gen h
  case alloc t =>
    split at h
    · rename_i ti ht; exact opQT_of rfl (ok_al (E := E) (sl := sl) (o := ⟨dst, .alloc t, type, pos, after, guard⟩) ht h)
    · exact gen h
  case box t x =>
    split at h
    · rename_i c hx; exact opQT_of rfl (ok_bo (E := E) (o := ⟨dst, .box t x, type, pos, after, guard⟩) hx h)
    · exact gen h
  case pick c x y =>
    split at h
    · rename_i c' x' y' hc hx hy; exact opQT_of rfl (ok_pi (E := E) (o := ⟨dst, .pick c x y, type, pos, after, guard⟩) hc hx hy h)
    · exact gen h
  case nilCheck x =>
    split at h
    · rename_i c hx; exact two rfl (ok_nc hE hx h)
    · exact gen h
  case field s x n =>
    split at h
    · rename_i c off sz hx hf; exact opQT_of rfl (ok_fig (E := E) (o := ⟨dst, .field s x n, type, pos, after, guard⟩) hx hf h)
    · rename_i c off sz hx hf; exact opQT_of rfl (ok_fis (E := E) (o := ⟨dst, .field s x n, type, pos, after, guard⟩) hx hf h)
    · exact gen h
  case extract x i =>
    split at h
    · rename_i c hx; exact opQT_of rfl (ok_ex (E := E) (o := ⟨dst, .extract x i, type, pos, after, guard⟩) hx h)
    · exact gen h
  case convert s d x =>
    split at h
    · rename_i c ti sz ag q z hx hs hd; exact two rfl (ok_cv hE hx hs hd h)
    · exact gen h
  case call c =>
    obtain ⟨cl, args, ats⟩ := c
    cases cl <;> dsimp only at h <;> try (exact gen h)
    case value x =>
      split at h
      · rename_i c cs hx hxs; exact two rfl (ok_call hE hx hxs h)
      · exact gen h
    case builtin b =>
      cases b <;> dsimp only at h <;> try (exact gen h)
      case append =>
        split at h
        · rename_i x y t u hl hts
          split at h
          · rename_i c d e z b hx hy htu ha
            exact two rfl (ok_app hE hl hts htu ha hx hy h)
          · exact gen h
        · exact gen h
      case len =>
        split at h
        · rename_i x t hl hts
          split at h
          · rename_i c sz ag e z hx ht
            exact two rfl (ok_len hE (l := []) (ts := []) hl hts hx ht h)
          · exact gen h
        · exact gen h
end
end Mir

