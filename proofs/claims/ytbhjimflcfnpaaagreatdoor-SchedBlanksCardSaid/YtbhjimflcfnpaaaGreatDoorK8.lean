import Derived.Test.YtbhjimflcfnpaaaGreatDoorK7
set_option linter.all false
namespace Mo
open Go

/-! ## Operations whose kinds are known -/
inductive CI where
  | mv (x : CO)
  | ld (ag : Bool) (sz : Nat) (x : CO)
  | st (sz : Nat) (x y : CO)
  | fa (off : Nat) (x : CO)
  | ias (e : Nat) (x y : CO)
  | iap (n e : Nat) (x y : CO)
  | bin (b : BinOp) (t : TypeId) (x y : CO)
  | al (cs : List Value) (t : TypeId)
  | bo (t : TypeId) (x : CO)
  | pi (c x y : CO)
  | nc (x : CO)
  | fig (off sz : Nat) (x : CO)
  | fis (off : Nat) (x : CO)
  | ex (i : Nat) (x : CO)
  | cv (k : IntKind) (x : CO)
  | len (x : CO)
  | app (e z b : Nat) (x y : CO)
  | call (x : CO) (xs : List CO)
  | gen (o : Oper)
/-- What a field is. -/
noncomputable def cF (tb : Tb) (s : TypeId) (n : Nat) : Option (Nat × Nat × Bool) := match tb.ty.get s with
  | some ⟨_, _, .st fs, _⟩ => getX fs n
  | _ => none
/-- An operation's kind. -/
noncomputable def cI (tb : Tb) (o : Oper) : CI := match o.op with
  | .move x => match cO x with
    | some x => .mv x
    | none => .gen o
  | .assign x => match cO x with
    | some x => .mv x
    | none => .gen o
  | .load t x => match cO x, tb.ty.get t with
    | some x, some ti => .ld ti.ag ti.sz x
    | _, _ => .gen o
  | .store t x y => match cO x, cO y, tb.ty.get t with
    | some x, some y, some ti => .st ti.sz x y
    | _, _, _ => .gen o
  | .fieldAddr s x n => match cO x, cF tb s n with
    | some x, some (off, _ + 1, _) => .fa off x
    | _, _ => .gen o
  | .indexAddr t x y => match cO x, cO y, tb.ty.get t with
    | some x, some y, some ⟨_, _, .sl e, _⟩ => .ias e x y
    | some x, some y, some ⟨_, _, .ar n e, _⟩ => .iap n e x y
    | _, _, _ => .gen o
  | .binOp b t x y _ => match cO x, cO y with
    | some x, some y => .bin b t x y
    | _, _ => .gen o
  | .alloc t => match tb.ty.get t with
    | some ti => .al ti.z.cells.toList t
    | none => .gen o
  | .box t x => match cO x with
    | some x => .bo t x
    | none => .gen o
  | .pick c x y => match cO c, cO x, cO y with
    | some c, some x, some y => .pi c x y
    | _, _, _ => .gen o
  | .nilCheck x => match cO x with
    | some x => .nc x
    | none => .gen o
  | .field s x n => match cO x, cF tb s n with
    | some x, some (off, sz, true) => .fig off sz x
    | some x, some (off, _, false) => .fis off x
    | _, _ => .gen o
  | .extract x i => match cO x with
    | some x => .ex i x
    | none => .gen o
  | .convert s d x => match cO x, tb.ty.get s, tb.ty.get d with
    | some x, some _, some ⟨_, _, .int k, _⟩ => .cv k x
    | _, _, _ => .gen o
  | .call c => match c.callee with
    | .value x => match cO x, cOL c.args.toList with
      | some x, some xs => .call x xs
      | _, _ => .gen o
    | .builtin .len => match c.args.toList, c.argTypes.toList with
      | [x], [t] => match cO x, tb.ty.get t with
        | some x, some ⟨_, _, .sl _, _⟩ => .len x
        | _, _ => .gen o
      | _, _ => .gen o
    | .builtin .append => match c.args.toList, c.argTypes.toList with
      | [x, y], [t, u] => match cO x, cO y, Nat.beq t u, tb.ap.get t with
        | some x, some y, true, some (e, z, b) => .app e z b x y
        | _, _, _, _ => .gen o
      | _, _ => .gen o
    | _ => .gen o
  | _ => .gen o

abbrev An := Option (Value × Tw)
abbrev KV := Value → Tw → An
abbrev CallK := FuncId → List Value → Tw → KV → An
/-- What a run is given. -/
structure ZE where
  gen : Oper → Tr Value → Tw → KV → An
  ck : CallK
  fn : FuncId → Bool

noncomputable def zmv (x : CO) (_ : ZE) (_ : Oper) (sl : Tr Value) (W : Tw) (k : KV) : An := fW (evO x sl) fun v => k v W
noncomputable def zld (ag : Bool) (sz : Nat) (x : CO) (E : ZE) (o : Oper) (sl : Tr Value) (W : Tw) (k : KV) : An := match evO x sl with
  | .chan _ => E.gen o sl W k
  | v => zLd ag sz v W k
noncomputable def zst (sz : Nat) (x y : CO) (E : ZE) (o : Oper) (sl : Tr Value) (W : Tw) (k : KV) : An := match evO x sl with
  | .chan _ => E.gen o sl W k
  | u => fW (evO y sl) fun v => zSt sz u v W k
noncomputable def zfa (off : Nat) (x : CO) (E : ZE) (o : Oper) (sl : Tr Value) (W : Tw) (k : KV) : An := match evO x sl with
  | .chan _ => E.gen o sl W k
  | v => asP v fun b o => fN (Nat.add o off) fun o => k (.pointer (some ⟨b, o, none⟩)) W
noncomputable def zias (e : Nat) (x y : CO) (E : ZE) (o : Oper) (sl : Tr Value) (W : Tw) (k : KV) : An :=
  match evO x sl with
  | .chan _ => E.gen o sl W k
  | v => asS v fun b o n _ => asN (evO y sl) fun _ i => Bool.rec (motive := fun _ => An) none (fN (Nat.add o (Nat.mul i e)) fun o => k (.pointer (some ⟨b, o, none⟩)) W) (Nat.blt i n)
noncomputable def ziap (n e : Nat) (x y : CO) (_ : ZE) (_ : Oper) (sl : Tr Value) (W : Tw) (k : KV) : An :=
  asP (evO x sl) fun b o => asN (evO y sl) fun _ i => Bool.rec (motive := fun _ => An) none (fN (Nat.add o (Nat.mul i e)) fun o => k (.pointer (some ⟨b, o, none⟩)) W) (Nat.blt i n)
noncomputable def zbin (b : BinOp) (_ : TypeId) (x y : CO) (E : ZE) (o : Oper) (sl : Tr Value) (W : Tw) (k : KV) : An :=
  Option.rec (motive := fun _ => An) (E.gen o sl W k) (fun v => k v W) (bzz b (evO x sl) (evO y sl))
noncomputable def zal (cs : List Value) (t : TypeId) (_ : ZE) (_ : Oper) (_ : Tr Value) (W : Tw) (k : KV) : An := W.layK ⟨cs, t, false, 0, none⟩ fun n W => k (.pointer (some ⟨n, 0, none⟩)) W
noncomputable def zbo (t : TypeId) (x : CO) (_ : ZE) (_ : Oper) (sl : Tr Value) (W : Tw) (k : KV) : An := fW (evO x sl) fun v => fZ v fun l => Bool.rec (motive := fun _ => An) none (W.layK ⟨l, t, false, 0, none⟩ fun n W => k (.pointer (some ⟨n, 0, none⟩)) W) (oneC l)
noncomputable def zpi (c x y : CO) (E : ZE) (o : Oper) (sl : Tr Value) (W : Tw) (k : KV) : An := match evO c sl with
  | .bool b => Bool.rec (motive := fun _ => An) (fW (evO y sl) fun v => k v W) (fW (evO x sl) fun v => k v W) b
  | _ => E.gen o sl W k
noncomputable def znc (x : CO) (E : ZE) (o : Oper) (sl : Tr Value) (W : Tw) (k : KV) : An := match evO x sl with
  | .pointer a => Option.rec (motive := fun _ => An) (E.gen o sl W k) (fun a => k (.pointer (some a)) W) a
  | _ => E.gen o sl W k
noncomputable def zfig (off sz : Nat) (x : CO) (_ : ZE) (_ : Oper) (sl : Tr Value) (W : Tw) (k : KV) : An := match evO x sl with
  | .agg ⟨cs⟩ => fTake [] sz (drp off cs) fun l => k (.agg ⟨l⟩) W
  | _ => none
noncomputable def zfis (off : Nat) (x : CO) (_ : ZE) (_ : Oper) (sl : Tr Value) (W : Tw) (k : KV) : An := match evO x sl with
  | .agg ⟨cs⟩ => Option.rec (motive := fun _ => An) none (fun v => k v W) (getR off cs)
  | _ => none
noncomputable def zex (i : Nat) (x : CO) (_ : ZE) (_ : Oper) (sl : Tr Value) (W : Tw) (k : KV) : An := match evO x sl with
  | .tuple ⟨vs⟩ => Option.rec (motive := fun _ => An) none (fun v => k v W) (getR i vs)
  | _ => none
noncomputable def zcv (q : IntKind) (x : CO) (E : ZE) (o : Oper) (sl : Tr Value) (W : Tw) (k : KV) : An := match evO x sl with
  | .int _ n => fI (cvz q n) fun n => k (.int q n) W
  | _ => E.gen o sl W k
noncomputable def zlen (x : CO) (E : ZE) (o : Oper) (sl : Tr Value) (W : Tw) (k : KV) : An := match evO x sl with
  | .slice a n _ => Option.rec (motive := fun _ => An) (E.gen o sl W k) (fun _ => k (.int .i64 (.ofNat n)) W) a
  | _ => E.gen o sl W k
noncomputable def zapp (e z b : Nat) (x y : CO) (E : ZE) (o : Oper) (sl : Tr Value) (W : Tw) (k : KV) : An := fW (evO x sl) fun v => fW (evO y sl) fun u => match v with
  | .slice base l c => (match u with
    | .chan _ => E.gen o sl W k
    | u => Bool.rec (motive := fun _ => An) (E.gen o sl W k) (opb (srcR z u W fun n news W => appNR e z b base l c n news W) fun v W => fV 2 v fun v => k v W) (sl2 v u))
  | _ => E.gen o sl W k
/-- What operands are. -/
noncomputable def evOs (xs : List CO) : Tr Value → (List Value → An) → An :=
  List.rec (motive := fun _ => Tr Value → (List Value → An) → An) (fun _ k => k []) (fun x _ ih sl k => fW (evO x sl) fun v => ih sl fun l => k (v :: l)) xs
noncomputable def zcall (x : CO) (xs : List CO) (E : ZE) (o : Oper) (sl : Tr Value) (W : Tw) (k : KV) : An := match evO x sl with
  | .func f ⟨us⟩ ⟨ys⟩ => match f with
    | .func g => match E.fn g with
      | true => match us, ys with
        | [], [] => evOs xs sl fun l => E.ck g l W k
        | us, ys => evOs xs sl fun l => fSp (us ++ (l ++ ys)) fun l => E.ck g l W k
      | false => E.gen o sl W k
    | _ => E.gen o sl W k
  | _ => E.gen o sl W k
noncomputable def zgen (_ : Oper) (E : ZE) (o : Oper) (sl : Tr Value) (W : Tw) (k : KV) : An := E.gen o sl W k
noncomputable def zI (c : CI) : ZE → Oper → Tr Value → Tw → KV → An :=
  CI.rec (motive := fun _ => ZE → Oper → Tr Value → Tw → KV → An) zmv zld zst zfa zias ziap zbin zal zbo zpi znc zfig zfis zex zcv zlen zapp zcall zgen c
end Mo

namespace Mo
open Go

/-! ## Each of them leads where the slower one leads -/
def Qz (call : CallT) (rnd : RndT) (x : Option (Next × Tw)) (k : KV) (r : Value × Tw) : Prop :=
  ∃ n W1 v W', x = some (n, W1) ∧ finT call rnd n W1 = some (v, W') ∧ k v W' = some r
structure EOk (P : Program) (sy : SyT) (tb : Tb) (call : CallT) (rnd : RndT) (E : ZE) : Prop where
  gen : ∀ o sl W k r, E.gen o sl W k = some r → Qz call rnd (opQT P sy tb (getS sl) o W) k r
  ck : ∀ f args W k r, E.ck f args W k = some r → ∃ v W', call f ⟨args⟩ W = some (v, W') ∧ k v W' = some r
  fn : ∀ g, E.fn g = true → ∃ f, tb.fn.get g = some f
section
variable {P : Program} {sy : SyT} {tb : Tb} {call : CallT} {rnd : RndT} {E : ZE} {sl : Tr Value} {W : Tw} {k : KV} {r : Value × Tw} {o : Oper}
theorem Qz.val {x : Option (Next × Tw)} {v : Value} {W' : Tw} (h : x = some (.value v, W')) (hk : k v W' = some r) : Qz call rnd x k r := ⟨_, _, v, W', h, rfl, hk⟩
theorem ok_mv {x : Operand} {c : CO} (hx : cO x = some c) (h : zmv c E o sl W k = some r) : Qz call rnd (mvQ (getS sl) x W) k r := by
  obtain ⟨h1, h2⟩ := cO_ok hx sl
  unfold zmv at h
  rw [fW_eq, h1] at h
  refine .val ?_ h
  unfold mvQ
  rw [if_pos h2]
def Two (P : Program) (sy : SyT) (tb : Tb) (call : CallT) (rnd : RndT) (sl : Tr Value) (o : Oper) (W : Tw) (k : KV) (r : Value × Tw) (x : Option (Next × Tw)) : Prop :=
  Qz call rnd x k r ∨ Qz call rnd (opQT P sy tb (getS sl) o W) k r
theorem ok_ld (hE : EOk P sy tb call rnd E) {t : TypeId} {x : Operand} {c : CO} {ti : TI} (hx : cO x = some c) (ht : tb.ty.get t = some ti) (h : zld ti.ag ti.sz c E o sl W k = some r) : Two P sy tb call rnd sl o W k r (ldQ tb (getS sl) t x W) := by
  obtain ⟨h1, h2⟩ := cO_ok hx sl
  unfold zld at h
  rw [h1] at h
  split at h
  · exact .inr (hE.gen _ _ _ _ _ h)
  left
  obtain ⟨a, u, W', e1, e2, e3⟩ := zLd_some h
  refine .val ?_ e3
  unfold ldQ
  rw [if_pos h2, e1]
  simp only [ht, e2, Option.bind_some]
theorem ok_st (hE : EOk P sy tb call rnd E) {t : TypeId} {x y : Operand} {c d : CO} {ti : TI} (hx : cO x = some c) (hy : cO y = some d) (ht : tb.ty.get t = some ti) (h : zst ti.sz c d E o sl W k = some r) : Two P sy tb call rnd sl o W k r (stQ tb (getS sl) t x y W) := by
  obtain ⟨h1, h2⟩ := cO_ok hx sl
  obtain ⟨h3, h4⟩ := cO_ok hy sl
  unfold zst at h
  rw [h1] at h
  split at h
  · exact .inr (hE.gen _ _ _ _ _ h)
  left
  rw [fW_eq, h3] at h
  obtain ⟨a, W', e1, e2, e3⟩ := zSt_some h
  refine ⟨.skip, W', undef, W', ?_, rfl, e3⟩
  unfold stQ
  rw [h2, h4, Bool.and_self, if_pos rfl, e1]
  simp only [ht, fW_eq, e2, Option.bind_some]
theorem cF_some {s : TypeId} {n : Nat} {q : Nat × Nat × Bool} (h : cF tb s n = some q) : ∃ sz ag fs z, tb.ty.get s = some ⟨sz, ag, .st fs, z⟩ ∧ getX fs n = some q := by
  unfold cF at h
  split at h
  · rename_i sz ag fs z ht
    exact ⟨sz, ag, fs, z, ht, h⟩
  · cases h
theorem ok_fa (hE : EOk P sy tb call rnd E) {s : TypeId} {x : Operand} {n off sz : Nat} {ag : Bool} {c : CO} (hx : cO x = some c) (hf : cF tb s n = some (off, sz + 1, ag)) (h : zfa off c E o sl W k = some r) : Two P sy tb call rnd sl o W k r (faQ tb (getS sl) s x n W) := by
  obtain ⟨h1, h2⟩ := cO_ok hx sl
  obtain ⟨_, _, fs, _, ht, hg⟩ := cF_some hf
  unfold zfa at h
  rw [h1] at h
  split at h
  · exact .inr (hE.gen _ _ _ _ _ h)
  left
  obtain ⟨b, of, e1, e2⟩ := asP_some h
  rw [fN_eq] at e2
  refine .val ?_ e2
  unfold faQ
  rw [if_pos h2, e1]
  simp only [ht, hg, add_none]
  rfl
theorem ok_ias (hE : EOk P sy tb call rnd E) {t : TypeId} {x y : Operand} {c d : CO} {e sz : Nat} {ag : Bool} {z : Value} (hx : cO x = some c) (hy : cO y = some d) (ht : tb.ty.get t = some ⟨sz, ag, .sl e, z⟩) (h : zias e c d E o sl W k = some r) : Two P sy tb call rnd sl o W k r (iaQ tb (getS sl) t x y W) := by
  obtain ⟨h1, h2⟩ := cO_ok hx sl
  obtain ⟨h3, h4⟩ := cO_ok hy sl
  unfold zias at h
  rw [h1, h3] at h
  split at h
  · exact .inr (hE.gen _ _ _ _ _ h)
  left
  obtain ⟨b, of, n, c', e1, e2⟩ := asS_some h
  obtain ⟨q, i, e3, e4⟩ := asN_some e2
  cases hb : Nat.blt i n with
  | false => rw [hb] at e4; cases e4
  | true =>
    rw [hb] at e4
    simp only [fN_eq] at e4
    refine .val ?_ e4
    unfold iaQ
    rw [h2, h4, Bool.and_self, if_pos rfl, e1, e3]
    simp only [ht, hb, if_true, add_none]
    rfl
theorem ok_iap {t : TypeId} {x y : Operand} {c d : CO} {n e sz : Nat} {ag : Bool} {z : Value} (hx : cO x = some c) (hy : cO y = some d) (ht : tb.ty.get t = some ⟨sz, ag, .ar n e, z⟩) (h : ziap n e c d E o sl W k = some r) : Qz call rnd (iaQ tb (getS sl) t x y W) k r := by
  obtain ⟨h1, h2⟩ := cO_ok hx sl
  obtain ⟨h3, h4⟩ := cO_ok hy sl
  unfold ziap at h
  rw [h1, h3] at h
  obtain ⟨b, of, e1, e2⟩ := asP_some h
  obtain ⟨q, i, e3, e4⟩ := asN_some e2
  cases hb : Nat.blt i n with
  | false => rw [hb] at e4; cases e4
  | true =>
    rw [hb] at e4
    simp only [fN_eq] at e4
    refine .val ?_ e4
    unfold iaQ
    rw [h2, h4, Bool.and_self, if_pos rfl, e1, e3]
    simp only [ht, hb, if_true, add_none]
    rfl
theorem ok_al {t : TypeId} {ti : TI} (ht : tb.ty.get t = some ti) (h : zal ti.z.cells.toList t E o sl W k = some r) : Qz call rnd (alQ tb t W) k r := by
  unfold zal at h
  rw [Tw.layK_eq] at h
  obtain ⟨n, W', h1, h2⟩ := bind_some h
  refine .val ?_ h2
  unfold alQ
  simp only [ht, fZ_eq, Tw.layK_eq, h1, Option.bind_some]
theorem ok_bo {t : TypeId} {x : Operand} {c : CO} (hx : cO x = some c) (h : zbo t c E o sl W k = some r) : Qz call rnd (boQ (getS sl) t x W) k r := by
  obtain ⟨h1, h2⟩ := cO_ok hx sl
  unfold zbo at h
  rw [fW_eq, fZ_eq, h1] at h
  cases ho : oneC (ev (getS sl) x).cells.toList with
  | false => rw [ho] at h; cases h
  | true =>
    rw [ho] at h
    simp only [Tw.layK_eq] at h
    obtain ⟨n, W', h3, h4⟩ := bind_some h
    refine .val ?_ h4
    unfold boQ
    rw [if_pos h2, fW_eq, fZ_eq, ho]
    simp only [Tw.layK_eq]
    rw [h3]
    rfl
theorem ok_pi (hE : EOk P sy tb call rnd E) {c x y : Operand} {c' x' y' : CO} (hc : cO c = some c') (hx : cO x = some x') (hy : cO y = some y') (h : zpi c' x' y' E o sl W k = some r) : Two P sy tb call rnd sl o W k r (piQ (getS sl) c x y W) := by
  obtain ⟨h1, h2⟩ := cO_ok hc sl
  obtain ⟨h3, h4⟩ := cO_ok hx sl
  obtain ⟨h5, h6⟩ := cO_ok hy sl
  unfold zpi at h
  rw [h1, h3, h5] at h
  split at h
  · rename_i b hb
    left
    cases b with
    | true =>
      simp only [fW_eq] at h
      refine .val ?_ h
      unfold piQ
      rw [h2, h4, h6]
      simp only [Bool.and_self, if_true, hb]
    | false =>
      simp only [fW_eq] at h
      refine .val ?_ h
      unfold piQ
      rw [h2, h4, h6]
      simp only [Bool.and_self, if_true, hb]
  · exact .inr (hE.gen _ _ _ _ _ h)
theorem ok_fig {s : TypeId} {x : Operand} {n off sz : Nat} {c : CO} (hx : cO x = some c) (hf : cF tb s n = some (off, sz, true)) (h : zfig off sz c E o sl W k = some r) : Qz call rnd (fiQ tb (getS sl) s x n W) k r := by
  obtain ⟨h1, h2⟩ := cO_ok hx sl
  obtain ⟨_, _, fs, _, ht, hg⟩ := cF_some hf
  unfold zfig at h
  rw [h1] at h
  split at h
  · rename_i cs hv
    rw [fTake_eq, drp_eq] at h
    cases hl : takeL (cs.drop off) sz with
    | none => rw [hl] at h; cases h
    | some vs =>
      rw [hl, Option.bind_some, List.append_nil] at h
      have e : vs = (cs.drop off).take sz := by
        obtain ⟨t1, t2, t3⟩ := takeL_some hl
        apply List.ext_getElem (by rw [List.length_take]; omega)
        intro i i1 i2
        rw [List.getElem_take]
        exact t3 i i1 _
      subst e
      refine .val ?_ h
      unfold fiQ
      rw [if_pos h2, hv]
      simp only [ht, hg]
  · cases h
theorem ok_fis {s : TypeId} {x : Operand} {n off sz : Nat} {c : CO} (hx : cO x = some c) (hf : cF tb s n = some (off, sz, false)) (h : zfis off c E o sl W k = some r) : Qz call rnd (fiQ tb (getS sl) s x n W) k r := by
  obtain ⟨h1, h2⟩ := cO_ok hx sl
  obtain ⟨_, _, fs, _, ht, hg⟩ := cF_some hf
  unfold zfis at h
  rw [h1] at h
  split at h
  · rename_i cs hv
    cases hl : getR off cs with
    | none => rw [hl] at h; cases h
    | some v =>
      rw [hl] at h
      rw [getR_eq] at hl
      have e : getX (cs.drop off) 0 = some v := by
        have key : ∀ (l : List Value) (o : Nat), getL l o = l[o]? := by
          intro l
          induction l with
          | nil => intro o; simp [getL]
          | cons x s ih => intro o; cases o <;> simp [getL, ih]
        rw [getX_eq]
        rw [key] at hl
        simpa using hl
      refine .val ?_ h
      unfold fiQ
      rw [if_pos h2, hv]
      simp only [ht, hg, e]
  · cases h
theorem ok_ex {x : Operand} {i : Nat} {c : CO} (hx : cO x = some c) (h : zex i c E o sl W k = some r) : Qz call rnd (exQ (getS sl) x i W) k r := by
  obtain ⟨h1, h2⟩ := cO_ok hx sl
  unfold zex at h
  rw [h1] at h
  split at h
  · rename_i vs hv
    cases hl : getR i vs with
    | none => rw [hl] at h; cases h
    | some v =>
      rw [hl] at h
      rw [getR_eq] at hl
      have e : getX vs i = some v := by
        have key : ∀ (l : List Value) (o : Nat), getL l o = l[o]? := by
          intro l
          induction l with
          | nil => intro o; simp [getL]
          | cons x s ih => intro o; cases o <;> simp [getL, ih]
        rw [getX_eq, ← key]
        exact hl
      refine .val ?_ h
      unfold exQ
      rw [if_pos h2, hv]
      simp only [e]
  · cases h
/-- What has a slower road too. -/
theorem ok_bin (hE : EOk P sy tb call rnd E) {b : BinOp} {t : TypeId} {x y : Operand} {c d : CO} (hx : cO x = some c) (hy : cO y = some d) (h : zbin b t c d E o sl W k = some r) : Two P sy tb call rnd sl o W k r (biQ (getS sl) b t x y W) := by
  obtain ⟨h1, h2⟩ := cO_ok hx sl
  obtain ⟨h3, h4⟩ := cO_ok hy sl
  unfold zbin at h
  rw [h1, h3] at h
  cases hb : bzz b (ev (getS sl) x) (ev (getS sl) y) with
  | none => rw [hb] at h; exact .inr (hE.gen _ _ _ _ _ h)
  | some v =>
    rw [hb] at h
    refine .inl (.val ?_ h)
    unfold biQ
    rw [h2, h4, Bool.and_self, if_pos rfl, bzz_eq hb]
theorem ok_nc (hE : EOk P sy tb call rnd E) {x : Operand} {c : CO} (hx : cO x = some c) (h : znc c E o sl W k = some r) : Two P sy tb call rnd sl o W k r (ncQ (getS sl) x W) := by
  obtain ⟨h1, h2⟩ := cO_ok hx sl
  unfold znc at h
  rw [h1] at h
  split at h
  · rename_i a ha
    cases a with
    | none => exact .inr (hE.gen _ _ _ _ _ h)
    | some a =>
      refine .inl (.val ?_ h)
      unfold ncQ
      rw [if_pos h2, ha]
  · exact .inr (hE.gen _ _ _ _ _ h)
theorem ok_cv (hE : EOk P sy tb call rnd E) {s d : TypeId} {x : Operand} {c : CO} {ti : TI} {sz : Nat} {ag : Bool} {q : IntKind} {z : Value} (hx : cO x = some c) (hs : tb.ty.get s = some ti) (hd : tb.ty.get d = some ⟨sz, ag, .int q, z⟩) (h : zcv q c E o sl W k = some r) :
    Two P sy tb call rnd sl o W k r (cvQ tb (getS sl) s d x W) := by
  obtain ⟨h1, h2⟩ := cO_ok hx sl
  unfold zcv at h
  rw [h1] at h
  split at h
  · rename_i j n hv
    rw [fI_eq, cvz_eq] at h
    refine .inl (.val ?_ h)
    unfold cvQ
    rw [if_pos h2, hv]
    simp only [hs, hd]
  · exact .inr (hE.gen _ _ _ _ _ h)
theorem ok_len (hE : EOk P sy tb call rnd E) {l : List Operand} {ts : List TypeId} {cl : Call} {x : Operand} {t : TypeId} {c : CO} {sz : Nat} {ag : Bool} {e : Nat} {z : Value} (hl : cl.args.toList = [x]) (hts : cl.argTypes.toList = [t]) (hx : cO x = some c) (ht : tb.ty.get t = some ⟨sz, ag, .sl e, z⟩)
    (h : zlen c E o sl W k = some r) : Two P sy tb call rnd sl o W k r (leQ tb (getS sl) cl W) := by
  obtain ⟨h1, h2⟩ := cO_ok hx sl
  unfold zlen at h
  rw [h1] at h
  split at h
  · rename_i a n cc hv
    cases a with
    | none => exact .inr (hE.gen _ _ _ _ _ h)
    | some a =>
      refine .inl (.val ?_ h)
      unfold leQ
      rw [hl]
      simp only [h2, if_true, hts, lenQ, hv, ht]
      rfl
  · exact .inr (hE.gen _ _ _ _ _ h)
theorem ok_app (hE : EOk P sy tb call rnd E) {cl : Call} {x y : Operand} {t u : TypeId} {c d : CO} {e z b : Nat} (hl : cl.args.toList = [x, y]) (hts : cl.argTypes.toList = [t, u]) (htu : Nat.beq t u = true) (ha : tb.ap.get t = some (e, z, b)) (hx : cO x = some c) (hy : cO y = some d)
    (h : zapp e z b c d E o sl W k = some r) : Two P sy tb call rnd sl o W k r (apQ tb (getS sl) cl W) := by
  obtain ⟨h1, h2⟩ := cO_ok hx sl
  obtain ⟨h3, h4⟩ := cO_ok hy sl
  unfold zapp at h
  rw [fW_eq, fW_eq, h1, h3] at h
  split at h
  · rename_i base l cc hv
    split at h
    · exact .inr (hE.gen _ _ _ _ _ h)
    cases hs : sl2 (ev (getS sl) x) (ev (getS sl) y) with
    | false =>
      rw [hs] at h
      exact .inr (hE.gen _ _ _ _ _ h)
    | true =>
      rw [hs] at h
      obtain ⟨v, W', e1, e2⟩ := opb_some h
      rw [fV_eq] at e2
      refine .inl (.val ?_ e2)
      unfold apQ
      rw [hl]
      simp only [h2, h4, Bool.and_self, if_true, hts, appR, htu, ha]
      rw [hv] at hs ⊢
      simp only at hs ⊢
      rw [hs]
      simp only [e1, Option.bind_some]
  · exact .inr (hE.gen _ _ _ _ _ h)
theorem evOs_eq : ∀ {l : List Operand} {cs : List CO} (k : List Value → An), cOL l = some cs → evOs cs sl k = k (evalL (getS sl) l) ∧ qdL l = true
  | [], cs, k, h => by
    cases h
    exact ⟨rfl, rfl⟩
  | x :: l, cs, k, h => by
    unfold cOL at h
    split at h
    · rename_i c l' hc hl
      cases h
      obtain ⟨h1, h2⟩ := cO_ok hc sl
      obtain ⟨h3, h4⟩ := evOs_eq (fun l => k (evO c sl :: l)) hl
      refine ⟨?_, by simp only [qdL, h2, h4, Bool.and_self]⟩
      show fW (evO c sl) (fun v => evOs l' sl fun l => k (v :: l)) = _
      rw [fW_eq, h3, h1]
      rfl
    · cases h
theorem ok_call (hE : EOk P sy tb call rnd E) {x : Operand} {xs : List Operand} {c : CO} {cs : List CO} (hx : cO x = some c) (hxs : cOL xs = some cs) (h : zcall c cs E o sl W k = some r) : Two P sy tb call rnd sl o W k r (clQQ tb (getS sl) x xs W) := by
  obtain ⟨h1, h2⟩ := cO_ok hx sl
  unfold zcall at h
  rw [h1] at h
  have key : ∀ {g us ys}, ev (getS sl) x = .func (.func g) ⟨us⟩ ⟨ys⟩ → E.fn g = true → E.ck g (us ++ (evalL (getS sl) xs ++ ys)) W k = some r → Qz call rnd (clQQ tb (getS sl) x xs W) k r := by
    intro g us ys hv hg hc
    obtain ⟨f, hf⟩ := hE.fn g hg
    obtain ⟨v, W', e1, e2⟩ := hE.ck _ _ _ _ _ hc
    refine ⟨.enter g ⟨us ++ (evalL (getS sl) xs ++ ys)⟩, W, v, W', ?_, e1, e2⟩
    unfold clQQ
    rw [h2, (evOs_eq (sl := sl) (fun _ => none) hxs).2, Bool.and_self, if_pos rfl, hv]
    simp only [hf, fLi_eq (fun v k => fW_eq)]
  split at h
  · rename_i f us ys hv
    split at h
    · rename_i g
      split at h
      · rename_i hg
        split at h
        · rw [(evOs_eq _ hxs).1] at h
          exact .inl (key hv hg (by simpa using h))
        · rw [(evOs_eq _ hxs).1, fSp_eq] at h
          exact .inl (key hv hg h)
      · exact .inr (hE.gen _ _ _ _ _ h)
    · exact .inr (hE.gen _ _ _ _ _ h)
  · exact .inr (hE.gen _ _ _ _ _ h)

theorem opQT_of {f : Nat → Value} {x : Option (Next × Tw)} (hx : opQ tb f o W = x) (h : Qz call rnd x k r) : Qz call rnd (opQT P sy tb f o W) k r := by
  obtain ⟨n, W1, v, W', h1, h2, h3⟩ := h
  refine ⟨n, W1, v, W', ?_, h2, h3⟩
  unfold opQT
  rw [hx, h1]
theorem zI_ok (hE : EOk P sy tb call rnd E) (h : zI (cI tb o) E o sl W k = some r) : Qz call rnd (opQT P sy tb (getS sl) o W) k r := by
  have two : ∀ {x : Option (Next × Tw)}, opQ tb (getS sl) o W = x → Two P sy tb call rnd sl o W k r x → Qz call rnd (opQT P sy tb (getS sl) o W) k r := by
    intro x hx h
    rcases h with h | h
    · exact opQT_of hx h
    · exact h
  have gen : zgen o E o sl W k = some r → Qz call rnd (opQT P sy tb (getS sl) o W) k r := fun h => hE.gen _ _ _ _ _ h
  obtain ⟨dst, op, type, pos, after, guard⟩ := o
  unfold cI at h
  cases op <;> dsimp only at h <;> try (exact gen h)
  case move x =>
    split at h
    · rename_i c hx; exact opQT_of rfl (ok_mv (E := E) (o := ⟨dst, .move x, type, pos, after, guard⟩) hx h)
    · exact gen h
  case assign x =>
    split at h
    · rename_i c hx; exact opQT_of rfl (ok_mv (E := E) (o := ⟨dst, .assign x, type, pos, after, guard⟩) hx h)
    · exact gen h
  case load t x =>
    split at h
    · rename_i c ti hx ht; exact two rfl (ok_ld hE hx ht h)
    · exact gen h
  case store t x y =>
    split at h
    · rename_i c d ti hx hy ht; exact two rfl (ok_st hE hx hy ht h)
    · exact gen h
  case fieldAddr s x n =>
    split at h
    · rename_i c off sz ag hx hf; exact two rfl (ok_fa hE hx hf h)
    · exact gen h
  case indexAddr t x y =>
    split at h
    · rename_i c d sz ag e z hx hy ht; exact two rfl (ok_ias hE hx hy ht h)
    · rename_i c d sz ag n e z hx hy ht; exact opQT_of rfl (ok_iap (E := E) (o := ⟨dst, .indexAddr t x y, type, pos, after, guard⟩) hx hy ht h)
    · exact gen h
  case binOp b t x y z =>
    split at h
    · rename_i c d hx hy; exact two rfl (ok_bin hE hx hy h)
    · exact gen h
  case alloc t =>
    split at h
    · rename_i ti ht; exact opQT_of rfl (ok_al (E := E) (sl := sl) (o := ⟨dst, .alloc t, type, pos, after, guard⟩) ht h)
    · exact gen h
  case box t x =>
    split at h
    · rename_i c hx; exact opQT_of rfl (ok_bo (E := E) (o := ⟨dst, .box t x, type, pos, after, guard⟩) hx h)
    · exact gen h
  case pick c x y =>
    split at h
    · rename_i c' x' y' hc hx hy; exact two rfl (ok_pi hE hc hx hy h)
    · exact gen h
  case nilCheck x =>
    split at h
    · rename_i c hx; exact two rfl (ok_nc hE hx h)
    · exact gen h
  case field s x n =>
    split at h
    · rename_i c off sz hx hf; exact opQT_of rfl (ok_fig (E := E) (o := ⟨dst, .field s x n, type, pos, after, guard⟩) hx hf h)
    · rename_i c off sz hx hf; exact opQT_of rfl (ok_fis (E := E) (o := ⟨dst, .field s x n, type, pos, after, guard⟩) hx hf h)
    · exact gen h
  case extract x i =>
    split at h
    · rename_i c hx; exact opQT_of rfl (ok_ex (E := E) (o := ⟨dst, .extract x i, type, pos, after, guard⟩) hx h)
    · exact gen h
  case convert s d x =>
    split at h
    · rename_i c ti sz ag q z hx hs hd; exact two rfl (ok_cv hE hx hs hd h)
    · exact gen h
  case call c =>
    obtain ⟨cl, args, ats⟩ := c
    cases cl <;> dsimp only at h <;> try (exact gen h)
    case value x =>
      split at h
      · rename_i c cs hx hxs; exact two rfl (ok_call hE hx hxs h)
      · exact gen h
    case builtin b =>
      cases b <;> dsimp only at h <;> try (exact gen h)
      case append =>
        split at h
        · rename_i x y t u hl hts
          split at h
          · rename_i c d e z b hx hy htu ha
            exact two rfl (ok_app hE hl hts htu ha hx hy h)
          · exact gen h
        · exact gen h
      case len =>
        split at h
        · rename_i x t hl hts
          split at h
          · rename_i c sz ag e z hx ht
            exact two rfl (ok_len hE (l := []) (ts := []) hl hts hx ht h)
          · exact gen h
        · exact gen h
end
end Mo

namespace Mo
open Go

/-! ## Steps and code -/
inductive CS where
  | mk (g : Option (Ps × Bool)) (d : Option Ps) (c : CI) (o : Oper)
noncomputable def cG (ops : Array Oper) : Option (Nat × Bool) → Option (Option (Ps × Bool))
  | none => some none
  | some (j, b) => match (ops[j]?).bind (·.dst) with
    | some d => if Nat.blt d 1073741824 then some (some (pth d, b)) else none
    | none => none
noncomputable def cD (N : Nat) : Option Nat → Option (Option Ps)
  | none => some none
  | some t => if Nat.blt t N && Nat.blt t 1073741824 then some (some (pth t)) else none
noncomputable def cS (tb : Tb) (N : Nat) (ops : Array Oper) (o : Oper) : Option CS := match cG ops o.guard, cD N o.dst with
  | some g, some d => some (.mk g d (cI tb o) o)
  | _, _ => none
noncomputable def cSL (tb : Tb) (N : Nat) (ops : Array Oper) : List Oper → Option (List CS)
  | [] => some []
  | o :: r => match cS tb N ops o, cSL tb N ops r with
    | some c, some l => some (c :: l)
    | _, _ => none
noncomputable def zPut (d : Option Ps) (sl : Tr Value) (v : Value) (k : Tr Value → An) : An :=
  Option.rec (motive := fun _ => An) (k sl) (fun p => putP p sl v k) d
abbrev KL := Tr Value → Tw → An
noncomputable def zRun (d : Option Ps) (c : CI) (o : Oper) (E : ZE) (sl : Tr Value) (W : Tw) (k : KL) : An := zI c E o sl W fun v W => zPut d sl v fun sl => k sl W
theorem Tr.put_same {α : Type} {r : α} : ∀ (f : Nat) (t : Tr α) (n : Nat), t.get n = some r → Tr.put (some r) f t n = t
  | 0, t, n, _ => rfl
  | f + 1, .lf, n, h => by rw [Tr.get_lf] at h; cases h
  | f + 1, .nd v l q, 0, h => by rw [Tr.get_zero] at h; rw [Tr.put, h]
  | f + 1, .nd v l q, m + 1, h => by
    rw [Tr.get_succ] at h
    rw [Tr.put]
    by_cases hm : m % 2 = 0
    · rw [if_pos hm] at h ⊢
      rw [Tr.put_same f l _ h]
    · rw [if_neg hm] at h ⊢
      rw [Tr.put_same f q _ h]
/-- A decision is written down. -/
noncomputable def setB (v : Value) (b : Bool) (W : Tw) (k : Tw → An) : An := match v with
  | .chan (some n) => (match W.get n with
    | some ⟨cs, e, op, z, some (.p ⟨.bool, _⟩)⟩ => (match W with
      | ⟨t, nx, lim, rd, wr⟩ => fT (some ⟨cs, e, op, z, some (.p ⟨.bool, b⟩)⟩) 64 t n fun t => k ⟨t, nx, lim, rd, wr⟩)
    | _ => k W)
  | _ => k W
theorem setB_eq {v : Value} {b : Bool} {W W' : Tw} {k : Tw → An} (h : condT v W = some (b, W')) : setB v b W' k = k W' := by
  unfold setB
  split
  · rename_i n
    split
    · rename_i cs e op z x hg
      obtain ⟨t, nx, lim, rd, wr⟩ := W'
      simp only [fT_eq]
      have h' : (payT (.chan (some n)) W).bind (fun p => (castB p.1).map fun b => (b, p.2)) = some (b, ⟨t, nx, lim, rd, wr⟩) := h
      obtain ⟨p, W1, h1, h2⟩ := bind_some h'
      unfold payT at h1
      obtain ⟨r, W2, h3, h4⟩ := bind_some h1
      obtain ⟨hg2, rfl⟩ := look_some h3
      simp only at h4
      split at h4
      · rename_i t' ho
        cases h4
        cases hc : castB p with
        | none => rw [hc] at h2; cases h2
        | some b' =>
          rw [hc] at h2
          have h2' : some (b', W.read n) = some (b, (⟨t, nx, lim, rd, wr⟩ : Tw)) := h2
          have e1 := (Prod.mk.inj (Option.some.inj h2')).1
          have e2 := (Prod.mk.inj (Option.some.inj h2')).2
          have hg3 : (⟨t, nx, lim, rd, wr⟩ : Tw).get n = W.get n := by rw [← e2]; rfl
          rw [hg3, hg2] at hg
          cases hg
          have hp := castB_some hc
          cases ho
          have hx : x = b := by
            cases hp
            exact e1
          rw [← hx]
          have hgt : Tr.get t n = some ⟨cs, e, op, z, some (.p ⟨.bool, x⟩)⟩ := by
            have : (⟨t, nx, lim, rd, wr⟩ : Tw).get n = some ⟨cs, e, op, z, some (.p ⟨.bool, x⟩)⟩ := by rw [hg3]; exact hg2
            unfold Tw.get at this
            split at this
            · exact this
            · cases this
          rw [Tr.put_same 64 t n hgt]
      · cases h4
    · rfl
  · rfl
noncomputable def zWant (b : Bool) (v : Value) (W : Tw) (y n : Tw → An) : An := match v with
  | .bool x => Bool.rec (motive := fun _ => An) (Bool.rec (motive := fun _ => An) (y W) (n W) b) (Bool.rec (motive := fun _ => An) (n W) (y W) b) x
  | .tuple _ => n W
  | v => opb (condT v W) fun x W => Bool.rec (motive := fun _ => An) (setB v false W (Bool.rec (motive := fun _ => Tw → An) y n b)) (setB v true W (Bool.rec (motive := fun _ => Tw → An) n y b)) x
noncomputable def zGrd (g : Option (Ps × Bool)) (d : Option Ps) (c : CI) (o : Oper) (E : ZE) (sl : Tr Value) (W : Tw) (k : KL) : An :=
  Option.rec (motive := fun _ => An) (zRun d c o E sl W k) (fun q => Prod.rec (motive := fun _ => An) (fun p b => zWant b (getP p sl) W (fun W => zRun d c o E sl W k) (fun W => zPut d sl undef fun sl => k sl W)) q) g
noncomputable def zStep (s : CS) : ZE → Tr Value → Tw → KL → An := CS.rec (motive := fun _ => ZE → Tr Value → Tw → KL → An) zGrd s
noncomputable def zL (l : List CS) : ZE → Tr Value → Tw → KL → An :=
  List.rec (motive := fun _ => ZE → Tr Value → Tw → KL → An) (fun _ sl W k => k sl W) (fun s _ ih E sl W k => zStep s E sl W fun sl W => ih E sl W k) l
abbrev KD := Tr Value → List (Lg × Lg) → Tw → An
noncomputable def zD (l : List CS) : ZE → Tr Value → Tw → KD → An :=
  List.rec (motive := fun _ => ZE → Tr Value → Tw → KD → An) (fun _ sl W k => k sl [] W) (fun s _ ih E sl W k => Tw.rec (motive := fun _ => An) (fun t nx lim rd0 wr0 =>
    zStep s E sl ⟨t, nx, lim, [], []⟩ fun sl W => Tw.rec (motive := fun _ => An) (fun t nx lim rd wr => Lg.fjoin rd0 rd fun rd1 => Lg.fjoin wr0 wr fun wr1 =>
      ih E sl ⟨t, nx, lim, rd1, wr1⟩ fun sl ls W => k sl ((rd, wr) :: ls) W) W) W) l
section
variable {P : Program} {sy : SyT} {tb : Tb} {call : CallT} {rnd : RndT} {E : ZE} {sl : Tr Value} {W : Tw} {r : Value × Tw} {o : Oper} {N : Nat} {ops : Array Oper}
theorem zPut_ok {dst : Option Nat} {d : Option Ps} {v : Value} {k : Tr Value → An} (hd : cD N dst = some d) (h : zPut d sl v k = some r) : ∃ sl', putS N dst v sl = some sl' ∧ k sl' = some r := by
  unfold cD at hd
  split at hd
  · cases hd; exact ⟨sl, rfl, h⟩
  · rename_i t
    split at hd
    · rename_i hb
      cases hd
      have hb' := hb
      simp only [Bool.and_eq_true, Nat.blt_eq] at hb'
      have h' : putP (pth t) sl v k = some r := h
      rw [putP_pth hb'.2] at h'
      refine ⟨_, ?_, h'⟩
      unfold putS
      simp only
      rw [if_pos hb, fT_eq]
    · cases hd
theorem zRun_ok (hE : EOk P sy tb call rnd E) {d : Option Ps} {k : KL} (hd : cD N o.dst = some d) (h : zRun d (cI tb o) o E sl W k = some r) :
    ∃ n W1 v W' sl', opQT P sy tb (getS sl) o W = some (n, W1) ∧ finT call rnd n W1 = some (v, W') ∧ putS N o.dst v sl = some sl' ∧ k sl' W' = some r := by
  obtain ⟨n, W1, v, W', h1, h2, h3⟩ := zI_ok hE h
  obtain ⟨sl', h4, h5⟩ := zPut_ok hd h3
  exact ⟨n, W1, v, W', sl', h1, h2, h4, h5⟩
theorem zStep_ok (hE : EOk P sy tb call rnd E) {s : CS} {k : KL} (hs : cS tb N ops o = some s) (h : zStep s E sl W k = some r) :
    ∃ v W' sl', opV (opQT P sy tb) call rnd ops o (getS sl) W = some (v, W') ∧ putS N o.dst v sl = some sl' ∧ k sl' W' = some r := by
  unfold cS at hs
  split at hs
  · rename_i g d hg hd
    cases hs
    have h' : zGrd g d (cI tb o) o E sl W k = some r := h
    clear h
    have run : ∀ W0, wantT ops (getS sl) o W = some (true, W0) → zRun d (cI tb o) o E sl W0 k = some r → ∃ v W' sl', opV (opQT P sy tb) call rnd ops o (getS sl) W = some (v, W') ∧ putS N o.dst v sl = some sl' ∧ k sl' W' = some r := by
      intro W0 hw h
      obtain ⟨n, W1, v, W', sl', h1, h2, h3, h4⟩ := zRun_ok hE hd h
      refine ⟨v, W', sl', ?_, h3, h4⟩
      unfold opV
      rw [hw]
      simp only [h1, Option.bind_some, h2]
    have no : ∀ W0, wantT ops (getS sl) o W = some (false, W0) → zPut d sl undef (fun sl => k sl W0) = some r → ∃ v W' sl', opV (opQT P sy tb) call rnd ops o (getS sl) W = some (v, W') ∧ putS N o.dst v sl = some sl' ∧ k sl' W' = some r := by
      intro W0 hw h
      obtain ⟨sl', h3, h4⟩ := zPut_ok hd h
      refine ⟨undef, W0, sl', ?_, h3, h4⟩
      unfold opV
      rw [hw]
      rfl
    unfold cG at hg
    cases hgd : o.guard with
    | none =>
      rw [hgd] at hg
      cases hg
      exact run W (by unfold wantT; rw [hgd]) h'
    | some jb =>
      obtain ⟨j, b⟩ := jb
      rw [hgd] at hg
      simp only at hg
      split at hg
      · rename_i t ht
        split at hg
        · rename_i hlt
          rw [Nat.blt_eq] at hlt
          cases hg
          have h2 : zWant b (getP (pth t) sl) W (fun W => zRun d (cI tb o) o E sl W k) (fun W => zPut d sl undef fun sl => k sl W) = some r := h'
          clear h'
          rw [getP_eq, pth_code hlt] at h2
          have go : ∀ (x : Bool) (W0 : Tw), wantT ops (getS sl) o W = some (x == b, W0) → Bool.rec (motive := fun _ => An) (Bool.rec (motive := fun _ => An) (zRun d (cI tb o) o E sl W0 k) (zPut d sl undef fun sl => k sl W0) b) (Bool.rec (motive := fun _ => An) (zPut d sl undef fun sl => k sl W0) (zRun d (cI tb o) o E sl W0 k) b) x = some r →
              ∃ v W' sl', opV (opQT P sy tb) call rnd ops o (getS sl) W = some (v, W') ∧ putS N o.dst v sl = some sl' ∧ k sl' W' = some r := by
            intro x W0 hw h3
            cases x <;> cases b
            · exact run W0 hw h3
            · exact no W0 hw h3
            · exact no W0 hw h3
            · exact run W0 hw h3
          unfold zWant at h2
          split at h2
          · rename_i x hx
            refine go x W ?_ h2
            unfold wantT
            rw [hgd]
            simp only [ht, hx]
            rfl
          · rename_i x hx
            exact no W (by unfold wantT; rw [hgd]; simp only [ht, hx]) h2
          · rename_i v hn1 hn2
            obtain ⟨x, W0, h3, h4⟩ := opb_some h2
            refine go x W0 ?_ (by
              cases x with
              | false =>
                have h5 : setB (getS sl t) false W0 _ = some r := h4
                rw [setB_eq h3] at h5
                cases b <;> exact h5
              | true =>
                have h5 : setB (getS sl t) true W0 _ = some r := h4
                rw [setB_eq h3] at h5
                cases b <;> exact h5)
            unfold wantT
            rw [hgd]
            simp only [ht]
            rw [h3]; rfl
        · cases hg
      · cases hg
  · cases hs
theorem zL_ok (hE : EOk P sy tb call rnd E) : ∀ (l : List Oper) (cs : List CS) (sl : Tr Value) (W : Tw) (k : KL), cSL tb N ops l = some cs → zL cs E sl W k = some r →
    ∃ sl' W', evL (opQT P sy tb) call rnd N ops l sl W = some (sl', W') ∧ k sl' W' = some r
  | [], cs, sl, W, k, hc, h => by
    cases hc
    exact ⟨sl, W, rfl, h⟩
  | o :: l, cs, sl, W, k, hc, h => by
    unfold cSL at hc
    split at hc
    · rename_i c l' h1 h2
      cases hc
      have h' : zStep c E sl W (fun sl W => zL l' E sl W k) = some r := h
      obtain ⟨v, W1, sl1, e1, e2, e3⟩ := zStep_ok hE h1 h'
      obtain ⟨sl2, W2, e4, e5⟩ := zL_ok hE l l' sl1 W1 k h2 e3
      refine ⟨sl2, W2, ?_, e5⟩
      rw [evL, e1, Option.bind_some]
      simp only [forV_eq, e2]
      exact e4
    · cases hc
theorem zD_ok (hE : EOk P sy tb call rnd E) : ∀ (l : List Oper) (cs : List CS) (sl : Tr Value) (W : Tw) (k : KD), cSL tb N ops l = some cs → zD cs E sl W k = some r →
    ∃ sl' ls W', evD (opQT P sy tb) call rnd N ops l sl W = some ((sl', ls), W') ∧ k sl' ls W' = some r
  | [], cs, sl, W, k, hc, h => by
    cases hc
    exact ⟨sl, [], W, rfl, h⟩
  | o :: l, cs, sl, W, k, hc, h => by
    unfold cSL at hc
    split at hc
    · rename_i c l' h1 h2
      cases hc
      obtain ⟨t, nx, lim, rd0, wr0⟩ := W
      have h' : zStep c E sl ⟨t, nx, lim, [], []⟩ (fun sl W => Tw.rec (motive := fun _ => An) (fun t nx lim rd wr => Lg.fjoin rd0 rd fun rd1 => Lg.fjoin wr0 wr fun wr1 =>
        zD l' E sl ⟨t, nx, lim, rd1, wr1⟩ fun sl ls W => k sl ((rd, wr) :: ls) W) W) = some r := h
      obtain ⟨v, W1, sl1, e1, e2, e3⟩ := zStep_ok hE h1 h'
      obtain ⟨t1, nx1, lim1, rd, wr⟩ := W1
      simp only [Lg.fjoin_eq] at e3
      obtain ⟨sl2, ls, W2, e4, e5⟩ := zD_ok hE l l' sl1 _ _ h2 e3
      refine ⟨sl2, (rd, wr) :: ls, W2, ?_, e5⟩
      rw [evD]
      have es : subT (opV (opQT P sy tb) call rnd ops o (getS sl)) ⟨t, nx, lim, rd0, wr0⟩ = some ((v, rd, wr), ⟨t1, nx1, lim1, Lg.join rd0 rd, Lg.join wr0 wr⟩) := by
        rw [subT_eq]
        simp only [e1, Option.map_some]
      rw [es, Option.bind_some]
      simp only [forV_eq, e2, e4, Option.bind_some]
    · cases hc
end

/-! ### Code -/
abbrev KC := Ex → Tr Value → List Nat → Tw → An
abbrev ZC := Code → Tr Value → List Nat → Tw → KC → An
/-- What a body's run is given. -/
structure ZB where
  E : ZE
  tb : Tb
  N : Nat
  gc : Code → Nat → Tr Value → List Nat → Tw → KC → An
  lp : Nat → Option LoopC
abbrev ZX := ZB → ZC → Tr Value → List Nat → Tw → KC → An
noncomputable def zKip : ZX := fun _ _ sl ms W k => k .normal sl ms W
noncomputable def zReg (_ : Nat) (ops : Array Oper) (dr : Bool) : ZX := fun B _ sl ms W k => Bool.rec (motive := fun _ => An)
  (Option.rec (motive := fun _ => An) none (fun cs => zL cs B.E sl W fun sl W => k .normal sl ms W) (cSL B.tb B.N ops ops.toList))
  (Bool.rec (motive := fun _ => An) none (Option.rec (motive := fun _ => An) none (fun cs => zD cs B.E sl W fun sl ls W => Bool.rec (motive := fun _ => An) none (k .normal sl ms W) (memOk (masks ops ops.size) ls ls 0)) (cSL B.tb B.N ops ops.toList)) (Nat.ble W.nx W.lim)) dr
noncomputable def zSeq (a b : Code) : ZX := fun _ ih sl ms W k => ih a sl ms W fun ex sl ms W => Ex.rec (motive := fun _ => An) (ih b sl ms W k) (fun i => k (.exit i) sl ms W) (k .ret sl ms W) ex
noncomputable def zCond (x : Operand) (a b : Code) : ZX := fun _ ih sl ms W k => Option.rec (motive := fun _ => An) none (fun c => match evO c sl with
  | .bool v => Bool.rec (motive := fun _ => An) (ih b sl ms W k) (ih a sl ms W k) v
  | u => opb (condO (getS sl) x W) fun v W => Bool.rec (motive := fun _ => An) (setB u false W fun W => ih b sl ms W k) (setB u true W fun W => ih a sl ms W k) v) (cO x)
noncomputable def zBlk (id : Nat) (b : Code) : ZX := fun _ ih sl ms W k => ih b sl ms W fun ex sl ms W => Ex.rec (motive := fun _ => An) (k .normal sl ms W) (fun i => Bool.rec (motive := fun _ => An) (k (.exit i) sl ms W) (k .normal sl ms W) (Nat.beq i id)) (k .ret sl ms W) ex
noncomputable def zLoop (b : Code) : ZX := fun B ih sl ms W k => match lpOf B.lp b with
  | some c => List.rec (motive := fun _ => An) (c.K sl W fun e sl W => k e sl [] W) (fun _ _ _ => none) ms
  | none => ih b sl ms W fun ex sl ms W => Ex.rec (motive := fun _ => An) (ih (.loop b) sl ms W k) (fun i => k (.exit i) sl ms W) (k .ret sl ms W) ex
noncomputable def zRf (g : Operand) (ps : Array Tmp) (as bd : Code) : ZX := fun B _ sl ms W k => B.gc (.rangeFunc g ps as bd) B.N sl ms W k
noncomputable def zExit (id : Nat) : ZX := fun _ _ sl ms W k => k (.exit id) sl ms W
noncomputable def zNone : ZX := fun _ _ _ _ _ _ => none
noncomputable def zRet : ZX := fun _ _ sl ms W k => k .ret sl ms W
noncomputable def zCs (c : Code) : ZX := Code.rec (motive := fun _ => ZX) zKip zReg (fun a b _ _ => zSeq a b) (fun x a b _ _ => zCond x a b) (fun id b _ => zBlk id b) (fun b _ => zLoop b) (fun g ps as bd _ _ => zRf g ps as bd) zExit (fun _ _ => zNone) (fun _ => zKip) (fun _ => zNone) zRet (fun _ => zNone) c
noncomputable def zC (B : ZB) (n : Nat) : ZC := Nat.rec (motive := fun _ => ZC) (fun _ _ _ _ _ => none) (fun _ ih c sl ms W k => zCs c B ih sl ms W k) n
section
variable {P : Program} {sy : SyT} {tb : Tb} {call : CallT} {rnd : RndT} {E : ZE} {r : Value × Tw} {N : Nat} {cl : FuncId → Bool}
/-- What a body's run asks of what it is given. -/
structure BOk (P : Program) (sy : SyT) (tb : Tb) (call : CallT) (rnd : RndT) (cl : FuncId → Bool) (ro : Option Nat) (lp : Nat → Option LoopC) (N : Nat) (B : ZB) : Prop where
  eE : EOk P sy tb call rnd B.E
  etb : B.tb = tb
  eN : B.N = N
  elp : B.lp = lp
  lk : ∀ n c, lp n = some c → ∀ sl W k r, c.K sl W k = some r → ∃ e sl' W', c.F sl W = some ((e, sl'), W') ∧ k e sl' W' = some r
  gc : ∀ g ps as bd sl ms W k r n, B.gc (.rangeFunc g ps as bd) N sl ms W k = some r → ∃ e sl' ms' W', evC P (opQT P sy tb) call rnd cl ro lp N (n + 1) (.rangeFunc g ps as bd) (sl, ms) W = some ((e, (sl', ms')), W') ∧ k e sl' ms' W' = some r
theorem zC_ok {ro : Option Nat} {lp : Nat → Option LoopC} {B : ZB} (hB : BOk P sy tb call rnd cl ro lp N B) : ∀ (n : Nat) (c : Code) (sl : Tr Value) (ms : List Nat) (W : Tw) (k : KC) (r : Value × Tw), zC B n c sl ms W k = some r →
    ∃ e sl' ms' W', evC P (opQT P sy tb) call rnd cl ro lp N n c (sl, ms) W = some ((e, (sl', ms')), W') ∧ k e sl' ms' W' = some r := by
  intro n
  induction n with
  | zero => intro c sl ms W k r h; cases h
  | succ n ih =>
    intro c sl ms W k r h
    have h' : zCs c B (zC B n) sl ms W k = some r := h
    clear h
    cases c with
    | skip => exact ⟨_, _, _, _, rfl, h'⟩
    | label l => exact ⟨_, _, _, _, rfl, h'⟩
    | ret => exact ⟨_, _, _, _, rfl, h'⟩
    | exit id => exact ⟨_, _, _, _, rfl, h'⟩
    | scope b => cases h'
    | goto l => cases h'
    | refuse w => cases h'
    | rangeFunc g ps as bd =>
      have h2 : B.gc (.rangeFunc g ps as bd) B.N sl ms W k = some r := h'
      rw [hB.eN] at h2
      exact hB.gc g ps as bd sl ms W k r n h2
    | seq a b =>
      have h2 : zC B n a sl ms W (fun ex sl ms W => Ex.rec (motive := fun _ => An) (zC B n b sl ms W k) (fun i => k (.exit i) sl ms W) (k .ret sl ms W) ex) = some r := h'
      obtain ⟨e, sl1, ms1, W1, e1, e2⟩ := ih a _ _ _ _ _ h2
      cases e with
      | normal =>
        obtain ⟨e, sl2, ms2, W2, e3, e4⟩ := ih b _ _ _ _ _ e2
        refine ⟨e, sl2, ms2, W2, ?_, e4⟩
        simp only [evC, e1, Option.bind_some]
        exact e3
      | exit i =>
        refine ⟨.exit i, sl1, ms1, W1, ?_, e2⟩
        simp only [evC, e1, Option.bind_some]
      | ret =>
        refine ⟨.ret, sl1, ms1, W1, ?_, e2⟩
        simp only [evC, e1, Option.bind_some]
    | block id b =>
      have h2 : zC B n b sl ms W (fun ex sl ms W => Ex.rec (motive := fun _ => An) (k .normal sl ms W) (fun i => Bool.rec (motive := fun _ => An) (k (.exit i) sl ms W) (k .normal sl ms W) (Nat.beq i id)) (k .ret sl ms W) ex) = some r := h'
      obtain ⟨e, sl1, ms1, W1, e1, e2⟩ := ih b _ _ _ _ _ h2
      cases e with
      | normal =>
        refine ⟨.normal, sl1, ms1, W1, ?_, e2⟩
        simp only [evC, e1, Option.bind_some]
      | exit i =>
        simp only at e2
        cases hb : Nat.beq i id with
        | true =>
          rw [hb] at e2
          rw [Nat.beq_eq] at hb
          refine ⟨.normal, sl1, ms1, W1, ?_, e2⟩
          simp only [evC, e1, Option.bind_some]
          rw [if_pos hb]
        | false =>
          rw [hb] at e2
          have hne : ¬ i = id := fun he => by rw [← Nat.beq_eq, hb] at he; cases he
          refine ⟨.exit i, sl1, ms1, W1, ?_, e2⟩
          simp only [evC, e1, Option.bind_some]
          rw [if_neg hne]
      | ret =>
        refine ⟨.ret, sl1, ms1, W1, ?_, e2⟩
        simp only [evC, e1, Option.bind_some]
    | loop b =>
      have h1 : (match lpOf B.lp b with
        | some c => List.rec (motive := fun _ => An) (c.K sl W fun e sl W => k e sl [] W) (fun _ _ _ => none) ms
        | none => zC B n b sl ms W (fun ex sl ms W => Ex.rec (motive := fun _ => An) (zC B n (.loop b) sl ms W k) (fun i => k (.exit i) sl ms W) (k .ret sl ms W) ex)) = some r := h'
      rw [hB.elp] at h1
      cases hl : lpOf lp b with
      | some c =>
        rw [hl] at h1
        have hl' := hl
        unfold lpOf at hl'
        split at hl'
        · cases ms with
          | cons _ _ => cases h1
          | nil =>
          obtain ⟨e, sl1, W1, e1, e2⟩ := hB.lk _ _ hl' _ _ _ _ h1
          refine ⟨e, sl1, [], W1, ?_, e2⟩
          simp only [evC, hl, e1, Option.bind_some]
        · cases hl'
      | none =>
        rw [hl] at h1
        have h2 : zC B n b sl ms W (fun ex sl ms W => Ex.rec (motive := fun _ => An) (zC B n (.loop b) sl ms W k) (fun i => k (.exit i) sl ms W) (k .ret sl ms W) ex) = some r := h1
        obtain ⟨e, sl1, ms1, W1, e1, e2⟩ := ih b _ _ _ _ _ h2
        cases e with
        | normal =>
          obtain ⟨e, sl2, ms2, W2, e3, e4⟩ := ih (.loop b) _ _ _ _ _ e2
          refine ⟨e, sl2, ms2, W2, ?_, e4⟩
          simp only [evC, hl, e1, Option.bind_some] at e3 ⊢
          exact e3
        | exit i =>
          refine ⟨.exit i, sl1, ms1, W1, ?_, e2⟩
          simp only [evC, hl, e1, Option.bind_some]
        | ret =>
          refine ⟨.ret, sl1, ms1, W1, ?_, e2⟩
          simp only [evC, hl, e1, Option.bind_some]
    | cond x a b =>
      have h2 : Option.rec (motive := fun _ => An) none (fun c => match evO c sl with
        | .bool v => Bool.rec (motive := fun _ => An) (zC B n b sl ms W k) (zC B n a sl ms W k) v
        | u => opb (condO (getS sl) x W) fun v W => Bool.rec (motive := fun _ => An) (setB u false W fun W => zC B n b sl ms W k) (setB u true W fun W => zC B n a sl ms W k) v) (cO x) = some r := h'
      have go : ∀ (v : Bool) (W0 : Tw), condO (getS sl) x W = some (v, W0) → Bool.rec (motive := fun _ => An) (zC B n b sl ms W0 k) (zC B n a sl ms W0 k) v = some r →
          ∃ e sl' ms' W', evC P (opQT P sy tb) call rnd cl ro lp N (n + 1) (.cond x a b) (sl, ms) W = some ((e, (sl', ms')), W') ∧ k e sl' ms' W' = some r := by
        intro v W0 hv h3
        cases v with
        | true =>
          obtain ⟨e, sl2, ms2, W2, e3, e4⟩ := ih a _ _ _ _ _ h3
          refine ⟨e, sl2, ms2, W2, ?_, e4⟩
          simp only [evC, hv, Option.bind_some]
          exact e3
        | false =>
          obtain ⟨e, sl2, ms2, W2, e3, e4⟩ := ih b _ _ _ _ _ h3
          refine ⟨e, sl2, ms2, W2, ?_, e4⟩
          simp only [evC, hv, Option.bind_some]
          exact e3
      cases hx : cO x with
      | none => rw [hx] at h2; cases h2
      | some c =>
        rw [hx] at h2
        obtain ⟨k1, k2⟩ := cO_ok hx sl
        simp only [k1] at h2
        split at h2
        · rename_i v hv
          refine go v W ?_ h2
          cases x with
          | tmp t =>
            have hv' : getS sl t = .bool v := hv
            unfold condO
            simp only [hv']
            rfl
          | const u =>
            have hv' : u = .bool v := hv
            subst hv'
            rfl
          | global g => cases hv
          | func f => cases hv
        · obtain ⟨v, W0, h3, h4⟩ := opb_some h2
          have h5 : ∀ u, condT u W = some (v, W0) → Bool.rec (motive := fun _ => An) (setB u false W0 fun W => zC B n b sl ms W k) (setB u true W0 fun W => zC B n a sl ms W k) v = some r → Bool.rec (motive := fun _ => An) (zC B n b sl ms W0 k) (zC B n a sl ms W0 k) v = some r := by
            intro u hu hh
            cases v with
            | false =>
              have h6 : setB u false W0 (fun W => zC B n b sl ms W k) = some r := hh
              rw [setB_eq hu] at h6
              exact h6
            | true =>
              have h6 : setB u true W0 (fun W => zC B n a sl ms W k) = some r := hh
              rw [setB_eq hu] at h6
              exact h6
          refine go v W0 h3 ?_
          cases x with
          | tmp t => exact h5 _ h3 h4
          | const u =>
            have h3' : (match u with
              | .bool b => some (b, W)
              | _ => none) = some (v, W0) := by
              unfold condO at h3
              cases u <;> first | exact h3 | (cases h3; done)
            cases u <;> first | (cases h3'; done) | skip
            rename_i bb hn
            exact absurd rfl (hn bb)
          | global g => cases h3
          | func f => cases h3
    | region id ops dr =>
      cases dr with
      | false =>
        have h2 : Option.rec (motive := fun _ => An) none (fun cs => zL cs B.E sl W fun sl W => k .normal sl ms W) (cSL B.tb B.N ops ops.toList) = some r := h'
        rw [hB.etb, hB.eN] at h2
        cases hc : cSL tb N ops ops.toList with
        | none => rw [hc] at h2; cases h2
        | some cs =>
          rw [hc] at h2
          obtain ⟨sl', W', e1, e2⟩ := zL_ok hB.eE _ _ _ _ _ hc h2
          refine ⟨.normal, sl', ms, W', ?_, e2⟩
          simp only [evC, e1, Option.bind_some]
      | true =>
        have h2 : Bool.rec (motive := fun _ => An) none (Option.rec (motive := fun _ => An) none (fun cs => zD cs B.E sl W fun sl ls W => Bool.rec (motive := fun _ => An) none (k .normal sl ms W) (memOk (masks ops ops.size) ls ls 0)) (cSL B.tb B.N ops ops.toList)) (Nat.ble W.nx W.lim) = some r := h'
        rw [hB.etb, hB.eN] at h2
        cases hb : Nat.ble W.nx W.lim with
        | false => rw [hb] at h2; cases h2
        | true =>
          rw [hb] at h2
          cases hc : cSL tb N ops ops.toList with
          | none => rw [hc] at h2; cases h2
          | some cs =>
            rw [hc] at h2
            obtain ⟨sl', ls, W', e1, e2⟩ := zD_ok hB.eE _ _ _ _ _ hc h2
            cases hm : memOk (masks ops ops.size) ls ls 0 with
            | false => rw [hm] at e2; cases e2
            | true =>
              rw [hm] at e2
              refine ⟨.normal, sl', ms, W', ?_, e2⟩
              simp only [evC, hb, if_true, e1, Option.bind_some, hm]
end
end Mo

namespace Mo
open Go

/-! ## More operations, quickly -/
section
variable {β : Type}
/-- Parts are laid into cells. -/
noncomputable def lenQ' (l : List Value) (n : Nat) : Bool :=
  List.rec (motive := fun _ => Nat → Bool) (fun n => Nat.beq n 0) (fun _ _ ih n => Nat.rec (motive := fun _ => Bool) false (fun m _ => ih m) n) l n
theorem lenQ'_eq : ∀ {l : List Value} {n : Nat}, lenQ' l n = true → l.length = n
  | [], n, h => by
    have h' : Nat.beq n 0 = true := h
    rw [Nat.beq_eq] at h'; simp [h']
  | v :: l, 0, h => by cases h
  | v :: l, n + 1, h => by
    have h' : lenQ' l n = true := h
    simp [lenQ'_eq h']
noncomputable def fillR (place : Nat → Option (Nat × Nat)) (ps : List (Nat × Value)) : List Value → (List Value → Option β) → Option β :=
  List.rec (motive := fun _ => List Value → (List Value → Option β) → Option β) (fun cs k => k cs) (fun p _ ih cs k => Prod.rec (motive := fun _ => Option β) (fun i v =>
    Option.rec (motive := fun _ => Option β) none (fun q => Prod.rec (motive := fun _ => Option β) (fun off sz => fW v fun v => fZ v fun l =>
      Bool.rec (motive := fun _ => Option β) none (fSet l off cs fun cs => ih cs k) (lenQ' l sz)) q) (place i)) p) ps
theorem setL_set (v : Value) : ∀ (l : List Value) (o : Nat), setL v l o = l.set o v
  | [], o => by simp [setL]
  | x :: l, 0 => by simp [setL]
  | x :: l, o + 1 => by simp [setL, setL_set v l o]
theorem foldl_set (off : Nat) : ∀ (l : List Value) (n : Nat) (A : Array Value), off + n + l.length ≤ A.size →
    ((l.zipIdx n).foldl (fun (cs : Array Value) (p : Value × Nat) => cs.setIfInBounds (off + p.2) p.1) A).toList = setLs A.toList (off + n) l
  | [], n, A, _ => by simp [setLs]
  | v :: l, n, A, h => by
    simp only [List.length_cons] at h
    simp only [List.zipIdx_cons, List.foldl_cons]
    rw [foldl_set off l (n + 1) _ (by simp; omega), Array.toList_setIfInBounds, ← setL_set, ← Nat.add_assoc]
    exact setLs_cons (by simp; omega)
theorem fillR_ok {place : Nat → Option (Nat × Nat)} {r : β} : ∀ (ps : List (Nat × Value)) (cs : List Value) (k : List Value → Option β), fillR place ps cs k = some r →
    ∃ cs', Instr.fill place ⟨cs⟩ ps = some ⟨cs'⟩ ∧ k cs' = some r
  | [], cs, k, h => ⟨cs, rfl, h⟩
  | (i, v) :: ps, cs, k, h => by
    have h' : Option.rec (motive := fun _ => Option β) none (fun q => Prod.rec (motive := fun _ => Option β) (fun off sz => fW v fun v => fZ v fun l =>
      Bool.rec (motive := fun _ => Option β) none (fSet l off cs fun cs => fillR place ps cs k) (lenQ' l sz)) q) (place i) = some r := h
    clear h
    cases hp : place i with
    | none => rw [hp] at h'; cases h'
    | some q =>
      obtain ⟨off, sz⟩ := q
      rw [hp] at h'
      simp only [fW_eq, fZ_eq] at h'
      cases hl : lenQ' v.cells.toList sz with
      | false => rw [hl] at h'; cases h'
      | true =>
        rw [hl] at h'
        simp only [fSet_eq] at h'
        split at h'
        · rename_i hle
          obtain ⟨cs', h1, h2⟩ := fillR_ok ps _ k h'
          refine ⟨cs', ?_, h2⟩
          have hlen := lenQ'_eq hl
          have hsz : v.cells.size = sz := by rw [← hlen]; simp
          unfold Instr.fill
          simp only [hp]
          have hle' : off + v.cells.size ≤ cs.length := by
            have : v.cells.toList.length = v.cells.size := by simp
            omega
          rw [if_neg (by simp [hsz]; rw [hsz] at hle'; omega)]
          rw [← h1]
          congr 1
          apply Array.ext'
          rw [← Array.foldl_toList, Array.toList_zipIdx]
          have := foldl_set off v.cells.toList 0 ⟨cs⟩ (by simpa using hle')
          simpa using this
        · cases h'
noncomputable def fApp (zs : List Value) (r : List Value) : (List Value → Option β) → Option β :=
  List.rec (motive := fun _ => (List Value → Option β) → Option β) (fun k => k r) (fun x _ ih k => ih fun r => k (x :: r)) zs
theorem fApp_eq (r : List Value) : ∀ (zs : List Value) (k : List Value → Option β), fApp zs r k = k (zs ++ r)
  | [], k => rfl
  | x :: zs, k => by
    show fApp zs r (fun r => k (x :: r)) = _
    rw [fApp_eq r zs]; rfl
noncomputable def fMade (zs : List Value) (n : Nat) : (List Value → Option β) → Option β :=
  Nat.rec (motive := fun _ => (List Value → Option β) → Option β) (fun k => k []) (fun _ ih k => ih fun r => fApp zs r k) n
theorem fMade_eq (zs : List Value) : ∀ (n : Nat) (k : List Value → Option β), fMade zs n k = k (madeL zs n)
  | 0, k => rfl
  | n + 1, k => by
    show fMade zs n (fun r => fApp zs r k) = _
    rw [fMade_eq zs n, fApp_eq]; rfl
end

/-! ### What each of them is -/
noncomputable def eqR (tb : Tb) (b : BinOp) (t : TypeId) (x y : Value) : Option Value := match tb.ty.get t with
  | some ⟨_, _, .sl _, _⟩ => match x, y with
    | .slice a _ _, .slice none _ _ => match b with
      | .eql => Option.rec (motive := fun _ => Option Value) (some (.bool true)) (fun _ => some (.bool false)) a
      | .neq => Option.rec (motive := fun _ => Option Value) (some (.bool false)) (fun _ => some (.bool true)) a
      | _ => none
    | _, _ => none
  | _ => none
noncomputable def lnR (tb : Tb) (t : TypeId) (x : Value) : Option Value := match tb.ty.get t with
  | some ⟨_, _, .sl _, _⟩ => match x with
    | .slice _ n _ => some (.int .i64 (.ofNat n))
    | _ => none
  | some ⟨_, _, .str, _⟩ => match x with
    | .string s => fN s.size fun n => some (.int .i64 (.ofNat n))
    | _ => none
  | _ => none
noncomputable def mmR (mx : Bool) (x y : Value) : Option Value :=
  asN x fun q m => asN y fun _ n => match mx with
    | false => Bool.rec (motive := fun _ => Option Value) (some (.int q (.ofNat m))) (some (.int q (.ofNat n))) (Nat.blt n m)
    | true => Bool.rec (motive := fun _ => Option Value) (some (.int q (.ofNat m))) (some (.int q (.ofNat n))) (Nat.blt m n)
noncomputable def buR (tb : Tb) (f : Nat → Value) (t : TypeId) (ps : List (Nat × Operand)) (W : Tw) : Option (Next × Tw) := match qdP ps && toldP (evalP f ps) with
  | true => match tb.ty.get t with
    | some ⟨_, _, .st fs, z⟩ => fZ z fun l => fillR (fun i => (getX fs i).map fun p => (p.1, p.2.1)) (evalP f ps) l fun cs => some (.value (.agg ⟨cs⟩), W)
    | some ⟨_, _, .ar _ e, z⟩ => fZ z fun l => fillR (fun i => some (i * e, e)) (evalP f ps) l fun cs => some (.value (.agg ⟨cs⟩), W)
    | _ => none
  | false => none
noncomputable def bsR (tb : Tb) (f : Nat → Value) (t n : Nat) (ps : List (Nat × Operand)) (W : Tw) : Option (Next × Tw) := match qdP ps && toldP (evalP f ps) with
  | true => match tb.ap.get t with
    | some (e, z, _) => match tb.ty.get e with
      | some ti => match Nat.blt 0 (Nat.mul n z), Nat.ble (Nat.mul n z) 16777216 with
        | true, true => fZ ti.z fun l => fMade l n fun c0 => fillR (fun i => some (i * z, z)) (evalP f ps) c0 fun cs => Bool.rec (motive := fun _ => Option (Next × Tw)) none (W.layK ⟨cs, e, false, 0, none⟩ fun m W => some (.value (.slice (some ⟨m, 0, none⟩) n n), W)) (oneC cs)
        | _, _ => none
      | none => none
    | none => none
  | false => none
noncomputable def mkR (tb : Tb) (t : TypeId) (x y : Value) (W : Tw) : Option (Value × Tw) := match tb.ap.get t with
  | some (e, z, b) => match tb.ty.get e with
    | some ti => asN x fun _ l => asN y fun _ c => match Nat.ble l c, Nat.ble (Nat.mul c (Nat.add b 1)) 1099511627776, Nat.blt 0 z with
      | true, true, true => fZ ti.z fun zs => fMade zs c fun cs => W.layK ⟨cs, e, false, 0, none⟩ fun m W => some (.slice (some ⟨m, 0, none⟩) l c, W)
      | _, _, _ => none
    | none => none
  | none => none
noncomputable def opR (tb : Tb) (f : Nat → Value) (o : Oper) (W : Tw) : Option (Next × Tw) := match o.op with
  | .binOp b t x y _ => match qd x && qd y with
    | true => (eqR tb b t (ev f x) (ev f y)).map fun v => (.value v, W)
    | false => none
  | .unOp u _ x => match u with
    | .not => match qd x with
      | true => match ev f x with
        | .bool b => Bool.rec (motive := fun _ => Option (Next × Tw)) (some (.value (.bool true), W)) (some (.value (.bool false), W)) b
        | _ => none
      | false => none
    | _ => none
  | .build t ps => buR tb f t ps.toList W
  | .buildSlice t n ps => bsR tb f t n ps.toList W
  | .makeSlice t x y => match qd x && qd y with
    | true => (mkR tb t (ev f x) (ev f y) W).bind fun p => some (.value p.1, p.2)
    | false => none
  | .call c => match c.callee with
    | .builtin .len => match c.args.toList, c.argTypes.toList with
      | [x], [t] => match qd x with
        | true => (lnR tb t (ev f x)).map fun v => (.value v, W)
        | false => none
      | _, _ => none
    | .builtin .min => match c.args.toList with
      | [x, y] => match qd x && qd y with
        | true => (mmR false (ev f x) (ev f y)).map fun v => (.value v, W)
        | false => none
      | _ => none
    | .builtin .max => match c.args.toList with
      | [x, y] => match qd x && qd y with
        | true => (mmR true (ev f x) (ev f y)).map fun v => (.value v, W)
        | false => none
      | _ => none
    | _ => none
  | _ => none

section
variable {P : Program} {sy : SyT} {tb : Tb}
theorem rt_equal_sl {t : TypeId} {e : TypeId} (ht : P.underlying t = some (.slice e)) (d : Nat) (a : Option Addr) (l c l' c' : Nat) (W : Tw) :
    runT P (Op.equalIn (d + 1) t (.slice a l c) (.slice none l' c')) W = some (a.isNone, W) := by
  unfold Op.equalIn
  rw [rt_bind, rt_underlying ht, Option.bind_some]
  cases a <;> rfl
theorem equal_depth (t : TypeId) (x y : Value) : Op.equal t x y = Op.equalIn (9999 + 1) t x y := rfl
theorem quiet_plain {f : Nat → Value} {o : Oper} {v : Value} (hq : quietOp o.op = true) (hp : o.op.operands.all (fun x => plainD depth (ev f x)) = true) (hv : plainD depth v = true)
    (hr : ∀ W, runT P (execOp (ev f) o) W = some (.value v, W)) : quietT P f o ≠ none := by
  unfold quietT
  rw [hq, hp]
  simp only [Bool.and_self, if_true, quietB]
  rw [hr]
  simp only [hv, if_true]
  exact fun h => nomatch h
theorem ops2 {p : Operand → Bool} {x y : Operand} {o : Op} (ho : o.operands = #[x, y]) (hx : p x = true) (hy : p y = true) : o.operands.all p = true := by
  rw [ho]; simp [hx, hy]
theorem eqR_ok (htb : TbOk P tb) {b : BinOp} {t : TypeId} {x y v : Value} (h : eqR tb b t x y = some v) :
    (∃ a l c l' c', x = .slice a l c ∧ y = .slice none l' c') ∧ (b = .eql ∨ b = .neq) ∧ (∃ q, v = .bool q) ∧ ∀ ox oy W, runT P (do eqGuard b t ox oy x y; binOp b t x y) W = some (v, W) := by
  unfold eqR at h
  split at h
  · rename_i sz ag e z ht
    obtain ⟨i, d, h1, h2, h3, h4, h5, h6, h7⟩ := mkTI_some (htb.ty t _ ht)
    obtain ⟨el, ei, rfl, k1, k2⟩ := kdI_sl h6
    split at h
    · rename_i a l c l' c'
      split at h
      · have h0 : v = .bool a.isNone := by cases a <;> cases h <;> rfl
        subst h0
        refine ⟨⟨a, l, c, l', c', rfl, rfl⟩, .inl rfl, ⟨_, rfl⟩, fun ox oy W => ?_⟩
        rw [rt_bind]
        have hg : runT P (eqGuard .eql t ox oy (.slice a l c) (.slice none l' c')) W = some ((), W) := by
          unfold eqGuard; rfl
        rw [hg, Option.bind_some]
        show runT P (do Pure.pure (.bool (← Op.equal t (.slice a l c) (.slice none l' c'))) : Sem Value) W = _
        rw [rt_bind, equal_depth, rt_equal_sl h2, Option.bind_some, rt_pure]
      · have h0 : v = .bool (!a.isNone) := by cases a <;> cases h <;> rfl
        subst h0
        refine ⟨⟨a, l, c, l', c', rfl, rfl⟩, .inr rfl, ⟨_, rfl⟩, fun ox oy W => ?_⟩
        rw [rt_bind]
        have hg : runT P (eqGuard .neq t ox oy (.slice a l c) (.slice none l' c')) W = some ((), W) := by
          unfold eqGuard; rfl
        rw [hg, Option.bind_some]
        show runT P (do Pure.pure (.bool (!(← Op.equal t (.slice a l c) (.slice none l' c')))) : Sem Value) W = _
        rw [rt_bind, equal_depth, rt_equal_sl h2, Option.bind_some, rt_pure]
      · cases h
    · cases h
  · cases h
theorem mkAp_some {t e z b : Nat} (h : mkAp P t = some (e, z, b)) : ∃ i zv, P.underlying t = some (.slice e) ∧ P.info? e = some i ∧ i.zero = some zv ∧ zv.cells.size = i.size ∧ i.size = z ∧ i.bytes = b := by
  unfold mkAp at h
  split at h
  · rename_i e' i hi
    cases h
    obtain ⟨t', tx, zv, h1, h2, h3, h4, h5, -⟩ := appInfo_some hi
    have : t = t' := by
      have := congrArg (fun a : Array Nat => a[0]?) h1
      simpa using this
    subst this
    exact ⟨i, zv, h2, h3, h4, h5, rfl, rfl⟩
  · cases h
theorem madeL_zero {z : Array Value} (hz : 0 < z.size) (n : Nat) : (Array.range (n * z.size)).map (fun j => z[j % z.size]!) = ⟨madeL z.toList n⟩ := by
  apply Array.ext'
  rw [← madeL_eq z hz n]
theorem told_all {f : Nat → Value} {ps : Array (Nat × Operand)} (h : toldP (evalP f ps.toList) = true) : (ps.all fun p => toldB (ev f p.2)) = true := by
  unfold toldP at h
  rw [evalP_eq] at h
  rw [Array.all_eq_true_iff_forall_mem]
  intro p hp
  rw [List.all_eq_true] at h
  exact h (p.1, ev f p.2) (List.mem_map.2 ⟨p, by simpa using hp, rfl⟩)
theorem rt_newRow {e : TypeId} {cs : List Value} {W W' : Tw} {n : Nat} (ho : oneC cs = true) (h : W.lay ⟨cs, e, false, 0, none⟩ = some (n, W')) : runT P (newRow e ⟨cs⟩) W = some (⟨n, 0, none⟩, W') := by
  show Option.bind (newT (.cells ⟨cs⟩ e (0, 0)) W) _ = _
  simp only [newT, beq_self_eq_true, Bool.and_self, ho, if_true, h]
  rfl
theorem bsR_ok (htb : TbOk P tb) {f : Nat → Value} {t n : Nat} {ps : Array (Nat × Operand)} {o : Oper} (ho : o.op = .buildSlice t n ps) {W : Tw} {r : Next × Tw} (h : bsR tb f t n ps.toList W = some r) : opT P sy f o W = some r := by
  obtain ⟨dst, op, type, pos, after, guard⟩ := o
  simp only at ho
  subst ho
  unfold bsR at h
  split at h
  · rename_i hq
    rw [Bool.and_eq_true] at hq
    obtain ⟨hq, htd⟩ := hq
    split at h
    · rename_i e z b ha
      split at h
      · rename_i ti ht
        split at h
        · rename_i hc1 hc2
          rw [Nat.blt_eq] at hc1
          rw [Nat.ble_eq] at hc2
          obtain ⟨i, zv, a1, a2, a3, a4, a5, a6⟩ := mkAp_some (htb.ap _ _ ha)
          obtain ⟨i', d, h1, h2, h3, h4, h5, h6, h7⟩ := mkTI_some (htb.ty e _ ht)
          rw [a2] at h1
          cases h1
          rw [a3] at h3
          cases h3
          rw [fZ_eq, fMade_eq] at h
          obtain ⟨cs, g1, g2⟩ := fillR_ok _ _ _ h
          cases ho : oneC cs with
          | false => rw [ho] at g2; cases g2
          | true =>
          rw [ho] at g2
          simp only [Tw.layK_eq] at g2
          obtain ⟨m, W', g3, g4⟩ := bind_some g2
          cases g4
          have hparts : (ps.map fun (i, x) => (i, ev f x)).toList = evalP f ps.toList := by
            rw [evalP_eq]; simp
          have hpos : 0 < n * z := hc1
          have hle : n * z ≤ 16777216 := hc2
          have hz : 0 < ti.z.cells.size := by
            rw [a4, a5]
            exact Nat.pos_of_ne_zero fun h0 => by rw [h0] at hpos; simp at hpos
          rw [opT_mem (fun y hy => by
            simp only [Op.operands, List.mem_toArray, List.mem_map] at hy
            obtain ⟨p, hp, rfl⟩ := hy
            exact qdP_all hq p hp) (quietT_op rfl) rfl (by
              have hn : n < big := by
                have : n ≤ n * z := Nat.le_mul_of_pos_right n (by omega)
                unfold big; omega
              simp only [opOk, elemZ, a1, h7, hn, decide_true, Bool.and_self, told_all htd])]
          have hx : execOp (ev f) ⟨dst, .buildSlice t n ps, type, pos, after, guard⟩ = (do Pure.pure (.value (← Instr.buildSlice t n (ps.map fun (i, x) => (i, ev f x))))) := rfl
          rw [hx]
          generalize hps : (ps.map fun (i, x) => (i, ev f x)) = pv at hparts ⊢
          refine rt_v (s := Instr.buildSlice t n pv) ?_
          unfold Instr.buildSlice
          rw [rt_bind, rt_underlying a1, Option.bind_some]
          simp only
          rw [rt_bind, rt_sizeOf a2, Option.bind_some, a5]
          dsimp only
          rw [if_neg (show ¬ n * z > 2 ^ 24 by omega)]
          rw [if_neg (show ¬ n * z = 0 by omega)]
          simp only [rt_bind, rt_zero a2 a3, Option.bind_some, rt_pure]
          have hm : (Array.range (n * z)).map (fun j => ti.z.cells[j % ti.z.cells.size]!) = ⟨madeL ti.z.cells.toList n⟩ := by
            rw [← madeL_zero hz n, a4, a5]
          rw [hm, hparts, g1]
          simp only [rt_bind, rt_newRow ho g3, Option.bind_some, rt_pure]
        · cases h
      · cases h
    · cases h
  · cases h
theorem mkR_ok (htb : TbOk P tb) {t : TypeId} {x y : Value} {W : Tw} {r : Value × Tw} (h : mkR tb t x y W = some r) : makeT P t x y W = some r := by
  unfold mkR at h
  split at h
  · rename_i e z b ha
    split at h
    · rename_i ti ht
      obtain ⟨q, l, rfl, k1⟩ := asN_some h
      obtain ⟨q', c, rfl, k2⟩ := asN_some k1
      clear h k1
      split at k2
      · rename_i hc1 hc2 hc3
        rw [Nat.ble_eq] at hc1 hc2
        rw [Nat.blt_eq] at hc3
        obtain ⟨i, zv, a1, a2, a3, a4, a5, a6⟩ := mkAp_some (htb.ap _ _ ha)
        obtain ⟨i', d, h1, h2, h3, h4, h5, h6, h7⟩ := mkTI_some (htb.ty e _ ht)
        rw [a2] at h1
        cases h1
        rw [a3] at h3
        cases h3
        rw [fZ_eq, fMade_eq, Tw.layK_eq] at k2
        unfold makeT
        simp only [a1, a2, a3]
        have e1 : (Int.ofNat c).toNat = c := rfl
        have e2 : (Int.ofNat l).toNat = l := rfl
        rw [if_pos]
        · rw [e1, e2]; exact k2
        · have c1 : (0 : Int) ≤ Int.ofNat l := Int.natCast_nonneg l
          have c2 : Int.ofNat l ≤ Int.ofNat c := Int.ofNat_le.2 hc1
          have c3 : Int.ofNat c * ((i.bytes : Int) + 1) ≤ 1099511627776 := by
            have : c * (b + 1) ≤ 1099511627776 := hc2
            rw [a6]
            have h3 : ((c * (b + 1) : Nat) : Int) ≤ ((1099511627776 : Nat) : Int) := Int.ofNat_le.2 this
            rw [Int.natCast_mul, Int.natCast_add] at h3
            exact h3
          have c4 : ti.z.cells.size = i.size := a4
          have c5 : 0 < i.size := by omega
          rw [decide_eq_true c1, decide_eq_true c2, decide_eq_true c3, decide_eq_true c4, decide_eq_true c5, h7]
          rfl
      · cases k2
    · cases h
  · cases h
theorem opR_ok (htb : TbOk P tb) {f : Nat → Value} {o : Oper} {W : Tw} {r : Next × Tw} (h : opR tb f o W = some r) : opT P sy f o W = some r := by
  obtain ⟨dst, op, type, pos, after, guard⟩ := o
  unfold opR at h
  cases op <;> dsimp only at h <;> try (cases h)
  case binOp b t x y z =>
    split at h
    · rename_i hq
      simp only [Bool.and_eq_true] at hq
      cases hv : eqR tb b t (ev f x) (ev f y) with
      | none => rw [hv] at h; cases h
      | some v =>
        rw [hv] at h
        cases h
        obtain ⟨⟨a, l, c, l', c', e1, e2⟩, hb, ⟨q, rfl⟩, e3⟩ := eqR_ok htb hv
        have hr : ∀ W, runT P (execOp (ev f) ⟨dst, .binOp b t x y z, type, pos, after, guard⟩) W = some (.value (.bool q), W) := fun W => rt_v (e3 x y W)
        refine opT_pure (fun w hw => by
          simp only [Op.operands, List.mem_toArray, List.mem_cons, List.not_mem_nil, or_false] at hw
          rcases hw with hw | hw <;> rw [hw]
          · exact qd_ok hq.1
          · exact qd_ok hq.2) hr rfl ?_
        cases a with
        | some a =>
          left
          simp only [opOk, e1, e2]
          rcases hb with rfl | rfl <;> rfl
        | none =>
          right
          refine quiet_plain rfl ?_ rfl hr
          refine ops2 (p := fun x => plainD depth (ev f x)) (x := x) (y := y) rfl ?_ ?_
          · show plainD depth (ev f x) = true
            rw [e1]; rfl
          · show plainD depth (ev f y) = true
            rw [e2]; rfl
    · cases h
  case unOp u t x =>
    split at h
    · split at h
      · rename_i hq
        split at h
        · rename_i b hb
          have h0 : r = (.value (.bool (!b)), W) := by cases b <;> cases h <;> rfl
          subst h0
          have hr : ∀ W, runT P (execOp (ev f) ⟨dst, .unOp .not t x, type, pos, after, guard⟩) W = some (.value (.bool (!b)), W) := fun W => rt_v (s := Op.unary .not (ev f x)) (by rw [hb]; rfl)
          refine opT_pure (fun w hw => by
            simp only [Op.operands, List.mem_toArray, List.mem_singleton] at hw
            rw [hw]; exact qd_ok hq) hr rfl (.inr (quiet_plain rfl ?_ rfl hr))
          simp [Op.operands, hb, plainD, depth]
        · cases h
      · cases h
    · cases h
  case build t ps =>
    refine opQ_eq htb ?_
    show buQ tb f t ps W = some r
    unfold buR at h
    unfold buQ
    split at h
    · rename_i hq
      rw [if_pos hq]
      split at h
      · rename_i sz ag fs z ht
        rw [fZ_eq] at h
        obtain ⟨cs, g1, g2⟩ := fillR_ok _ _ _ h
        simp only [ht]
        have g1' : Instr.fill (fun i => (getX fs i).map fun p => (p.1, p.2.1)) z.cells (evalP f ps.toList) = some ⟨cs⟩ := g1
        rw [g1']
        exact g2
      · rename_i sz ag n e z ht
        rw [fZ_eq] at h
        obtain ⟨cs, g1, g2⟩ := fillR_ok _ _ _ h
        simp only [ht]
        have g1' : Instr.fill (fun i => some (i * e, e)) z.cells (evalP f ps.toList) = some ⟨cs⟩ := g1
        rw [g1']
        exact g2
      · cases h
    · cases h
  case buildSlice t n ps => exact bsR_ok htb rfl h
  case makeSlice t x y =>
    split at h
    · rename_i hq
      simp only [Bool.and_eq_true] at hq
      obtain ⟨v, W1, h1, h2⟩ := bind_some h
      cases h2
      have hm := mkR_ok htb h1
      unfold opT
      rw [if_pos (by
        rw [Array.all_eq_true_iff_forall_mem]
        intro w hw
        simp only [Op.operands, List.mem_toArray, List.mem_cons, List.not_mem_nil, or_false] at hw
        rcases hw with hw | hw <;> rw [hw]
        · exact qd_ok hq.1
        · exact qd_ok hq.2), quietT_op rfl]
      have e1 : exT P f ⟨dst, .makeSlice t x y, type, pos, after, guard⟩ = none := by
        unfold exT
        simp [exOp]
      have e2 : spT P (ev f) ⟨dst, .makeSlice t x y, type, pos, after, guard⟩ W = some (v, W1) := hm
      have hns : hasSy (ev f) (.makeSlice t x y) = false := by
        show isSy (ev f x) = false
        cases hv : ev f x with
        | chan c =>
          have h5 : makeT P t (ev f x) (ev f y) W = some (v, W1) := hm
          rw [hv] at h5
          unfold makeT at h5
          split at h5
          · split at h5
            · split at h5
              · rename_i hh _; injection hh
              · cases h5
            · cases h5
          · cases h5
        | _ => rfl
      rw [hns]
      simp only [spFirst, Bool.not_true, Bool.false_and, Bool.false_eq_true, if_false, e1, e2, Option.bind_some]
    · cases h
  case call c =>
    obtain ⟨cl, args, ats⟩ := c
    cases cl <;> dsimp only at h <;> try (cases h)
    case builtin b =>
      have two : ∀ (bi : Builtin) (x y : Operand) (v : Value), args = #[x, y] → qd x = true → qd y = true → (∃ q m, ev f x = .int q m) → (∃ q m, ev f y = .int q m) → (∃ q m, v = .int q m) →
          (∀ W, runT P (execOp (ev f) ⟨dst, .call ⟨.builtin bi, args, ats⟩, type, pos, after, guard⟩) W = some (.value v, W)) → opT P sy f ⟨dst, .call ⟨.builtin bi, args, ats⟩, type, pos, after, guard⟩ W = some (.value v, W) := by
        rintro bi x y v rfl hx hy ⟨q, m, ex⟩ ⟨q', m', ey⟩ ⟨q2, m2, rfl⟩ hr
        refine opT_pure (fun w hw => by
          simp only [Op.operands, Call.operands, List.mem_toArray, Array.mem_append, List.mem_cons, List.not_mem_nil, false_or, or_false] at hw
          rcases hw with hw | hw <;> rw [hw]
          · exact qd_ok hx
          · exact qd_ok hy) hr rfl (.inr (quiet_plain rfl ?_ rfl hr)) (by cases bi <;> first | rfl | (simp [hasSy, isSyA, isSy, ex, ey]; done))
        refine ops2 (p := fun x => plainD depth (ev f x)) (x := x) (y := y) (by simp [Op.operands, Call.operands]) ?_ ?_
        · show plainD depth (ev f x) = true
          rw [ex]; rfl
        · show plainD depth (ev f y) = true
          rw [ey]; rfl
      have mm : ∀ {mx : Bool} {x y v : Value}, mmR mx x y = some v → ∃ q m q' n, x = .int q (.ofNat m) ∧ y = .int q' (.ofNat n) ∧ v = .int q (if (if mx then Nat.blt m n else Nat.blt n m) then .ofNat n else .ofNat m) := by
        intro mx x y v hv
        unfold mmR at hv
        obtain ⟨q, m, rfl, k1⟩ := asN_some hv
        obtain ⟨q', n, rfl, k2⟩ := asN_some k1
        refine ⟨q, m, q', n, rfl, rfl, ?_⟩
        cases mx with
        | false =>
          simp only at k2
          cases hb : Nat.blt n m <;> rw [hb] at k2 <;> cases k2 <;> simp
        | true =>
          simp only at k2
          cases hb : Nat.blt m n <;> rw [hb] at k2 <;> cases k2 <;> simp
      cases b <;> dsimp only at h <;> try (cases h)
      case len =>
        split at h
        · rename_i x t hl hts
          split at h
          · rename_i hq
            cases hv : lnR tb t (ev f x) with
            | none => rw [hv] at h; cases h
            | some v =>
              rw [hv] at h
              cases h
              obtain ⟨l⟩ := args
              have hl' : l = [x] := hl
              subst hl'
              have hats : ats[0]? = some t := by
                rw [← Array.getElem?_toList, hts]; rfl
              have hn2 : noSyV (ev f x) = true ∧ isSy (ev f x) = false := by
                unfold lnR at hv
                split at hv
                · split at hv
                  · rename_i hx; rw [hx]; exact ⟨rfl, rfl⟩
                  · cases hv
                · split at hv
                  · rename_i hx; rw [hx]; exact ⟨rfl, rfl⟩
                  · cases hv
                · cases hv
              refine opT_pure (fun y hy => by
                simp only [Op.operands, Call.operands, List.mem_toArray, Array.mem_append, List.mem_singleton, List.not_mem_nil, false_or] at hy
                rw [hy]; exact qd_ok hq) (fun W => ?_) rfl (.inl (by
                  have hn := hn2.1
                  simp [opOk, hn])) hn2.2
              have e : Array.map (ev f) #[x] = #[ev f x] := by simp
              show runT P (do let d ← resolve (ev f) ⟨.builtin .len, #[x], ats⟩ type; invoke d.target d.args) W = _
              unfold resolve
              simp only [e]
              refine rt_v (s := Builtin.len_ ats type #[ev f x]) ?_
              unfold Builtin.len_
              unfold lnR at hv
              split at hv
              · rename_i sz ag e' z ht
                obtain ⟨i, d, h1, h2, h3, h4, h5, h6, h7⟩ := mkTI_some (htb.ty t _ ht)
                obtain ⟨et, i', rfl, e1, e2⟩ := kdI_sl h6
                split at hv
                · rename_i a n c hx
                  cases hv
                  simp only [hats, hx]
                  show runT P (do let d ← Go.underlying t; _) W = _
                  rw [rt_bind, rt_underlying h2, Option.bind_some]
                  rfl
                · cases hv
              · rename_i sz ag z ht
                obtain ⟨i, d, h1, h2, h3, h4, h5, h6, h7⟩ := mkTI_some (htb.ty t _ ht)
                have hd : d = .string := by
                  unfold kdI at h6
                  split at h6
                  all_goals first | rfl | (split at h6 <;> cases h6) | cases h6
                subst hd
                split at hv
                · rename_i s hx
                  rw [fN_eq] at hv
                  cases hv
                  simp only [hats, hx]
                  show runT P (do let d ← Go.underlying t; _) W = _
                  rw [rt_bind, rt_underlying h2, Option.bind_some]
                  rfl
                · cases hv
              · cases hv
          · cases h
        · cases h
      case max =>
        split at h
        · rename_i x y hl
          split at h
          · rename_i hq
            simp only [Bool.and_eq_true] at hq
            cases hv : mmR true (ev f x) (ev f y) with
            | none => rw [hv] at h; cases h
            | some v =>
              rw [hv] at h
              cases h
              obtain ⟨q, m, q', n, ex, ey, rfl⟩ := mm hv
              obtain ⟨l⟩ := args
              have hl' : l = [x, y] := hl
              subst hl'
              refine two .max x y _ rfl hq.1 hq.2 ⟨_, _, ex⟩ ⟨_, _, ey⟩ ⟨_, _, rfl⟩ fun W => ?_
              have e : Array.map (ev f) #[x, y] = #[ev f x, ev f y] := by simp
              show runT P (do let d ← resolve (ev f) ⟨.builtin .max, #[x, y], ats⟩ type; invoke d.target d.args) W = _
              unfold resolve
              simp only [e]
              refine rt_v (s := Builtin.max_ ats type #[ev f x, ev f y]) ?_
              unfold Builtin.max_
              simp only [ex, ey, List.foldlM_cons, List.foldlM_nil, rt_bind]
              have : runT P (Builtin.max2 (.int q (.ofNat m)) (.int q' (.ofNat n))) W = some (.int q (if (if true = true then Nat.blt m n else Nat.blt n m) then .ofNat n else .ofNat m), W) := by
                unfold Builtin.max2
                rw [rt_pure]
                congr 3
                simp only [if_true, Nat.blt_eq]
                by_cases hlt : m < n
                · have h2 : Int.ofNat n > Int.ofNat m := Int.ofNat_lt.2 hlt
                  rw [if_pos hlt, if_pos h2]
                · have h2 : ¬ Int.ofNat n > Int.ofNat m := fun hc => hlt (Int.ofNat_lt.1 hc)
                  rw [if_neg hlt, if_neg h2]
              rw [this]
              rfl
          · cases h
        · cases h
      case min =>
        split at h
        · rename_i x y hl
          split at h
          · rename_i hq
            simp only [Bool.and_eq_true] at hq
            cases hv : mmR false (ev f x) (ev f y) with
            | none => rw [hv] at h; cases h
            | some v =>
              rw [hv] at h
              cases h
              obtain ⟨q, m, q', n, ex, ey, rfl⟩ := mm hv
              obtain ⟨l⟩ := args
              have hl' : l = [x, y] := hl
              subst hl'
              refine two .min x y _ rfl hq.1 hq.2 ⟨_, _, ex⟩ ⟨_, _, ey⟩ ⟨_, _, rfl⟩ fun W => ?_
              have e : Array.map (ev f) #[x, y] = #[ev f x, ev f y] := by simp
              show runT P (do let d ← resolve (ev f) ⟨.builtin .min, #[x, y], ats⟩ type; invoke d.target d.args) W = _
              unfold resolve
              simp only [e]
              refine rt_v (s := Builtin.min_ ats type #[ev f x, ev f y]) ?_
              unfold Builtin.min_
              simp only [ex, ey, List.foldlM_cons, List.foldlM_nil, rt_bind]
              have : runT P (Builtin.min2 (.int q (.ofNat m)) (.int q' (.ofNat n))) W = some (.int q (if (if false = true then Nat.blt m n else Nat.blt n m) then .ofNat n else .ofNat m), W) := by
                unfold Builtin.min2
                rw [rt_pure]
                congr 3
                simp only [Bool.false_eq_true, if_false, Nat.blt_eq]
                by_cases hlt : n < m
                · have h2 : Int.ofNat n < Int.ofNat m := Int.ofNat_lt.2 hlt
                  rw [if_pos hlt, if_pos h2]
                · have h2 : ¬ Int.ofNat n < Int.ofNat m := fun hc => hlt (Int.ofNat_lt.1 hc)
                  rw [if_neg hlt, if_neg h2]
              rw [this]
              rfl
          · cases h
        · cases h
end
end Mo

namespace Mo
open Go

/-! ## Calls -/
noncomputable def zPutL (vs : List Value) : Nat → Tr Value → (Tr Value → An) → An :=
  List.rec (motive := fun _ => Nat → Tr Value → (Tr Value → An) → An) (fun _ t k => k t) (fun v _ ih i t k => putP (pth i) t v fun t => fN (Nat.add i 1) fun i => ih i t k) vs
noncomputable def zResL (l : List ResultVar) : Tb → Tr Value → Tw → (List Value → Tw → An) → An :=
  List.rec (motive := fun _ => Tb → Tr Value → Tw → (List Value → Tw → An) → An) (fun _ _ W k => k [] W) (fun x _ ih tb sl W k => match x with
    | .tmp t => Bool.rec (motive := fun _ => An) none (fW (getP (pth t) sl) fun v => ih tb sl W fun vs W => k (v :: vs) W) (Nat.blt t 1073741824)
    | .cell a t => Bool.rec (motive := fun _ => An) none (Option.rec (motive := fun _ => An) none (fun ti => zLd ti.ag ti.sz (getP (pth a) sl) W fun v W => ih tb sl W fun vs W => k (v :: vs) W) (tb.ty.get t)) (Nat.blt a 1073741824)) l
noncomputable def zRes (tb : Tb) (fn : Func) (sl : Tr Value) (W : Tw) (k : KV) : An := zResL fn.results.toList tb sl W fun vs W => List.rec (motive := fun _ => An) (k (.tuple ⟨[]⟩) W) (fun v r _ => List.rec (motive := fun _ => An) (k v W) (fun u s _ => k (.tuple ⟨v :: u :: s⟩) W) r) vs
noncomputable def zEnd (P : Program) (tb : Tb) (fn : Func) (sl : Tr Value) (ms : List Nat) (W : Tw) (k : KV) : An :=
  List.rec (motive := fun _ => An) (zRes tb fn sl W k) (fun m r _ => opb (takeA P (m :: r) W) fun _ W => zRes tb fn sl W k) ms
noncomputable def zFn (P : Program) (tb : Tb) (L : Nat) (mk : Nat → ZB) (f : FuncId) (args : List Value) (W : Tw) (k : KV) : An := match tb.fn.get f with
  | some fn => match fn.body with
    | some c => fN fn.ntmps fun N => Bool.rec (motive := fun _ => An) none (Bool.rec (motive := fun _ => An) none
        (zPutL args 0 .lf fun sl => zC (mk N) L c sl [] W fun ex sl ms W => Ex.rec (motive := fun _ => An) (zEnd P tb fn sl ms W k) (fun _ => none) (zEnd P tb fn sl ms W k) ex)
        (Nat.ble (List.length args) N)) (Nat.blt N 1073741824)
    | none => none
  | none => none
abbrev RndK := Nat → Array Value → Code → Code → Tw → KV → An
noncomputable def zNx (ck : CallK) (rnd : RndK) (o : Oper) (k : KV) (nx : Next) (W : Tw) : An := match nx with
  | .value v => forV o v fun v => k v W
  | .skip => k undef W
  | .enter g args => ck g args.toList W k
  | .round l _ ts as bd => rnd l ts as bd W fun v W => fW v fun v => k v W
  | _ => none
noncomputable def zVal (k : KV) (nx : Next) (W : Tw) : An := match nx with
  | .value v => fW v fun v => k v W
  | _ => none
/-- Alternatives, with what follows. -/
noncomputable def Alt.cps (a : Alt) : Tw → (Next → Tw → An) → An :=
  Alt.rec (motive := fun _ => Tw → (Next → Tw → An) → An) (fun _ _ => none) (fun t W k => opb (symN t W) fun v W => k (.value v) W) (fun c x W k => opb (viewT c x W) fun v W => k (.value v) W) (fun v W k => k (.value v) W) (fun f _ W k => opb (f W) k)
    (fun c _ _ t e W k => Bool.rec (motive := fun _ => An) (e W k) (t W k) c) a
theorem Alt.cps_ok {k : Next → Tw → An} {r : Value × Tw} : ∀ {a : Alt} {W : Tw}, a.cps W k = some r → ∃ n W', a.run W = some (n, W') ∧ k n W' = some r
  | .fail, W, h => by cases h
  | .sy t, W, h => by
    have h' : opb (symN t W) (fun v W => k (.value v) W) = some r := h
    obtain ⟨v, W1, h1, h2⟩ := opb_some h'
    refine ⟨_, W1, ?_, h2⟩
    show (symN t W).bind _ = _
    rw [h1]; rfl
  | .vw c x, W, h => by
    have h' : opb (viewT c x W) (fun v W => k (.value v) W) = some r := h
    obtain ⟨v, W1, h1, h2⟩ := opb_some h'
    refine ⟨_, W1, ?_, h2⟩
    show (viewT c x W).bind _ = _
    rw [h1]; rfl
  | .vl v, W, h => ⟨_, W, rfl, h⟩
  | .act f hl, W, h => by
    have h' : opb (f W) k = some r := h
    obtain ⟨n, W1, h1, h2⟩ := opb_some h'
    exact ⟨n, W1, h1, h2⟩
  | .br c t e, W, h => by
    cases c with
    | true =>
      obtain ⟨n, W', h1, h2⟩ := Alt.cps_ok (a := t) h
      exact ⟨n, W', by rw [Alt.run_br]; exact h1, h2⟩
    | false =>
      obtain ⟨n, W', h1, h2⟩ := Alt.cps_ok (a := e) h
      exact ⟨n, W', by rw [Alt.run_br]; exact h1, h2⟩
noncomputable def symK (P : Program) (ck : CallK) (rnd : RndK) (o : Oper) (sl : Tr Value) (W : Tw) (k : KV) : An :=
  Bool.rec (motive := fun _ => An) none (opb (symO P (ev (getS sl)) o.op W) fun a W => a.cps W (zNx ck rnd o k)) (o.op.operands.all opdOk)
noncomputable def zGen (P : Program) (sy : SyT) (tb : Tb) (ck : CallK) (rnd : RndK) (o : Oper) (sl : Tr Value) (W : Tw) (k : KV) : An :=
  Bool.rec (motive := fun _ => An) (Option.rec (motive := fun _ => An) (opb (opQT P sy tb (getS sl) o W) (zNx ck rnd o k)) (fun p => Prod.rec (motive := fun _ => An) (zVal k) p) (opR tb (getS sl) o W)) (symK P ck rnd o sl W k) (hasSy (ev (getS sl)) o.op)
/-- A range over a function. -/
noncomputable def zGc (P : Program) (tb : Tb) (ck : CallK) (ro : Option Nat) (c : Code) (N : Nat) (sl : Tr Value) (ms : List Nat) (W : Tw) (k : KC) : An := match c with
  | .rangeFunc g ps as bd => match ev (getS sl) g with
    | .func (.func gf) xs ys => Bool.rec (motive := fun _ => An) none (opb (runT P (Instr.enterLoop 0 ⟨arrL sl 0 N⟩ ps as bd ro) W) fun p W => match mkN p.2 with
      | some mk => ck gf (xs.toList ++ (.func (.yield p.1) #[] #[] :: ys.toList)) W fun _ W => opb (runT P (Instr.endLoop p.1) W) fun r W => match r with
        | none => k .normal sl (mk ++ ms) W
        | some .ret => k .ret sl (mk ++ ms) W
        | some (.exit id) => k (.exit id) sl (mk ++ ms) W
        | _ => none
      | none => none) (clQ tb gf && opdOk g)
    | _ => none
  | _ => none
noncomputable def zE (P : Program) (sy : SyT) (tb : Tb) (ck : CallK) (rnd : RndK) : ZE := ⟨zGen P sy tb ck rnd, ck, fun g => (tb.fn.get g).isSome⟩
noncomputable def zBr (P : Program) (sy : SyT) (tb : Tb) (ck : CallK) (rnd : RndK) (ro : Option Nat) (lp : Nat → Option LoopC) (N : Nat) : ZB := ⟨zE P sy tb ck rnd, tb, N, zGc P tb ck ro, lp⟩
noncomputable def zB (P : Program) (sy : SyT) (tb : Tb) (ck : CallK) (rnd : RndK) (lp : Nat → Option LoopC) (N : Nat) : ZB := zBr P sy tb ck rnd none lp N
noncomputable def zCk (P : Program) (sy : SyT) (tb : Tb) (L : Nat) (ck : CallK) (rnd : RndK) : CallK := fun f args W k =>
  Option.rec (motive := fun _ => An) (zFn P tb L (zB P sy tb ck rnd (sy.lp f)) f args W k) (fun c => c.K args W k) (sy.kn f)
/-- A round. -/
noncomputable def zRnd0 (P : Program) (sy : SyT) (tb : Tb) (L : Nat) (ck : CallK) (rnd : RndK) : RndK := fun l ts as bd W k => Bool.rec (motive := fun _ => An) none
  (zPutL ts.toList 0 .lf fun sl => zC (zBr P sy tb ck rnd (some l) (fun _ => none) ts.size) L as sl [] W fun ex sl ms W => match ex, ms with
    | .normal, [] => opb (runT P (Instr.beginRound l) W) fun _ W => zC (zBr P sy tb ck rnd (some l) (fun _ => none) ts.size) L bd sl [] W fun ex _ ms W => match ms with
      | [] => opb (runT P (Instr.endRound l (jmp ex)) W) k
      | _ => none
    | _, _ => none) (Nat.blt ts.size 1073741824)
noncomputable def tidyZ (rk : RndK) : RndK := fun l ts as bd W k => Tw.rec (motive := fun _ => An) (fun t nx lim rd0 wr0 => rk l ts as bd ⟨t, nx, lim, [], wr0⟩ fun v W1 => Tw.rec (motive := fun _ => An) (fun t1 nx1 lim1 rd1 wr1 => tidyK nx nx1 rd1 fun c => Lg.fjoin rd0 c fun rd2 => k v ⟨t1, nx1, lim1, rd2, wr1⟩) W1) W
noncomputable def zRnd (P : Program) (sy : SyT) (tb : Tb) (L : Nat) (ck : CallK) (rnd : RndK) : RndK := tidyZ (zRnd0 P sy tb L ck rnd)
noncomputable def zFR (P : Program) (sy : SyT) (tb : Tb) (L : Nat) (n : Nat) : CallK × RndK :=
  Nat.rec (motive := fun _ => CallK × RndK) (fun _ _ _ _ => none, fun _ _ _ _ _ _ => none) (fun _ ih => (zCk P sy tb L ih.1 ih.2, zRnd P sy tb L ih.1 ih.2)) n
noncomputable def toCall (ck : CallK) : CallT := fun f args W => ck f args.toList W fun v W => some (v, W)
noncomputable def evFz (P : Program) (sy : SyT) (tb : Tb) (L n : Nat) : CallT := toCall (zFR P sy tb L n).1

section
variable {P : Program} {sy : SyT} {tb : Tb}
theorem zPutL_eq : ∀ (vs : List Value) (i : Nat) (t : Tr Value) (k : Tr Value → An), i + vs.length ≤ 1073741824 → zPutL vs i t k = k (putL vs i t)
  | [], i, t, k, _ => rfl
  | v :: vs, i, t, k, h => by
    simp only [List.length_cons] at h
    show putP (pth i) t v (fun t => fN (Nat.add i 1) fun i => zPutL vs i t k) = _
    rw [putP_pth (by omega), fN_eq, zPutL_eq vs _ _ k (by show i + 1 + vs.length ≤ _; omega)]
    rw [putL, fT_eq]
theorem zResL_ok {sl : Tr Value} {r : Value × Tw} : ∀ (l : List ResultVar) (W : Tw) (k : List Value → Tw → An), zResL l tb sl W k = some r → ∃ vs W', resQL tb (getS sl) l W = some (vs, W') ∧ k vs W' = some r
  | [], W, k, h => ⟨[], W, rfl, h⟩
  | .tmp t :: l, W, k, h => by
    have h' : Bool.rec (motive := fun _ => An) none (fW (getP (pth t) sl) fun v => zResL l tb sl W fun vs W => k (v :: vs) W) (Nat.blt t 1073741824) = some r := h
    cases hb : Nat.blt t 1073741824 with
    | false => rw [hb] at h'; cases h'
    | true =>
      rw [hb] at h'
      rw [Nat.blt_eq] at hb
      simp only [fW_eq, getP_eq, pth_code hb] at h'
      obtain ⟨vs, W', h1, h2⟩ := zResL_ok l W _ h'
      exact ⟨_, W', by rw [resQL, h1]; rfl, h2⟩
  | .cell a t :: l, W, k, h => by
    have h' : Bool.rec (motive := fun _ => An) none (Option.rec (motive := fun _ => An) none (fun ti => zLd ti.ag ti.sz (getP (pth a) sl) W fun v W => zResL l tb sl W fun vs W => k (v :: vs) W) (tb.ty.get t)) (Nat.blt a 1073741824) = some r := h
    cases hb : Nat.blt a 1073741824 with
    | false => rw [hb] at h'; cases h'
    | true =>
      rw [hb] at h'
      rw [Nat.blt_eq] at hb
      simp only [getP_eq, pth_code hb] at h'
      cases ht : tb.ty.get t with
      | none => rw [ht] at h'; cases h'
      | some ti =>
        rw [ht] at h'
        obtain ⟨ad, u, W1, e1, e2, e3⟩ := zLd_some h'
        obtain ⟨vs, W', h1, h2⟩ := zResL_ok l W1 _ e3
        refine ⟨_, W', ?_, h2⟩
        rw [resQL, e1]
        simp only [ht, e2, Option.bind_some, h1]
theorem zRes_ok {fn : Func} {sl : Tr Value} {W : Tw} {k : KV} {r : Value × Tw} (h : zRes tb fn sl W k = some r) : ∃ v W', resQ P tb fn (getS sl) W = some (v, W') ∧ k v W' = some r := by
  unfold zRes at h
  obtain ⟨vs, W', h1, h2⟩ := zResL_ok _ _ _ h
  unfold resQ
  rw [h1]
  cases vs with
  | nil => exact ⟨_, W', rfl, h2⟩
  | cons v s =>
    cases s with
    | nil => exact ⟨_, W', rfl, h2⟩
    | cons u s => exact ⟨_, W', rfl, h2⟩
theorem zEnd_ok {fn : Func} {sl : Tr Value} {ms : List Nat} {W : Tw} {k : KV} {r : Value × Tw} (h : zEnd P tb fn sl ms W k = some r) : ∃ v W', ((takeA P ms W).bind fun q => resQ P tb fn (getS sl) q.2) = some (v, W') ∧ k v W' = some r := by
  cases ms with
  | nil =>
    obtain ⟨v, W', h1, h2⟩ := zRes_ok (P := P) (show zRes tb fn sl W k = some r from h)
    exact ⟨v, W', h1, h2⟩
  | cons m s =>
    have h' : opb (takeA P (m :: s) W) (fun _ W => zRes tb fn sl W k) = some r := h
    obtain ⟨u, W1, h1, h2⟩ := opb_some h'
    obtain ⟨v, W', h3, h4⟩ := zRes_ok (P := P) h2
    exact ⟨v, W', by rw [h1]; exact h3, h4⟩
/-- A quick call, beside a slower one. -/
def CK (ck : CallK) (call : CallT) : Prop := ∀ f args W k r, ck f args W k = some r → ∃ v W', call f ⟨args⟩ W = some (v, W') ∧ k v W' = some r
theorem CK.le {ck : CallK} {call : CallT} (h : CK ck call) : CallLe (toCall ck) call := by
  intro f args W r hr
  obtain ⟨v, W', h1, h2⟩ := h f args.toList W _ r hr
  cases h2
  exact h1
def RK (rk : RndK) (rnd : RndT) : Prop := ∀ l ts as bd W k r, rk l ts as bd W k = some r → ∃ v W', rnd l ts as bd W = some (v, W') ∧ k v W' = some r
theorem zE_ok (htb : TbOk P tb) {ck : CallK} {rnd : RndK} {rnd' : RndT} {call : CallT} (hc : CK ck call) (hr : RK rnd rnd') : EOk P sy tb call rnd' (zE P sy tb ck rnd) := by
  refine ⟨fun o sl W k r h => ?_, hc, fun g h => ?_⟩
  · have h' : zGen P sy tb ck rnd o sl W k = some r := h
    have nxt : ∀ {nx : Next} {W1 : Tw}, opQT P sy tb (getS sl) o W = some (nx, W1) → zNx ck rnd o k nx W1 = some r → Qz call rnd' (opQT P sy tb (getS sl) o W) k r := by
      intro nx W1 h1 h2
      unfold zNx at h2
      split at h2
      · rw [forV_eq] at h2
        exact ⟨_, _, _, _, h1, rfl, h2⟩
      · exact ⟨_, _, _, _, h1, rfl, h2⟩
      · rename_i g args
        obtain ⟨v, W', h3, h4⟩ := hc _ _ _ _ _ h2
        exact ⟨_, _, v, W', h1, h3, h4⟩
      · rename_i l f ts as bd
        obtain ⟨v, W', h3, h4⟩ := hr _ _ _ _ _ _ _ h2
        rw [fW_eq] at h4
        exact ⟨_, _, v, W', h1, h3, h4⟩
      · cases h2
    unfold zGen at h'
    cases hsy : hasSy (ev (getS sl)) o.op with
    | true =>
      rw [hsy] at h'
      have h2 : symK P ck rnd o sl W k = some r := h'
      unfold symK at h2
      cases hop : o.op.operands.all opdOk with
      | false => rw [hop] at h2; cases h2
      | true =>
        rw [hop] at h2
        obtain ⟨a, W1, h3, h4⟩ := opb_some h2
        obtain ⟨n, W2, h5, h6⟩ := Alt.cps_ok h4
        refine nxt ?_ h6
        rw [opQT_eq htb]
        unfold opT
        rw [if_pos hop, hsy]
        show (symO P (ev (getS sl)) o.op W).bind _ = _
        rw [h3]
        exact h5
    | false =>
    rw [hsy] at h'
    cases hR : opR tb (getS sl) o W with
    | some p =>
      obtain ⟨nx, W1⟩ := p
      rw [hR] at h'
      have h2 : zVal k nx W1 = some r := h'
      unfold zVal at h2
      split at h2
      · rename_i v
        rw [fW_eq] at h2
        refine ⟨.value v, W1, v, W1, ?_, rfl, h2⟩
        rw [opQT_eq htb]
        exact opR_ok htb hR
      · cases h2
    | none =>
      rw [hR] at h'
      have h3 : opb (opQT P sy tb (getS sl) o W) (zNx ck rnd o k) = some r := h'
      obtain ⟨nx, W1, h1, h2⟩ := opb_some h3
      exact nxt h1 h2
  · have h' : (tb.fn.get g).isSome = true := h
    exact Option.isSome_iff_exists.1 h'
theorem zBr_ok (htb : TbOk P tb) {ck : CallK} {rnd : RndK} {rnd' : RndT} {call : CallT} (hc : CK ck call) (hr : RK rnd rnd') {lp : Nat → Option LoopC} (hlk : ∀ n c, lp n = some c → ∀ sl W k r, c.K sl W k = some r → ∃ e sl' W', c.F sl W = some ((e, sl'), W') ∧ k e sl' W' = some r) (ro : Option Nat) (N : Nat) : BOk P sy tb call rnd' (clQ tb) ro lp N (zBr P sy tb ck rnd ro lp N) := by
  refine ⟨zE_ok htb hc hr, rfl, rfl, rfl, hlk, fun g ps as bd sl ms W k r n h => ?_⟩
  have h' : zGc P tb ck ro (.rangeFunc g ps as bd) N sl ms W k = some r := h
  unfold zGc at h'
  simp only at h'
  split at h'
  · rename_i gf xs ys hg
    cases hcl : (clQ tb gf && opdOk g) with
    | false => rw [hcl] at h'; cases h'
    | true =>
      rw [hcl] at h'
      obtain ⟨p, W1, h1, h2⟩ := opb_some h'
      split at h2
      · rename_i mk hmk
        obtain ⟨q, W2, h3, h4⟩ := hc _ _ _ _ _ h2
        obtain ⟨r', W3, h5, h6⟩ := opb_some h4
        have key : evC P (opQT P sy tb) call rnd' (clQ tb) ro lp N (n + 1) (.rangeFunc g ps as bd) (sl, ms) W = match (generalizing := false) r' with
            | none => some ((Ex.normal, (sl, mk ++ ms)), W3)
            | some .ret => some ((.ret, (sl, mk ++ ms)), W3)
            | some (.exit id) => some ((.exit id, (sl, mk ++ ms)), W3)
            | _ => none := by
          simp only [evC, hg]
          rw [if_pos hcl, h1, Option.bind_some]
          simp only [hmk]
          rw [h3, Option.bind_some, h5, Option.bind_some]
          rfl
        split at h6
        · exact ⟨.normal, sl, mk ++ ms, W3, key, h6⟩
        · exact ⟨.ret, sl, mk ++ ms, W3, key, h6⟩
        · exact ⟨.exit _, sl, mk ++ ms, W3, key, h6⟩
        · cases h6
      · cases h2
  · cases h'
theorem zB_ok (htb : TbOk P tb) {ck : CallK} {rnd : RndK} {rnd' : RndT} {call : CallT} (hc : CK ck call) (hr : RK rnd rnd') {lp : Nat → Option LoopC} (hlk : ∀ n c, lp n = some c → ∀ sl W k r, c.K sl W k = some r → ∃ e sl' W', c.F sl W = some ((e, sl'), W') ∧ k e sl' W' = some r) (N : Nat) : BOk P sy tb call rnd' (clQ tb) none lp N (zB P sy tb ck rnd lp N) := zBr_ok htb hc hr hlk none N
theorem zRnd0_ok (htb : TbOk P tb) {ck : CallK} {rnd : RndK} {rnd' : RndT} {call : CallT} (hc : CK ck call) (hr : RK rnd rnd') (L : Nat) : RK (zRnd0 P sy tb L ck rnd) (evR0 P (opQT P sy tb) call rnd' (clQ tb) L) := by
  intro l ts as bd W k r h
  unfold zRnd0 at h
  unfold evR0
  cases hb : Nat.blt ts.size 1073741824 with
  | false => rw [hb] at h; cases h
  | true =>
    rw [hb] at h
    rw [if_pos rfl]
    rw [Nat.blt_eq] at hb
    simp only [zPutL_eq _ _ _ _ (show 0 + ts.toList.length ≤ 1073741824 by simp; omega)] at h
    have hB := zBr_ok (sy := sy) htb hc hr (lp := fun _ => none) (fun _ _ h => nomatch h) (some l) ts.size
    obtain ⟨e, sl1, ms1, W1, e1, e2⟩ := zC_ok hB _ _ _ _ _ _ _ h
    rw [e1, Option.bind_some]
    split at e2
    · obtain ⟨u, W2, g1, g2⟩ := opb_some e2
      simp only
      rw [g1, Option.bind_some]
      obtain ⟨e3, sl3, ms3, W3, g3, g4⟩ := zC_ok hB _ _ _ _ _ _ _ g2
      rw [g3, Option.bind_some]
      split at g4
      · obtain ⟨v, W4, g5, g6⟩ := opb_some g4
        exact ⟨v, W4, g5, g6⟩
      · cases g4
    · cases e2
theorem zRnd_ok (htb : TbOk P tb) {ck : CallK} {rnd : RndK} {rnd' : RndT} {call : CallT} (hc : CK ck call) (hr : RK rnd rnd') (L : Nat) : RK (zRnd P sy tb L ck rnd) (evR P (opQT P sy tb) call rnd' (clQ tb) L) := by
  intro l ts as bd W k r h
  obtain ⟨t, nx, lim, rd0, wr0⟩ := W
  have h' : zRnd0 P sy tb L ck rnd l ts as bd ⟨t, nx, lim, [], wr0⟩ (fun v W1 => Tw.rec (motive := fun _ => An) (fun t1 nx1 lim1 rd1 wr1 => tidyK nx nx1 rd1 fun c => Lg.fjoin rd0 c fun rd2 => k v ⟨t1, nx1, lim1, rd2, wr1⟩) W1) = some r := h
  obtain ⟨v, W1, h1, h2⟩ := zRnd0_ok htb hc hr L l ts as bd _ _ r h'
  obtain ⟨t1, nx1, lim1, rd1, wr1⟩ := W1
  have h2' : (tidyK nx nx1 rd1 fun c => Lg.fjoin rd0 c fun rd2 => k v ⟨t1, nx1, lim1, rd2, wr1⟩) = some r := h2
  rw [tidyK_eq, Lg.fjoin_eq] at h2'
  refine ⟨v, _, ?_, h2'⟩
  show tidyT (evR0 P (opQT P sy tb) call rnd' (clQ tb) L l ts as bd) ⟨t, nx, lim, rd0, wr0⟩ = _
  rw [tidyT_eq]
  show (evR0 P (opQT P sy tb) call rnd' (clQ tb) L l ts as bd ⟨t, nx, lim, [], wr0⟩).map _ = _
  rw [h1]
  rfl
theorem zCk_ok (hs : SKo sy) (htb : TbOk P tb) {ck : CallK} {rnd : RndK} {rnd' : RndT} {call : CallT} (L : Nat) (hc : CK ck call) (hr : RK rnd rnd') : CK (zCk P sy tb L ck rnd) (knT sy.kn (callQ P sy tb L (call, rnd'))) := by
  intro f args W k r h
  unfold zCk at h
  unfold knT
  simp only
  cases hk : sy.kn f with
  | some c =>
    rw [hk] at h
    exact hs.kk f c hk args W k r h
  | none =>
    rw [hk] at h
    simp only at h ⊢
    unfold zFn at h
    unfold callQ
    split at h
    · rename_i fn hf
      split at h
      · rename_i c hb
        rw [fN_eq] at h
        cases h1 : Nat.blt fn.ntmps 1073741824 with
        | false => rw [h1] at h; cases h
        | true =>
          rw [h1] at h
          cases h2 : Nat.ble (List.length args) fn.ntmps with
          | false => rw [h2] at h; cases h
          | true =>
            rw [h2] at h
            have h3 := h1
            have h4 := h2
            rw [Nat.blt_eq] at h3
            rw [Nat.ble_eq] at h4
            simp only [zPutL_eq _ _ _ _ (show 0 + args.length ≤ 1073741824 by omega)] at h
            obtain ⟨e, sl', ms', W', e1, e2⟩ := zC_ok (zB_ok htb hc hr (hs.lk f) fn.ntmps) _ _ _ _ _ _ _ h
            have fin : zEnd P tb fn sl' ms' W' k = some r → (e = .normal ∨ e = .ret) → ∃ v W2, (match tb.fn.get f with
              | some fn => match fn.body with
                | some c => if Nat.ble (⟨args⟩ : Array Value).size fn.ntmps && Nat.blt fn.ntmps 1073741824 then
                    (evC P (opQT P sy tb) call rnd' (clQ tb) none (sy.lp f) fn.ntmps L c (putL (⟨args⟩ : Array Value).toList 0 .lf, []) W).bind fun p => match p with
                      | ((.normal, (sl, ms)), W') => (takeA P ms W').bind fun q => resQ P tb fn (getS sl) q.2
                      | ((.ret, (sl, ms)), W') => (takeA P ms W').bind fun q => resQ P tb fn (getS sl) q.2
                      | _ => none
                  else none
                | none => none
              | none => none) = some (v, W2) ∧ k v W2 = some r := by
              intro hz he
              obtain ⟨v, W2, g1, g2⟩ := zEnd_ok hz
              refine ⟨v, W2, ?_, g2⟩
              rw [hf]
              simp only [hb]
              rw [if_pos (by rw [Bool.and_eq_true]; exact ⟨h2, h1⟩), e1, Option.bind_some]
              rcases he with rfl | rfl
              · exact g1
              · exact g1
            cases e with
            | normal => exact fin e2 (.inl rfl)
            | ret => exact fin e2 (.inr rfl)
            | exit i => cases e2
      · cases h
    · cases h
theorem zFR_le (hs : SKo sy) (htb : TbOk P tb) (L : Nat) : ∀ n, CK (zFR P sy tb L n).1 (evFRq P sy tb L n).1 ∧ RK (zFR P sy tb L n).2 (evFRq P sy tb L n).2 := by
  intro n
  induction n with
  | zero => exact ⟨fun f args W k r h => (by cases h), fun l ts as bd W k r h => (by cases h)⟩
  | succ n ih =>
    refine ⟨?_, ?_⟩
    · exact zCk_ok hs htb (P := P) (sy := sy) (tb := tb) L ih.1 ih.2
    · exact zRnd_ok htb ih.1 ih.2 L
theorem evFz_le (hs : SKo sy) (htb : TbOk P tb) (L n : Nat) : CallLe (evFz P sy tb L n) (evFq P sy tb L n) := (zFR_le hs htb L n).1.le
end
end Mo

