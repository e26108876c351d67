import Derived.Test.YtbhjimflcfnpaaaGreatDoorK1
import Derived.Deep.AppendSrc
import Derived.Laws.MakeOwn
set_option linter.all false
namespace Mo
open Go

section
variable {P : Program} {w0 : Bs} {α β γ δ : Type} {R : Ren → α → β → Prop} {Q : Ren → γ → δ → Prop} {ρ : Ren}

theorem sim_cap (ts : TypeId) {x y : Value} (h : VR ρ x y) (he : exactS x = true) (ats : Array TypeId) : SimAt P w0 VR ρ (Builtin.cap_ ats ts #[x]) (Builtin.cap_ ats ts #[y]) := by
  unfold Builtin.cap_
  cases h0 : ats[0]? with
  | none => exact SimAt.stuck
  | some t =>
    refine SimAt.bindE (sim_underlying t) fun ρ1 d hl => ?_
    have h' := h.le hl
    cases h' with
    | slo a l c hd e =>
      simp only [exactS, decide_eq_true_eq] at he
      omega
    | _ =>
      cases d <;> first
      | exact SimAt.pureV (.int _ _)
      | exact SimAt.stuck
      | exact SimAt.bindE (sim_underlying _) fun _ d _ => by cases d <;> first | exact SimAt.pureV (.int _ _) | exact SimAt.stuck
      | exact SimAt.getFail fun _ o o' ho W => by
          cases ho with
          | defd b => cases b <;> rfl
          | _ => rfl
      | exact SimAt.fail (runT_bindN fun _ => rfl)

theorem zeroCells_AR {x y : Value} (hc : AR ρ x.cells y.cells) (n : Nat) (hx : n = 0 ∨ 0 < x.cells.size) : AR ρ (Builtin.zeroCells x.cells n) (Builtin.zeroCells y.cells n) := by
  unfold Builtin.zeroCells
  rw [← hc.size]
  rcases hx with rfl | hx
  · exact map_AR fun i hi => absurd hi (by simp)
  · exact map_AR fun i hi => hc.bang (Nat.mod_lt _ hx)
def clrZ (P : Program) (ats : Array TypeId) : Bool := match ats[0]? with
  | some t => elemZ P t
  | none => true
theorem sim_clear (ts : TypeId) {x y : Value} (h : VR ρ x y) (ats : Array TypeId) (hz : clrZ P ats = true) : SimAt P w0 VR ρ (Builtin.clear_ ats ts #[x]) (Builtin.clear_ ats ts #[y]) := by
  have fin : ∀ {ρ : Ren}, SimAt P w0 VR ρ (Pure.pure (.tuple #[])) (Pure.pure (.tuple #[])) := SimAt.pureV (.tuple rfl fun i hi => absurd hi (by simp))
  unfold Builtin.clear_
  cases h0 : ats[0]? with
  | none => exact SimAt.stuck
  | some t =>
    refine SimAt.bind (sim_underlyingK t) fun ρ1 d d' hl ⟨ed, hdt⟩ => ?_
    subst ed
    have h' := h.le hl
    have hze : ∀ e, d = .slice e → zeroOk P e = true := fun e he => by
      unfold clrZ elemZ at hz
      rw [h0] at hz
      simp only [hdt, he] at hz
      exact hz
    have row : ∀ (a : Addr) (n : Nat) (e : TypeId), ρ1.dom a.block → zeroOk P e = true → SimAt P w0 VR ρ1 (do storeCells a (Builtin.zeroCells (← zeroValue e).cells n).toList; Pure.pure (.tuple #[])) (do storeCells (ρ1.adr a) (Builtin.zeroCells (← zeroValue e).cells n).toList; Pure.pure (.tuple #[])) := by
      intro a n e hd hz
      refine SimAt.bind (sim_zeroT hz) fun ρ2 u v hl2 ⟨_, hv⟩ => ?_
      rw [← hl2.adr hd]
      by_cases hs : n = 0 ∨ 0 < u.cells.size
      · have hA := zeroCells_AR hv n hs
        exact SimAt.bindE (sim_storeCells _ _ 0 (hl2.dom _ hd) hA.list.1 hA.list.2) fun _ _ _ => fin
      · have h1 : u.cells.size = 0 := by omega
        have h2 : v.cells.size = 0 := by rw [← hv.size]; exact h1
        have e1 : ∀ z : Array Value, z.size = 0 → (Builtin.zeroCells z n).toList = [] := fun z hz0 => by simp [Builtin.zeroCells, hz0]
        rw [e1 _ h1, e1 _ h2]
        exact fin
    cases h' with
    | sl0 l c => cases d <;> exact fin
    | sl a l c hd hb =>
      cases l with
      | zero => cases d <;> exact fin
      | succ l => cases d <;> first | exact row a _ _ hd (hze _ rfl) | exact SimAt.fail (runT_bindN fun _ => rfl)
    | slo a l c hd e =>
      cases l with
      | zero => cases d <;> exact fin
      | succ l => cases d <;> first | exact row a _ _ hd (hze _ rfl) | exact SimAt.fail (runT_bindN fun _ => rfl)
    | map0 => cases d <;> exact fin
    | map r hd =>
      have key : SimAt P w0 VR ρ1 (do
          let .map _ clock ← getObj r | Go.stuck "clear: map expected"
          setObj r (.map #[] clock)
          Pure.pure (.tuple #[])) (do
          let .map _ clock ← getObj (ρ1.b r) | Go.stuck "clear: map expected"
          setObj (ρ1.b r) (.map #[] clock)
          Pure.pure (.tuple #[])) := by
        refine SimAt.bind (sim_getObj hd) fun ρ2 o o' hl2 ho => ?_
        cases ho with
        | iter s p => exact SimAt.stuck
        | loop _ _ _ _ => exact SimAt.stuck
        | defd b => cases b <;> exact SimAt.stuck
        | map c h =>
          rw [← hl2.b _ hd]
          exact SimAt.bindE (sim_setObj (hl2.dom _ hd) (.map c .nil)) fun _ _ _ => fin
      cases d <;> exact key
    | _ => cases d <;> exact SimAt.fail (runT_bindN fun _ => rfl)

/-- A method that is found at once. -/
def methodOk (P : Program) (x : Value) (name : String) : Bool := match x with
  | .iface t _ => match P.info? t with
    | some i => match i.methods.find? (·.name == name) with
      | some m => m.path.isEmpty && (match m.func with
        | some (_, pr) => (match P.underlying t with
          | some (.pointer _) => pr
          | some _ => !pr
          | none => false)
        | none => false)
      | none => false
    | none => false
  | _ => false
def callable (P : Program) (f : FuncId) : Bool := match P.funcs[f]? with
  | some fn => fn.body.isSome && !(fn.name == "runtime.NumGoroutine")
  | none => false
/-- A method's function has a body. -/
def methodCall (P : Program) (x : Value) (name : String) : Bool := match x with
  | .iface t _ => match P.info? t with
    | some i => match i.methods.find? (·.name == name) with
      | some m => match m.func with
        | some (f, _) => callable P f
        | none => false
      | none => false
    | none => false
  | _ => false
theorem sim_method {t : TypeId} {v u : Value} {name : String} (hok : methodOk P (.iface t v) name = true) (hcl : methodCall P (.iface t v) name = true) (h : VR ρ v u) (n : Nat) :
    SimAt P w0 (fun ρ a b => a.1 = b.1 ∧ VR ρ a.2 b.2 ∧ callable P a.1 = true) ρ (method n t v name) (method n t u name) := by
  cases n with
  | zero => exact SimAt.unsupported
  | succ n =>
    unfold methodOk at hok
    unfold methodCall at hcl
    unfold method
    refine SimAt.bind (sim_typeInfo t) fun ρ1 i i' hl ⟨e1, e2⟩ => ?_
    subst e1
    simp only [e2] at hok hcl
    cases hm : i.methods.find? (·.name == name) with
    | none => rw [hm] at hok; cases hok
    | some m =>
      rw [hm] at hok hcl
      simp only [Bool.and_eq_true] at hok hcl
      have hp : m.path.toList = [] := by
        have := hok.1
        simpa using this
      simp only [hp]
      unfold follow
      show SimAt P w0 _ ρ1 (Sem.bind _ _) (Sem.bind _ _)
      simp only [Pure.pure, Sem.bind]
      cases hf : m.func with
      | none => rw [hf] at hok; exact absurd hok.2 Bool.false_ne_true
      | some q =>
        obtain ⟨f, pr⟩ := q
        rw [hf] at hok hcl
        have hk := hok.2
        simp only at hk
        refine SimAt.bindV (s := receiverAt t (.val v) pr _) (t := receiverAt t (.val u) pr _) ?_ fun ρ2 a b hl2 hv => SimAt.pure fun _ hl3 => ⟨rfl, hv.le hl3, hcl⟩
        unfold receiverAt
        refine SimAt.bind (sim_underlyingK t) fun ρ2 d d' hl2 ⟨e3, e4⟩ => ?_
        subst e3
        rw [e4] at hk
        cases d <;> simp only at hk <;> cases pr <;> first
          | exact absurd hk Bool.false_ne_true
          | exact SimAt.pureV ((h.le hl).le hl2)
          | (simp at hk)
end
end Mo

namespace Mo
open Go

/-! ## Maps with simple keys -/
section
variable {ρ : Ren}
theorem simpK_VR {k k' : Value} (hs : simpK k = true) (h : VR ρ k k') : k' = k := by
  cases h <;> first | rfl | cases hs
theorem ME.append1 {l l' : List MapEntry} (h : ME ρ l l') {k v v' : Value} (b : Nat) (hk : simpK k = true) (hv : VR ρ v v') : ME ρ (l ++ [⟨k, v, b⟩]) (l' ++ [⟨k, v', b⟩]) := by
  induction h with
  | nil => exact .cons b hk hv .nil
  | cons b' hk' hv' _ ih => exact .cons b' hk' hv' ih
theorem ME.modify {l l' : List MapEntry} (h : ME ρ l l') {k v v' : Value} (hk : simpK k = true) (hv : VR ρ v v') : ∀ i, ME ρ (l.modify i fun e => { e with key := k, val := v }) (l'.modify i fun e => { e with key := k, val := v' }) := by
  induction h with
  | nil => intro i; cases i <;> exact .nil
  | cons b' hk' hv' ht ih =>
    intro i
    cases i with
    | zero => exact .cons b' hk hv ht
    | succ i => exact .cons b' hk' hv' (ih i)
theorem ME.empty {l l' : List MapEntry} (h : ME ρ l l') : l'.isEmpty = l.isEmpty := by cases h <;> rfl
theorem ME.key {l l' : List MapEntry} (h : ME ρ l l') : ∀ i : Nat, (l'[i]?).map (·.key) = (l[i]?).map (·.key) := by
  induction h with
  | nil => intro i; rfl
  | cons b' hk' hv' ht ih =>
    intro i
    cases i with
    | zero => rfl
    | succ i => simpa using ih i
/-- What a key finds. -/
inductive FO (ρ : Ren) : Option (Nat × Value) → Option (Nat × Value) → Prop
  | none : FO ρ none none
  | some (i : Nat) {v v' : Value} (h : VR ρ v v') : FO ρ (some (i, v)) (some (i, v'))
theorem FO.le {ρ ρ' : Ren} (hl : ρ.le ρ') {x y : Option (Nat × Value)} (h : FO ρ x y) : FO ρ' x y := by
  cases h with
  | none => exact .none
  | some i h => exact .some i (h.le hl)
theorem findNow_sim (d : TypeDesc) (k : Value) {l l' : List MapEntry} (h : ME ρ l l') : ∀ i, (Instr.findNow d k l i = none ∧ Instr.findNow d k l' i = none) ∨ ∃ x y, Instr.findNow d k l i = some x ∧ Instr.findNow d k l' i = some y ∧ FO ρ x y := by
  induction h with
  | nil => intro i; exact .inr ⟨_, _, rfl, rfl, .none⟩
  | @cons kk v v' b l l' hk' hv' ht ih =>
    intro i
    simp only [Instr.findNow]
    cases hs : Instr.sameNow d k kk with
    | none => exact .inl ⟨rfl, rfl⟩
    | some x =>
      cases x with
      | true => exact .inr ⟨_, _, rfl, rfl, .some i hv'⟩
      | false => exact ih (i + 1)
end
def mapZ (P : Program) (t : TypeId) : Bool := match P.underlying t with
  | some (.map _ e) => zeroOk P e
  | _ => true
section
variable {P : Program} {w0 : Bs} {α β γ δ : Type} {R : Ren → α → β → Prop} {Q : Ren → γ → δ → Prop} {ρ : Ren}
theorem sim_equalK (d : Nat) (t : TypeId) {x y : Value} (hx : simpK x = true) (hy : simpK y = true) : SimAt P w0 EqR ρ (Op.equalIn (d + 1) t x y) (Op.equalIn (d + 1) t x y) := by
  unfold Op.equalIn
  refine SimAt.bindE (sim_underlying t) fun ρ1 e hl => ?_
  cases x <;> first | (exact absurd hx Bool.false_ne_true) | skip
  all_goals (cases y <;> first | (exact absurd hy Bool.false_ne_true) | skip)
  all_goals (cases e <;> first | exact SimAt.pureE _ | exact SimAt.stuck | exact SimAt.unsupported | (dsimp only; split <;> first | exact SimAt.pureE _ | exact SimAt.stuck))
theorem sim_findAsking (t : TypeId) {k : Value} (hk : simpK k = true) {l l' : List MapEntry} (h : ME ρ l l') : ∀ i, SimAt P w0 FO ρ (Instr.findAsking t k l i) (Instr.findAsking t k l' i) := by
  induction h with
  | nil => intro i; exact SimAt.pure fun _ _ => .none
  | @cons kk v v' b l l' hk' hv' ht ih =>
    intro i
    simp only [Instr.findAsking]
    refine SimAt.bindE (sim_equalK 9999 t hk hk') fun ρ1 e hl => ?_
    cases e with
    | true => exact SimAt.pure fun ρ2 hl2 => .some i ((hv'.le hl).le hl2)
    | false => exact (ih (i + 1)).le hl
theorem sim_findKey (t : TypeId) {k : Value} (hk : simpK k = true) {l l' : List MapEntry} (h : ME ρ l l') : SimAt P w0 FO ρ (Instr.findKey t k l) (Instr.findKey t k l') := by
  unfold Instr.findKey
  refine SimAt.bindE (sim_underlying t) fun ρ1 d hl => ?_
  rcases findNow_sim d k (h.le hl) 0 with ⟨h1, h2⟩ | ⟨x, y, h1, h2, h3⟩
  · simp only [h1, h2]
    exact sim_findAsking t hk (h.le hl) 0
  · simp only [h1, h2]
    exact SimAt.pure fun ρ2 hl2 => h3.le hl2
theorem sim_checkKey (b : Bool) (n : Nat) (t : TypeId) {k : Value} (hk : simpK k = true) : SimAt P w0 EqR ρ (Instr.checkKey b (n + 1) t k) (Instr.checkKey b (n + 1) t k) := by
  unfold Instr.checkKey
  refine SimAt.bindE (sim_underlying t) fun ρ1 d hl => ?_
  cases k <;> first | (exact absurd hk Bool.false_ne_true) | skip
  all_goals (cases d <;> first | exact SimAt.pureE _ | exact SimAt.stuck)
theorem sim_keyThatStays (x y : Value) : SimAt P w0 EqR ρ (Instr.keyThatStays x y) (Instr.keyThatStays x y) := by
  unfold Instr.keyThatStays
  split
  · exact SimAt.pureE _
  · refine SimAt.fail fun W => runT_bindN (fun W => ?_) W
    rfl
theorem keyThatStays_res {x y a : Value} {W W' : Tw} (h : runT P (Instr.keyThatStays x y) W = some (a, W')) : a = y := by
  unfold Instr.keyThatStays at h
  split at h
  · simp only [Pure.pure, runT, Option.some.injEq, Prod.mk.injEq] at h
    exact h.1.symm
  · rw [runT_bindN (fun W => rfl)] at h
    cases h
theorem sim_keyStays (x y : Value) : SimAt P w0 (fun _ a b => a = y ∧ b = y) ρ (Instr.keyThatStays x y) (Instr.keyThatStays x y) := by
  intro ρ1 W w a W' hl hw hr
  obtain ⟨ρ2, b, w', h1, h2, h3, h4, h5, h6, h7⟩ := sim_keyThatStays (P := P) (w0 := w0) (ρ := ρ) x y ρ1 W w a W' hl hw hr
  have e := keyThatStays_res hr
  exact ⟨ρ2, b, w', h1, h2, h3, h4, ⟨e, h5.symm.trans e⟩, h6, h7⟩
theorem sim_makeMap (t : TypeId) {x y : Option Value} (h : OV ρ x y) : SimAt P w0 VR ρ (Instr.makeMap t x) (Instr.makeMap t y) := by
  have fin : ∀ ρ1, SimAt P w0 VR ρ1 (newObj (.map #[] 0) >>= fun r => Pure.pure (Value.map (some r))) (newObj (.map #[] 0) >>= fun r => Pure.pure (Value.map (some r))) := fun ρ1 =>
    SimAt.bind (sim_newObj (OR.map (es := #[]) (es' := #[]) 0 .nil)) fun ρ2 n m hl ⟨d1, d2, _⟩ => by subst d2; exact SimAt.pureV (.map n d1)
  unfold Instr.makeMap
  cases h with
  | none => exact fin ρ
  | some h =>
    refine SimAt.bindE (sim_underlying t) fun ρ1 d hl => ?_
    cases d <;> first | exact SimAt.stuck | skip
    exact SimAt.bindE (SimAt.bindE (sim_asInt (h.le hl)) fun _ _ _ => SimAt.pureE _) fun ρ2 _ _ => fin ρ2
theorem sim_mapUpdate (t : TypeId) {m m' k v v' : Value} (hm : VR ρ m m') (hk : simpK k = true) (hv : VR ρ v v') : SimAt P w0 EqR ρ (Instr.mapUpdate t m k v) (Instr.mapUpdate t m' k v') := by
  unfold Instr.mapUpdate
  refine SimAt.bindE (sim_underlying t) fun ρ1 d hl => ?_
  cases d <;> first | exact SimAt.stuck | skip
  have hm1 := hm.le hl
  cases hm1 with
  | map0 => exact SimAt.rpanic
  | map r hd =>
    refine SimAt.bind (sim_getObj hd) fun ρ2 o o' hl2 ho => ?_
    cases ho with
    | iter s p => exact SimAt.stuck
    | loop _ _ _ _ => exact SimAt.stuck
    | defd b => cases b <;> exact SimAt.stuck
    | @map es es' c h =>
      refine SimAt.bindE (sim_checkKey false 9999 _ hk) fun ρ3 _ hl3 => ?_
      refine SimAt.bind (sim_findKey _ hk (h.le hl3)) fun ρ4 x y hl4 hxy => ?_
      have hle := (hl2.trans hl3).trans hl4
      have hd4 := hle.dom _ hd
      have e4 : ρ4.b r = ρ1.b r := hle.b _ hd
      have hv4 := (hv.le hl).le hle
      have hE := h.le (hl3.trans hl4)
      cases hxy with
      | none =>
        simp only
        rw [← e4]
        refine sim_setObj hd4 (.map _ ?_)
        simp only [Array.toList_push]
        exact hE.append1 _ hk hv4
      | some i hvv =>
        simp only
        have ek : ((es'[i]?).map (·.key)).getD k = ((es[i]?).map (·.key)).getD k := by
          have := hE.key i
          rw [Array.getElem?_toList, Array.getElem?_toList] at this
          rw [this]
        rw [ek]
        refine SimAt.bind (sim_keyStays _ k) fun ρ5 a b hl5 ⟨e1, e2⟩ => ?_
        subst e1 e2
        rw [← e4, ← hl5.b _ hd4]
        refine sim_setObj (hl5.dom _ hd4) (.map _ ?_)
        rw [Array.toList_modify, Array.toList_modify]
        exact (hE.le hl5).modify hk (hv4.le hl5) i
  | _ => exact SimAt.stuck
theorem sim_lookup (t : TypeId) {x x' k : Value} (hx : VR ρ x x') (hk : simpK k = true) (c : Bool) (hz : mapZ P t = true) : SimAt P w0 VR ρ (Instr.lookup t x k c) (Instr.lookup t x' k c) := by
  unfold Instr.lookup
  refine SimAt.bind (sim_underlyingK t) fun ρ1 d d' hl ⟨e1, e2⟩ => ?_
  subst e1
  by_cases hd0 : ∃ key elem, d = .map key elem
  case neg =>
    cases d <;> first | exact SimAt.stuck | exact absurd ⟨_, _, rfl⟩ hd0
  obtain ⟨key, elem, rfl⟩ := hd0
  have hze : zeroOk P elem = true := by unfold mapZ at hz; rw [e2] at hz; exact hz
  have rest : ∀ (ρ2 : Ren) (es es' : Array MapEntry), ME ρ2 es.toList es'.toList → SimAt P w0 VR ρ2
      (do
        Instr.checkKey es.isEmpty 10000 key k
        let (v, ok) ← match ← Instr.findKey key k es.toList with
          | some (_, v) => pure (v, true)
          | none => pure (← zeroValue elem, false)
        pure (if c then .tuple #[v, .bool ok] else v))
      (do
        Instr.checkKey es'.isEmpty 10000 key k
        let (v, ok) ← match ← Instr.findKey key k es'.toList with
          | some (_, v) => pure (v, true)
          | none => pure (← zeroValue elem, false)
        pure (if c then .tuple #[v, .bool ok] else v)) := by
    intro ρ2 es es' h
    have ee : es'.isEmpty = es.isEmpty := by
      have := h.length
      rw [Array.length_toList, Array.length_toList] at this
      simp only [Array.isEmpty, this]
    rw [ee]
    refine SimAt.bindE (sim_checkKey _ 9999 _ hk) fun ρ3 _ hl3 => ?_
    refine SimAt.bind (sim_findKey _ hk (h.le hl3)) fun ρ4 x y hl4 hxy => ?_
    have out : ∀ (ρ5 : Ren) (v v' : Value) (b : Bool), VR ρ5 v v' → SimAt P w0 VR ρ5 (Pure.pure (if c then Value.tuple #[v, .bool b] else v)) (Pure.pure (if c then Value.tuple #[v', .bool b] else v')) := by
      intro ρ5 v v' b hv
      refine SimAt.pureV ?_
      cases c with
      | false => exact hv
      | true =>
        refine .tuple rfl fun i hi => ?_
        have hi' : i < 2 := hi
        rcases (by omega : i = 0 ∨ i = 1) with rfl | rfl
        · exact hv
        · exact .bool b
    cases hxy with
    | none => exact SimAt.bindV (sim_zero hze) fun ρ5 v v' _ hv => out ρ5 v v' false hv
    | some i hvv => exact out ρ4 _ _ true hvv
  have hx1 := hx.le hl
  cases hx1 with
  | map0 => exact rest ρ1 #[] #[] .nil
  | map r hd =>
    refine SimAt.bind (sim_getObj hd) fun ρ2 o o' hl2 ho => ?_
    cases ho with
    | iter s p => exact SimAt.stuck
    | loop _ _ _ _ => exact SimAt.stuck
    | defd b => cases b <;> exact SimAt.stuck
    | @map es es' c h => exact rest ρ2 es es' h
  | _ => exact SimAt.stuck
/-! ### Texts, rune by rune -/
theorem sim_range (t : TypeId) {x y : Value} (h : VR ρ x y) : SimAt P w0 VR ρ (Instr.range t x) (Instr.range t y) := by
  unfold Instr.range
  refine SimAt.bindE (sim_underlying t) fun ρ1 d hl => ?_
  have h1 := h.le hl
  cases h1 with
  | string s =>
    cases d <;> first | exact SimAt.stuck | skip
    show SimAt P w0 VR ρ1 (newObj (.stringIter s 0) >>= fun r => Pure.pure (Value.pointer (some ⟨r, 0, none⟩))) (newObj (.stringIter s 0) >>= fun r => Pure.pure (Value.pointer (some ⟨r, 0, none⟩)))
    refine SimAt.bind (sim_newObj (OR.iter s 0)) fun ρ3 n m hl3 ⟨d1, d2, d3⟩ => ?_
    subst d2
    refine SimAt.pureV ?_
    have e : (⟨ρ3.b n, 0, none⟩ : Addr) = ρ3.adr ⟨n, 0, none⟩ := by simp [Ren.adr, d3]
    rw [e]
    exact .ptr _ d1
  | map0 => cases d <;> first | exact SimAt.stuck | exact SimAt.fail fun W => rfl
  | map r hd =>
    cases d <;> first | exact SimAt.stuck | skip
    refine SimAt.bind (sim_getObj hd) fun ρ2 o o' hl2 ho => ?_
    cases ho with
    | iter s p => exact SimAt.stuck
    | loop _ _ _ _ => exact SimAt.stuck
    | defd b => cases b <;> exact SimAt.stuck
    | map c h => exact SimAt.fail fun W => rfl
  | _ => cases d <;> exact SimAt.stuck
theorem SimAt.s0 {α β : Type} {R : Ren → α → β → Prop} {n : Nat} {f : Obj → Sem α} {t : Sem β} (h : ρ.s n = 0 → SimAt P w0 R ρ (Go.getObj n >>= f) t) (hd : ρ.dom n) : SimAt P w0 R ρ (Go.getObj n >>= f) t := by
  intro ρ1 W w a W' hl hw hr
  have hr0 := hr
  have hr' : runT P ((Go.getObj n).bind f) W = some (a, W') := hr
  rw [runT_bind] at hr'
  obtain ⟨o, W1, h1, h2⟩ := bind_some hr'
  have h1' : (getOT n W).bind (fun p => some (p.1, p.2)) = some (o, W1) := h1
  obtain ⟨o2, W2, h3, h4⟩ := bind_some h1'
  obtain ⟨r, hg, ho, -⟩ := getOT_some h3
  have := ((hw.row _ _ hg).ob _ ho).1
  rw [hl.s _ hd] at this
  exact h this ρ1 W w a W' hl hw hr0
theorem sim_next {x y : Value} (h : VR ρ x y) (s : Bool) (t : TypeId) : SimAt P w0 VR ρ (Instr.next x s t) (Instr.next y s t) := by
  unfold Instr.next
  cases h with
  | ptr a hd =>
    obtain ⟨r, off, sp⟩ := a
    cases off with
    | succ k => exact SimAt.stuck
    | zero =>
      refine SimAt.s0 (fun h0 => ?_) hd
      have e : ρ.adr ⟨r, 0, sp⟩ = ⟨ρ.b r, 0, sp⟩ := by simp [Ren.adr, h0]
      rw [e]
      refine SimAt.bind (sim_getObj hd) fun ρ1 o o' hl ho => ?_
      have over : SimAt P w0 VR ρ1 (Pure.pure (.tuple #[.bool false])) (Pure.pure (.tuple #[.bool false])) :=
        SimAt.pureV (plain_VR _ 6 _ (by decide))
      cases ho with
      | iter b p =>
        cases s with
        | false => exact SimAt.stuck
        | true =>
          simp only
          split
          · rw [← hl.b _ hd]
            refine SimAt.bindE (sim_setObj (hl.dom _ hd) (.iter b _)) fun ρ2 _ _ => SimAt.pureV ?_
            refine .tuple rfl fun i hi => ?_
            have hi' : i < 3 := hi
            rcases (by omega : i = 0 ∨ i = 1 ∨ i = 2) with rfl | rfl | rfl
            · exact .bool _
            · exact .int _ _
            · exact .int _ _
          · exact over
      | loop _ _ _ _ => cases s <;> exact SimAt.stuck
      | defd b => cases b <;> cases s <;> exact SimAt.stuck
      | map c h => cases s <;> exact SimAt.stuck
  | _ => exact SimAt.stuck
end
end Mo

namespace Mo
open Go

/-- What an operation comes to. -/
inductive NR (ρ : Ren) : Next → Next → Prop
  | value {x y : Value} (h : VR ρ x y) : NR ρ (.value x) (.value y)
  | skip : NR ρ .skip .skip
  | enter (f : FuncId) {xs ys : Array Value} (h : AR ρ xs ys) : NR ρ (.enter f xs) (.enter f ys)
  | round (l : Nat) (f g : FuncId) {xs ys : Array Value} {as bd : Code} (hl : ρ.dom l) (h : AR ρ xs ys) (ha : codeOk as = true) (hb : codeOk bd = true) : NR ρ (.round l f xs as bd) (.round (ρ.b l) g ys as bd)
theorem NR.le {ρ ρ' : Ren} (hl : ρ.le ρ') {x y : Next} (h : NR ρ x y) : NR ρ' x y := by
  cases h with
  | value h => exact .value (h.le hl)
  | skip => exact .skip
  | enter f h => exact .enter f (h.le hl)
  | round l f g hd h ha hb => rw [← hl.b _ hd]; exact .round l f g (hl.dom _ hd) (h.le hl) ha hb

section
variable {P : Program} {w0 : Bs} {α β γ δ : Type} {R : Ren → α → β → Prop} {Q : Ren → γ → δ → Prop} {ρ : Ren}

theorem sim_v {s t : Sem Value} (h : SimAt P w0 VR ρ s t) : SimAt P w0 NR ρ (do pure (.value (← s))) (do pure (.value (← t))) :=
  SimAt.bindV h fun _ _ _ _ hv => SimAt.pure fun _ hl => .value (hv.le hl)
theorem sim_u {s t : Sem Unit} (h : SimAt P w0 EqR ρ s t) : SimAt P w0 NR ρ (do s; pure .skip) (do t; pure .skip) :=
  SimAt.bindE h fun _ _ _ => SimAt.pure fun _ _ => .skip

theorem AR.append {xs ys us vs : Array Value} (h : AR ρ xs ys) (h' : AR ρ us vs) : AR ρ (xs ++ us) (ys ++ vs) := by
  refine ⟨by simp [h.size, h'.size], fun i hi => ?_⟩
  rw [Array.getD_eq_getD_getElem?, Array.getD_eq_getD_getElem?]
  by_cases hx : i < xs.size
  · rw [Array.getElem?_append_left hx, Array.getElem?_append_left (by rw [← h.size]; exact hx)]
    have := h.at' i hx
    rwa [Array.getD_eq_getD_getElem?, Array.getD_eq_getD_getElem?] at this
  · rw [Array.getElem?_append_right (by omega), Array.getElem?_append_right (by rw [← h.size]; omega), ← h.size]
    have := h'.at' (i - xs.size) (by simp at hi; omega)
    rwa [Array.getD_eq_getD_getElem?, Array.getD_eq_getD_getElem?] at this
theorem AR.map {A : Type} {f g : A → Value} {xs : Array A} (h : ∀ x ∈ xs, VR ρ (f x) (g x)) : AR ρ (xs.map f) (xs.map g) := by
  refine ⟨by simp, fun i hi => ?_⟩
  have hi' : i < xs.size := by simpa using hi
  simpa [Array.getD, hi'] using h xs[i] (by simp)

theorem sim_callFunc {f : FuncId} (hf : callable P f = true) {xs ys : Array Value} (h : AR ρ xs ys) : SimAt P w0 NR ρ (callFunc f xs) (callFunc f ys) := by
  refine sim_programP ?_
  unfold callable at hf
  cases hg : P.funcs[f]? with
  | none => rw [hg] at hf; cases hf
  | some fn =>
    rw [hg] at hf
    simp only [Bool.and_eq_true, Bool.not_eq_true'] at hf
    dsimp only
    have h0 : ¬ (fn.name == "runtime.NumGoroutine") = true := by rw [hf.2]; exact Bool.false_ne_true
    have h1 : fn.body.isNone = false := by
      have := hf.1
      cases hb : fn.body <;> simp_all
    have h1' : ¬ fn.body.isNone = true := by rw [h1]; exact Bool.false_ne_true
    rw [if_neg h0, if_neg h1', if_neg h0, if_neg h1']
    exact SimAt.pure fun _ hl => NR.enter f (h.le hl)

theorem fold_set : ∀ (ps : List Tmp) (xs ys : List Value) {ts us : Array Value}, AR ρ ts us → xs.length = ys.length → (∀ j (h : j < xs.length) (h' : j < ys.length), VR ρ xs[j] ys[j]) →
    AR ρ ((ps.zip xs).foldl (fun ts (t, a) => ts.setIfInBounds t a) ts) ((ps.zip ys).foldl (fun ts (t, a) => ts.setIfInBounds t a) us)
  | [], _, _, _, _, h, _, _ => by simpa using h
  | _ :: _, [], [], _, _, h, _, _ => by simpa using h
  | _ :: _, [], _ :: _, _, _, _, h, _ => by simp at h
  | _ :: _, _ :: _, [], _, _, _, h, _ => by simp at h
  | p :: ps, x :: xs, y :: ys, ts, us, h, hs, hv => by
    simp only [List.zip_cons_cons, List.foldl_cons]
    exact fold_set ps xs ys (h.set p (hv 0 (by simp) (by simp))) (by simpa using hs) fun j h1 h2 => hv (j + 1) (by simpa using h1) (by simpa using h2)
theorem sim_yield {l : Nat} (hl : ρ.dom l) {xs ys : Array Value} (h : AR ρ xs ys) : SimAt P w0 NR ρ (Instr.yield l xs) (Instr.yield (ρ.b l) ys) := by
  unfold Instr.yield
  have hg : SimAt P w0 (fun ρ a b => ∃ st pe fn fn' ts ts' ps as bd df, a = ⟨st, pe, fn, ts, ps, as, bd, df⟩ ∧ b = ⟨st, pe, fn', ts', ps, as, bd, ρ.b df⟩ ∧ AR ρ ts ts' ∧ codeOk as = true ∧ codeOk bd = true) ρ (Instr.getLoop l) (Instr.getLoop (ρ.b l)) := by
    refine SimAt.bind (sim_getObj hl) fun ρ1 o o' hl1 ho => ?_
    cases ho with
    | loop ht ha hb hd => exact SimAt.pure fun ρ2 hl2 => ⟨_, _, _, _, _, _, _, _, _, _, rfl, by rw [hl2.b _ hd], ht.le hl2, ha, hb⟩
    | iter s p => exact SimAt.stuck
    | map c h => exact SimAt.stuck
    | defd b => cases b <;> exact SimAt.stuck
  refine SimAt.bind hg fun ρ1 a b hl1 hab => ?_
  obtain ⟨st, pe, fn, fn', ts, ts', ps, as, bd, df, rfl, rfl, h1, h2, h3⟩ := hab
  have hA := h.le hl1
  have hs := hA.size
  dsimp only
  rw [← hs]
  by_cases hc : xs.size ≠ ps.size
  · rw [if_pos hc, if_pos hc]; exact SimAt.fail (runT_bindN fun _ => rfl)
  · rw [if_neg hc, if_neg hc]
    refine SimAt.pure fun ρ2 hl2 => ?_
    rw [← hl1.b _ hl, ← hl2.b _ (hl1.dom _ hl)]
    refine NR.round l fn fn' (hl2.dom _ (hl1.dom _ hl)) (AR.le hl2 ?_) h2 h3
    have hf := fold_set ps.toList xs.toList ys.toList h1 hA.list.1 hA.list.2
    have e : ∀ (zs : Array Value) (t : Array Value), (ps.zip zs).foldl (fun tmps (t, a) => tmps.setIfInBounds t a) t = (ps.toList.zip zs.toList).foldl (fun tmps (t, a) => tmps.setIfInBounds t a) t := by
      intro zs t
      rw [← Array.foldl_toList, Array.toList_zip]
    rw [e, e]
    exact hf
/-- A callee that is a function of the program's. -/
def calleeOk (P : Program) : Value → Bool
  | .func (.func f) _ _ => callable P f
  | .func (.yield _) ⟨[]⟩ ⟨[]⟩ => true
  | _ => false
theorem sim_call {ev ev' : Operand → Value} {c : Call} {x : Operand} (hc : c.callee = .value x) (hx : VR ρ (ev x) (ev' x)) (ha : ∀ y ∈ c.args, VR ρ (ev y) (ev' y)) (hok : calleeOk P (ev x) = true) (t : TypeId) :
    SimAt P w0 NR ρ (do let d ← resolve ev c t; invoke d.target d.args) (do let d ← resolve ev' c t; invoke d.target d.args) := by
  have hargs := AR.map ha
  unfold resolve
  rw [hc]
  dsimp only
  generalize ev x = u at *
  generalize ev' x = v at *
  cases hx with
  | func fn hf h1 h2 h3 h4 =>
    cases fn <;> try (exact absurd hok Bool.false_ne_true)
    · exact sim_callFunc hok (((AR.mk h1 h3).append hargs).append (AR.mk h2 h4))
    · exact absurd hf Bool.false_ne_true
  | yld n hd =>
    have e : ∀ zs : Array Value, #[] ++ zs = zs := fun zs => by simp
    have k := sim_yield (P := P) (w0 := w0) hd hargs
    rw [← e (c.args.map ev), ← e (c.args.map ev')] at k
    exact k
  | _ => exact absurd hok Bool.false_ne_true

theorem sim_callMethod {x y : Value} {name : String} (hok : methodOk P x name = true) (hcl : methodCall P x name = true) (h : VR ρ x y) {xs ys : Array Value} (ha : AR ρ xs ys) :
    SimAt P w0 NR ρ (callMethod x name xs) (callMethod y name ys) := by
  cases h with
  | iface t hv =>
    unfold callMethod
    refine sim_programP ?_
    refine SimAt.bind (sim_method hok hcl hv _) fun ρ1 a b hl ⟨e1, e2, e3⟩ => ?_
    dsimp only
    rw [← e1]
    refine (sim_callFunc e3 ?_)
    refine AR.append ⟨rfl, fun i hi => ?_⟩ (ha.le hl)
    have hi' : i < 1 := hi
    have hi' : i = 0 := by omega
    subst hi'
    exact e2
  | _ => exact absurd hok Bool.false_ne_true
theorem sim_invoke {ev ev' : Operand → Value} {c : Call} {x : Operand} {name : String} (hc : c.callee = .invoke x name) (hx : VR ρ (ev x) (ev' x)) (ha : ∀ y ∈ c.args, VR ρ (ev y) (ev' y)) (hok : methodOk P (ev x) name = true) (hok2 : methodCall P (ev x) name = true) (t : TypeId) :
    SimAt P w0 NR ρ (do let d ← resolve ev c t; invoke d.target d.args) (do let d ← resolve ev' c t; invoke d.target d.args) := by
  have hargs := AR.map ha
  have hcm := sim_callMethod (w0 := w0) hok hok2 hx hargs
  have e : ∀ f : Operand → Value, invoke (.fn (.method name) #[]) (#[f x] ++ c.args.map f) = callMethod (f x) name (c.args.map f) := by
    intro f
    unfold invoke
    have h0 : (#[f x] ++ c.args.map f)[0]? = some (f x) := by rw [Array.getElem?_append_left (by exact Nat.one_pos)]; rfl
    have h1 : (#[f x] ++ c.args.map f).extract 1 (#[f x] ++ c.args.map f).size = c.args.map f := by
      apply Array.ext'
      simp only [Array.toList_extract, Array.toList_append, List.extract, Array.size_append, Array.size_map]
      simp
      rw [List.take_of_length_le (by simp)]
    simp only [h0, h1]
  unfold resolve
  rw [hc]
  show SimAt P w0 NR ρ (invoke (.fn (.method name) #[]) (#[ev x] ++ c.args.map ev)) (invoke (.fn (.method name) #[]) (#[ev' x] ++ c.args.map ev'))
  rw [e, e]
  exact hcm

/-- A row of bytes becomes a string. -/
def bytesStr (P : Program) (s d : TypeId) : Bool := match P.underlying s, P.underlying d with
  | some (.slice e), some .string => (match P.underlying e with
    | some (.int .u8) => true
    | _ => false)
  | _, _ => false
theorem sim_convBS {s d : TypeId} (hb : bytesStr P s d = true) {x y : Value} (h : VR ρ x y) (hr : refV x = true) : SimAt P w0 VR ρ (convert s d x) (convert s d y) := by
  unfold bytesStr at hb
  refine SimAt.bind (sim_underlyingK s) fun ρ1 a a' hl ⟨e1, e2⟩ => SimAt.bind (sim_underlyingK d) fun ρ2 b b' hl2 ⟨e3, e4⟩ => ?_
  subst e1
  subst e3
  rw [e2, e4] at hb
  have h' := (h.le hl).le hl2
  have h'' := h'
  cases a with
  | slice elem =>
    cases b with
    | string =>
      have fin : ∀ {x y : Value}, VR ρ2 x y → SimAt P w0 VR ρ2
          (do match ← underlying elem with
              | .int .u8 => Conv.bytesToString x
              | .int .i32 => Conv.runesToString x
              | _ => Go.stuck "Convert: a slice of what to string?")
          (do match ← underlying elem with
              | .int .u8 => Conv.bytesToString y
              | .int .i32 => Conv.runesToString y
              | _ => Go.stuck "Convert: a slice of what to string?") := by
        intro x y hv
        refine SimAt.bind (sim_underlyingK elem) fun ρ3 c c' hl3 ⟨e5, e6⟩ => ?_
        subst e5
        simp only at hb
        rw [e6] at hb
        cases c <;> try (exact absurd hb Bool.false_ne_true)
        rename_i k _
        cases k <;> try (exact absurd hb Bool.false_ne_true)
        exact sim_bytesToString (hv.le hl3)
      cases h' with
      | sl a l c hd hb => exact fin h''
      | slo a l c hd e => exact fin h''
      | _ => first | exact absurd hr Bool.false_ne_true | exact fin h''
    | _ => exact absurd hb Bool.false_ne_true
  | _ => exact absurd hb Bool.false_ne_true

/-- len and copy. -/
theorem sim_lenC {ev ev' : Operand → Value} {c : Call} (hc : c.callee = .builtin .len) (ha : ∀ y ∈ c.args, VR ρ (ev y) (ev' y)) (h1 : c.args.size = 1) (t : TypeId) :
    SimAt P w0 NR ρ (do let d ← resolve ev c t; invoke d.target d.args) (do let d ← resolve ev' c t; invoke d.target d.args) := by
  obtain ⟨cl, args, ats⟩ := c
  obtain ⟨l⟩ := args
  match l, h1 with
  | [x], _ =>
    simp only at hc
    subst hc
    have e : ∀ f : Operand → Value, Array.map f #[x] = #[f x] := fun f => by simp
    have k := sim_v (P := P) (w0 := w0) (sim_len t (ha x (by simp)) ats)
    rw [← e ev, ← e ev'] at k
    exact k
theorem sim_copyC {ev ev' : Operand → Value} {c : Call} (hc : c.callee = .builtin .copy) (ha : ∀ y ∈ c.args, VR ρ (ev y) (ev' y)) (h1 : c.args.size = 2) (t : TypeId) :
    SimAt P w0 NR ρ (do let d ← resolve ev c t; invoke d.target d.args) (do let d ← resolve ev' c t; invoke d.target d.args) := by
  obtain ⟨cl, args, ats⟩ := c
  obtain ⟨l⟩ := args
  match l, h1 with
  | [x, y], _ =>
    simp only at hc
    subst hc
    have e : ∀ f : Operand → Value, Array.map f #[x, y] = #[f x, f y] := fun f => by simp
    have k := sim_v (P := P) (w0 := w0) (sim_copy t (ha x (by simp)) (ha y (by simp)) ats)
    rw [← e ev, ← e ev'] at k
    exact k

theorem sim_capC {ev ev' : Operand → Value} {c : Call} (hc : c.callee = .builtin .cap) (ha : ∀ y ∈ c.args, VR ρ (ev y) (ev' y)) (hok : (match c.args.toList with
    | [x] => exactS (ev x)
    | _ => false) = true) (t : TypeId) :
    SimAt P w0 NR ρ (do let d ← resolve ev c t; invoke d.target d.args) (do let d ← resolve ev' c t; invoke d.target d.args) := by
  obtain ⟨cl, args, ats⟩ := c
  obtain ⟨l⟩ := args
  simp only at hok
  split at hok
  · rename_i x
    simp only at hc
    subst hc
    have e : ∀ f : Operand → Value, Array.map f #[x] = #[f x] := fun f => by simp
    have k := sim_v (P := P) (w0 := w0) (sim_cap t (ha x (by simp)) hok ats)
    rw [← e ev, ← e ev'] at k
    exact k
  · cases hok
theorem sim_clearC {ev ev' : Operand → Value} {c : Call} (hc : c.callee = .builtin .clear) (ha : ∀ y ∈ c.args, VR ρ (ev y) (ev' y)) (h1 : c.args.size = 1) (hz : clrZ P c.argTypes = true) (t : TypeId) :
    SimAt P w0 NR ρ (do let d ← resolve ev c t; invoke d.target d.args) (do let d ← resolve ev' c t; invoke d.target d.args) := by
  obtain ⟨cl, args, ats⟩ := c
  obtain ⟨l⟩ := args
  match l, h1 with
  | [x], _ =>
    simp only at hc
    subst hc
    have e : ∀ f : Operand → Value, Array.map f #[x] = #[f x] := fun f => by simp
    have k := sim_v (P := P) (w0 := w0) (sim_clear t (ha x (by simp)) ats hz)
    rw [← e ev, ← e ev'] at k
    exact k

/-- No symbol. -/
def noSyV : Value → Bool
  | .chan _ => false
  | _ => true
theorem toldB_ok {v : Value} (h : toldB v = true) : told v := h
/-- The operations that are told here by what they do to names. -/
def opOk (P : Program) (ev : Operand → Value) (o : Oper) : Bool :=
  match o.op with
  | .buildSlice t n ps => decide (n < big) && elemZ P t && ps.all fun p => toldB (ev p.2)
  | .build t ps => zeroOk P t && ps.all fun p => toldB (ev p.2)
  | .alloc t | .typeAssert _ _ t _ => zeroOk P t
  | .makeSlice t _ _ => elemZ P t
  | .move _ | .assign _ | .pick _ _ _ | .box _ _ | .load _ _ | .store _ _ _ | .makeInterface _ _
  | .field _ _ _ | .indexAddr _ _ _ | .extract _ _ => true
  | .index _ x _ => noSyV (ev x)
  | .fieldAddr s _ f => fieldNZ P s f
  | .makeFunc fn _ _ => fnOk fn
  | .slice t x _ _ _ => exactS (ev x) && arrOk P t
  | .nilCheck x => match ev x with
    | .func (.method _) _ _ => false
    | .chan _ => false
    | _ => true
  | .binOp b _ x y _ => (match b with
    | .eql | .neq => nilV (ev y) && refV (ev x) || nilV (ev x) && refV (ev y)
    | _ => false)
  | .call c => match c.callee with
    | .value x => calleeOk P (ev x)
    | .builtin .len => decide (c.args.size = 1) && c.args.all (fun x => noSyV (ev x))
    | .builtin .copy => decide (c.args.size = 2)
    | .builtin .clear => decide (c.args.size = 1) && clrZ P c.argTypes
    | .builtin .cap => (match c.args.toList with
      | [x] => exactS (ev x)
      | _ => false)
    | .invoke x name => methodOk P (ev x) name && methodCall P (ev x) name
    | _ => false
  | .convert s d x => bytesStr P s d && refV (ev x)
  | .makeMap _ _ | .range _ _ | .next _ _ => true
  | .lookup t _ k _ => simpK (ev k) && mapZ P t
  | .insert _ _ k _ | .mapUpdate _ _ k _ => simpK (ev k)
  | _ => false

theorem sim_op (hz : ZOk P) (hzs : ZSz P) {ev ev' : Operand → Value} {o : Oper} (h : ∀ x ∈ o.op.operands, VR ρ (ev x) (ev' x)) (hok : opOk P ev o = true) :
    SimAt P w0 NR ρ (execOp ev o) (execOp ev' o) := by
  obtain ⟨dst, op, type, pos, after, guard⟩ := o
  simp only at h
  have LRm : ∀ ps : Array (Nat × Operand), (∀ p ∈ ps, VR ρ (ev p.2) (ev' p.2)) → (ps.all fun p => toldB (ev p.2)) = true → LR ρ (ps.map fun (i, x) => (i, ev x)).toList (ps.map fun (i, x) => (i, ev' x)).toList := by
    intro ps hp hb
    rw [Array.all_eq_true_iff_forall_mem] at hb
    have : ∀ l : List (Nat × Operand), (∀ p ∈ l, VR ρ (ev p.2) (ev' p.2)) → (∀ p ∈ l, toldB (ev p.2) = true) → LR ρ (l.map fun (i, x) => (i, ev x)) (l.map fun (i, x) => (i, ev' x)) := by
      intro l
      induction l with
      | nil => intro _ _; exact .nil
      | cons p l ih =>
        intro hl hb
        exact .cons p.1 (hl p (by simp)) (toldB_ok (hb p (by simp))) (ih (fun q hq => hl q (by simp [hq])) fun q hq => hb q (by simp [hq]))
    simpa using this ps.toList (fun p hp' => hp p (by simpa using hp')) fun p hp' => hb p (by simpa using hp')
  have opt : ∀ x : Option Operand, (∀ y, x = some y → VR ρ (ev y) (ev' y)) → OV ρ (x.map ev) (x.map ev') := by
    intro x hx
    cases x with
    | none => exact .none
    | some y => exact .some (hx y rfl)
  unfold opOk at hok
  unfold execOp
  cases op <;> dsimp only at hok ⊢ <;> try (exact absurd hok Bool.false_ne_true)
  case move x => exact SimAt.pure fun _ hl => .value ((h x (by simp [Op.operands])).le hl)
  case assign x => exact SimAt.pure fun _ hl => .value ((h x (by simp [Op.operands])).le hl)
  case pick c x y =>
    refine SimAt.bindE (sim_asBool (h c (by simp [Op.operands]))) fun ρ1 b hl => SimAt.pure fun ρ2 hl2 => .value ?_
    cases b
    · exact ((h y (by simp [Op.operands])).le hl).le hl2
    · exact ((h x (by simp [Op.operands])).le hl).le hl2
  case alloc t => exact sim_v (sim_alloc hok)
  case box t x => exact sim_v (sim_box t (h x (by simp [Op.operands])))
  case build t ps =>
    simp only [Bool.and_eq_true] at hok
    exact sim_v (sim_build hok.1 (LRm ps (fun p hp => h p.2 (by simp only [Op.operands, List.mem_toArray, List.mem_map]; exact ⟨p, by simpa using hp, rfl⟩)) hok.2))
  case buildSlice t n ps =>
    simp only [Bool.and_eq_true, decide_eq_true_eq] at hok
    exact sim_v (sim_buildSlice hok.1.2 n hok.1.1 (LRm ps (fun p hp => h p.2 (by simp only [Op.operands, List.mem_toArray, List.mem_map]; exact ⟨p, by simpa using hp, rfl⟩)) hok.2))
  case load t x => exact sim_v (sim_loadAt t (h x (by simp [Op.operands])))
  case store t x y => exact sim_u (sim_storeAt t (h x (by simp [Op.operands])) (h y (by simp [Op.operands])))
  case nilCheck x =>
    have hx := h x (by simp [Op.operands])
    generalize ev x = u at *
    generalize ev' x = v at *
    cases hx with
    | ptr0 => exact SimAt.rpanic
    | nilIface => exact SimAt.rpanic
    | nilFunc => exact SimAt.rpanic
    | func fn hf h1 h2 h3 h4 =>
      cases fn <;> first
        | exact absurd hok Bool.false_ne_true
        | exact SimAt.pure fun _ hl => .value (.func _ hf h1 h2 (fun i hi => (h3 i hi).le hl) (fun i hi => (h4 i hi).le hl))
    | agg h1 h2 => exact SimAt.pure fun _ hl => .value (VR.le hl (.agg h1 h2))
    | tuple h1 h2 => exact SimAt.pure fun _ hl => .value (VR.le hl (.tuple h1 h2))
    | iface t hv => exact SimAt.pure fun _ hl => .value (VR.le hl (.iface t hv))
    | slo a l c hd e => exact SimAt.pure fun _ hl => .value (VR.le hl (.slo a l c hd e))
    | any y => cases hok
    | gho n y hn hm => cases hok
    | sym n y hd hm hb => cases hok
    | chan0 => cases hok
    | _ => exact SimAt.pure fun _ hl => .value (VR.le hl (by constructor <;> assumption))
  case binOp b t x y z =>
    cases b <;> dsimp only at hok <;> try (exact absurd hok Bool.false_ne_true)
    · exact sim_v (sim_eql true t x y (h x (by simp [Op.operands])) (h y (by simp [Op.operands])) hok)
    · exact sim_v (sim_eql false t x y (h x (by simp [Op.operands])) (h y (by simp [Op.operands])) hok)
  case makeInterface t x => exact sim_v (sim_makeInterface t (h x (by simp [Op.operands])))
  case makeFunc fn xs ys => exact sim_v (sim_makeFunc fn hok (AR.map fun x hx => h x (by simp [Op.operands, hx])) (AR.map fun x hx => h x (by simp [Op.operands, hx])))
  case makeSlice t x y => exact sim_v (sim_makeSlice hok (h x (by simp [Op.operands])) (h y (by simp [Op.operands])))
  case slice t x lo hi mx =>
    simp only [Bool.and_eq_true] at hok
    exact sim_v (sim_sliceAt t (h x (by simp [Op.operands])) hok.1 hok.2 (opt lo fun y hy => h y (by simp [Op.operands, hy])) (opt hi fun y hy => h y (by simp [Op.operands, hy])) (opt mx fun y hy => h y (by simp [Op.operands, hy])))
  case fieldAddr s x f => exact sim_v (sim_fieldAt hok (h x (by simp [Op.operands])))
  case field s x f => exact sim_v (sim_field s (h x (by simp [Op.operands])) f)
  case indexAddr t x y => exact sim_v (sim_indexAt t (h x (by simp [Op.operands])) (h y (by simp [Op.operands])))
  case index t x y => exact sim_v (sim_index t (h x (by simp [Op.operands])) (h y (by simp [Op.operands])))
  case typeAssert x s t ok => exact sim_v (sim_typeAssert (h x (by simp [Op.operands])) s hok ok)
  case extract x i => exact sim_v (sim_extract (h x (by simp [Op.operands])) i)
  case call c =>
    cases hc : c.callee with
    | value x =>
      rw [hc] at hok
      exact sim_call hc (h x (by simp [Op.operands, Call.operands, hc])) (fun y hy => h y (by simp [Op.operands, Call.operands, hy])) hok type
    | invoke r n =>
      rw [hc] at hok
      simp only [Bool.and_eq_true] at hok
      exact sim_invoke hc (h r (by simp [Op.operands, Call.operands, hc])) (fun y hy => h y (by simp [Op.operands, Call.operands, hy])) hok.1 hok.2 type
    | builtin b =>
      rw [hc] at hok
      cases b <;> dsimp only at hok <;> first
        | exact absurd hok Bool.false_ne_true
        | exact sim_lenC hc (fun y hy => h y (by simp [Op.operands, Call.operands, hy])) (by rw [Bool.and_eq_true] at hok; exact of_decide_eq_true hok.1) type
        | exact sim_clearC hc (fun y hy => h y (by simp [Op.operands, Call.operands, hy])) (by simp only [Bool.and_eq_true, decide_eq_true_eq] at hok; exact hok.1) (by simp only [Bool.and_eq_true] at hok; exact hok.2) type
        | exact sim_capC hc (fun y hy => h y (by simp [Op.operands, Call.operands, hy])) hok type
        | exact sim_copyC hc (fun y hy => h y (by simp [Op.operands, Call.operands, hy])) (of_decide_eq_true hok) type
  case convert s d x =>
    simp only [Bool.and_eq_true] at hok
    exact sim_v (sim_convBS hok.1 (h x (by simp [Op.operands])) hok.2)
  case makeMap t r => exact sim_v (sim_makeMap t (opt r fun y hy => h y (by simp [Op.operands, hy])))
  case range t x => exact sim_v (sim_range t (h x (by simp [Op.operands])))
  case next x s => exact sim_v (sim_next (h x (by simp [Op.operands])) s type)
  case lookup t x k c =>
    simp only [Bool.and_eq_true] at hok
    rw [simpK_VR hok.1 (h k (by simp [Op.operands]))]
    exact sim_v (sim_lookup t (h x (by simp [Op.operands])) hok.1 c hok.2)
  case insert t m k x =>
    rw [simpK_VR hok (h k (by simp [Op.operands]))]
    exact sim_u (sim_mapUpdate t (h m (by simp [Op.operands])) hok (h x (by simp [Op.operands])))
  case mapUpdate t m k x =>
    rw [simpK_VR hok (h k (by simp [Op.operands]))]
    exact sim_u (sim_mapUpdate t (h m (by simp [Op.operands])) hok (h x (by simp [Op.operands])))
end
end Mo

namespace Mo
open Go

/-! ## What is yielded hangs on what is looked at -/
structure Mono (W W' : Tw) : Prop where
  nx : W.nx ≤ W'.nx
  lim : W'.lim = W.lim
  rd : ∀ n, W.rd.has n = true → W'.rd.has n = true
  wr : ∀ n, W.wr.has n = true → W'.wr.has n = true
  room : W.nx ≤ W.lim → W'.nx ≤ W'.lim
theorem Mono.refl (W : Tw) : Mono W W := ⟨Nat.le_refl _, rfl, fun _ h => h, fun _ h => h, fun h => h⟩
theorem Mono.trans {W W' W'' : Tw} (h : Mono W W') (h' : Mono W' W'') : Mono W W'' :=
  ⟨Nat.le_trans h.nx h'.nx, h'.lim.trans h.lim, fun n k => h'.rd n (h.rd n k), fun n k => h'.wr n (h.wr n k), fun k => h'.room (h.room k)⟩
theorem Mono.read (W : Tw) {n : Nat} (hn : n < 2 ^ 63) : Mono W (W.read n) := ⟨Nat.le_refl _, rfl, fun i h => by
  show (W.rd.add n).has i = true
  rw [Lg.has_add, h]; rfl, fun _ h => h, fun h => h⟩
theorem Mono.wrote (W : Tw) {n : Nat} (hn : n < 2 ^ 63) (r : Option Row) : Mono W ((W.set n r).wrote n) := ⟨Nat.le_refl _, rfl, fun _ h => h, fun i h => by
  show (W.wr.add n).has i = true
  rw [Lg.has_add, h]; rfl, fun h => h⟩
theorem Mono.nxt (W : Tw) {q : Row} {n : Nat} {W' : Tw} (h : W.lay q = some (n, W')) : Mono W W' := by
  obtain ⟨h1, rfl, rfl⟩ := lay_some h
  exact ⟨Nat.le_succ _, rfl, fun _ h => h, fun i hi => by
    show (W.wr.add W.nx).has i = true
    rw [Lg.has_add, hi]; rfl, fun _ => h1⟩

/-- Touched: read or written. -/
def Tw.touched (W : Tw) (n : Nat) : Prop := W.rd.has n = true ∨ W.wr.has n = true
/-- Changed: written, or new. -/
def chg (_W W' : Tw) (n : Nat) : Prop := W'.wr.has n = true

/-- A store that is alike where it is touched. -/
structure Like (W W' V : Tw) : Prop where
  nx : V.nx = W.nx
  rd : V.rd = W.rd
  wr : V.wr = W.wr
  room : W'.nx ≤ V.lim
  at' : ∀ n, W'.touched n → V.get n = W.get n
  atw : ∀ n, W.wr.has n = true → V.get n = W.get n
/-- The same from another store that is alike where it is touched. -/
structure Loc (W W' V V' : Tw) : Prop where
  nx : V'.nx = W'.nx
  lim : V'.lim = V.lim
  rd : V'.rd = W'.rd
  wr : V'.wr = W'.wr
  got : ∀ n, chg W W' n → V'.get n = W'.get n
  kept : ∀ n, ¬ chg W W' n → V'.get n = V.get n
  keptW : ∀ n, ¬ chg W W' n → W'.get n = W.get n
/-- What a computation yields hangs on what it touches. -/
structure Local {α : Type} (F : Tw → Option (α × Tw)) : Prop where
  mono : ∀ {W W' a}, F W = some (a, W') → Mono W W'
  loc : ∀ {W W' V a}, F W = some (a, W') → Like W W' V → ∃ V', F V = some (a, V') ∧ Loc W W' V V'

theorem Loc.refl {W V : Tw} (h : Like W W V) : Loc W W V V :=
  ⟨h.nx, rfl, h.rd, h.wr, fun n hc => h.atw n hc, fun _ _ => rfl, fun _ _ => rfl⟩
theorem Like.head {W W1 W2 V : Tw} (_h1 : Mono W W1) (h2 : Mono W1 W2) (h : Like W W2 V) : Like W W1 V :=
  ⟨h.nx, h.rd, h.wr, Nat.le_trans h2.nx h.room, fun n hn => h.at' n (hn.imp (h2.rd n) (h2.wr n)), h.atw⟩
theorem Like.tail {W W1 W2 V V1 : Tw} (_h1 : Mono W W1) (h : Like W W2 V) (hl : Loc W W1 V V1) : Like W1 W2 V1 := by
  refine ⟨hl.nx, hl.rd, hl.wr, by rw [hl.lim]; exact h.room, fun n hn => ?_, fun n hn => hl.got n hn⟩
  by_cases hc : chg W W1 n
  · exact hl.got n hc
  · rw [hl.kept n hc, hl.keptW n hc]; exact h.at' n hn
theorem Loc.trans {W W1 W2 V V1 V2 : Tw} (_m1 : Mono W W1) (m2 : Mono W1 W2) (h1 : Loc W W1 V V1) (h2 : Loc W1 W2 V1 V2) : Loc W W2 V V2 := by
  have sub : ∀ n, ¬ chg W W2 n → ¬ chg W W1 n := fun n hn hc => hn (m2.wr n hc)
  refine ⟨h2.nx, h2.lim.trans h1.lim, h2.rd, h2.wr, fun n hc => h2.got n hc, fun n hc => ?_, fun n hc => ?_⟩
  · rw [h2.kept n hc, h1.kept n (sub n hc)]
  · rw [h2.keptW n hc, h1.keptW n (sub n hc)]

section
variable {α β : Type}
theorem Local.ret (a : α) : Local (fun W => some (a, W)) :=
  ⟨fun h => by cases h; exact .refl _, fun h hl => by cases h; exact ⟨_, rfl, .refl hl⟩⟩
theorem Local.fails : Local (fun _ => (none : Option (α × Tw))) := ⟨fun h => by (cases h), fun h _ => by (cases h)⟩
theorem Local.bind {F : Tw → Option (α × Tw)} {G : α → Tw → Option (β × Tw)} (hF : Local F) (hG : ∀ a, Local (G a)) : Local (fun W => (F W).bind fun p => G p.1 p.2) := by
  refine ⟨fun {W W' b} h => ?_, fun {W W' V b} h hl => ?_⟩
  · cases hf : F W with
    | none => simp only [hf] at h; cases h
    | some p => simp only [hf, Option.bind_some] at h; exact (hF.mono hf).trans ((hG _).mono h)
  · cases hf : F W with
    | none => simp only [hf] at h; cases h
    | some p =>
      obtain ⟨a, W1⟩ := p
      simp only [hf, Option.bind_some] at h
      have m1 := hF.mono hf
      have m2 := (hG _).mono h
      obtain ⟨V1, e1, e2⟩ := hF.loc hf (hl.head m1 m2)
      obtain ⟨V2, e3, e4⟩ := (hG _).loc h (hl.tail m1 e2)
      exact ⟨V2, by simp only [e1, Option.bind_some]; exact e3, e2.trans m1 m2 e4⟩
theorem Local.congr {F G : Tw → Option (α × Tw)} (h : ∀ W, F W = G W) (hG : Local G) : Local F := by
  have : F = G := funext h
  rw [this]; exact hG

/-! ### The single steps -/
theorem Local.look (n : Nat) : Local (Tw.look n) := by
  refine ⟨fun {W W' a} h => ?_, fun {W W' V a} h hl => ?_⟩
  · obtain ⟨h1, rfl⟩ := look_some h
    exact Mono.read W (Tw.get_lt h1)
  · obtain ⟨h1, rfl⟩ := look_some h
    have hn := Tw.get_lt h1
    have hb : V.get n = W.get n := hl.at' n (.inl (by show (W.rd.add n).has n = true; rw [Lg.has_add]; simp))
    refine ⟨V.read n, by rw [look_eq, hb, h1], ⟨hl.nx, rfl, by show V.rd.add n = W.rd.add n; rw [hl.rd], hl.wr, fun i hc => hl.atw i hc, fun _ _ => rfl, fun _ _ => rfl⟩⟩
theorem Local.upd (n : Nat) (f : Row → Option (Option Row)) : Local (Tw.upd n f) := by
  refine ⟨fun {W W' a} h => ?_, fun {W W' V a} h hl => ?_⟩
  · obtain ⟨r, q, h1, h2, rfl⟩ := upd_some h
    exact Mono.wrote W (Tw.get_lt h1) q
  · obtain ⟨r, q, h1, h2, rfl⟩ := upd_some h
    have hn := Tw.get_lt h1
    have hw : ((W.set n q).wrote n).wr.has n = true := by show (W.wr.add n).has n = true; rw [Lg.has_add]; simp
    have hb : V.get n = W.get n := hl.at' n (.inr hw)
    have hWg : ∀ i, ((W.set n q).wrote n).get i = if i = n then q else W.get i := Tw.get_set W hn q
    have hVg : ∀ i, ((V.set n q).wrote n).get i = if i = n then q else V.get i := Tw.get_set V hn q
    refine ⟨(V.set n q).wrote n, by rw [upd_eq, hb, h1]; simp only [h2], ⟨hl.nx, rfl, hl.rd, by show V.wr.add n = W.wr.add n; rw [hl.wr], fun i hc => ?_, fun i hc => ?_, fun i hc => ?_⟩⟩
    · rw [hWg, hVg]
      split
      · rfl
      · rename_i hne
        refine hl.atw i ?_
        have hc' : (W.wr.add n).has i = true := hc
        rw [Lg.has_add] at hc'
        simpa [hne] using hc'
    · rw [hVg, if_neg (fun (he : i = n) => hc (he ▸ hw))]
    · rw [hWg, if_neg (fun (he : i = n) => hc (he ▸ hw))]
theorem Local.lay (q : Row) : Local (Tw.lay q) := by
  refine ⟨fun {W W' a} h => Mono.nxt W h, fun {W W' V a} h hl => ?_⟩
  have hn := lay_lt h
  obtain ⟨h1, rfl, rfl⟩ := lay_some h
  have hroom : W.nx + 1 ≤ V.lim := hl.room
  have hw : (Tw.wrote { W.set W.nx (some q) with nx := W.nx + 1 } W.nx).wr.has W.nx = true := by show (W.wr.add W.nx).has W.nx = true; rw [Lg.has_add]; simp
  have hWg : ∀ i, (Tw.wrote { W.set W.nx (some q) with nx := W.nx + 1 } W.nx).get i = if i = W.nx then some q else W.get i := Tw.get_set W hn _
  have hVg : ∀ i, (Tw.wrote { V.set W.nx (some q) with nx := W.nx + 1 } W.nx).get i = if i = W.nx then some q else V.get i := Tw.get_set V hn _
  refine ⟨Tw.wrote { V.set W.nx (some q) with nx := W.nx + 1 } W.nx, ?_, ⟨rfl, rfl, hl.rd, by show V.wr.add W.nx = W.wr.add W.nx; rw [hl.wr], fun i hc => ?_, fun i hc => ?_, fun i hc => ?_⟩⟩
  · rw [lay_eq, hl.nx, if_pos (by rw [Bool.and_eq_true, Nat.blt_eq]; exact ⟨by omega, ble_top.2 hn⟩)]
  · rw [hWg, hVg]
    split
    · rfl
    · rename_i hne
      refine hl.atw i ?_
      have hc' : (W.wr.add W.nx).has i = true := hc
      rw [Lg.has_add] at hc'
      simpa [hne] using hc'
  · rw [hVg, if_neg (fun (he : i = W.nx) => hc (he ▸ hw))]
  · rw [hWg, if_neg (fun (he : i = W.nx) => hc (he ▸ hw))]
theorem Local.map {F : Tw → Option (α × Tw)} (hF : Local F) (g : α → Option β) : Local (fun W => (F W).bind fun p => (g p.1).map fun b => (b, p.2)) := by
  refine Local.congr (fun W => rfl) (Local.bind (G := fun a W => (g a).map fun b => (b, W)) hF fun a => ?_)
  cases g a with
  | none => exact Local.fails
  | some b => exact Local.ret b

variable {P : Program}
theorem Local.cellT (a : Addr) : Local (Mo.cellT a) := by
  cases hs : a.spot with
  | none =>
    refine Local.congr (fun W => ?_) (Local.map (Local.look a.block) fun r => match r.ob with
      | none => getL r.cs a.off
      | some .v => getL r.cs a.off
      | some _ => none)
    simp only [Mo.cellT, hs]
    cases W.look a.block with
    | none => rfl
    | some p =>
      simp only [Option.bind_some]
      cases p.1.ob with
      | none => rfl
      | some o => cases o <;> rfl
  | some s => exact Local.congr (fun W => by simp [Mo.cellT, hs]) Local.fails
theorem Local.setT (a : Addr) (v : Value) : Local (Mo.setT a v) := by
  unfold Mo.setT
  cases hs : a.spot with
  | none => exact Local.upd a.block _
  | some s => exact Local.fails
theorem Local.newT (o : Obj) : Local (Mo.newT o) := by
  unfold Mo.newT
  cases o
  case cells c e f =>
    by_cases h : (f.1 == 0 && f.2 == 0 && oneC c.toList) = true
    · simp only [h, if_true]; exact Local.lay _
    · simp only [h]; exact Local.fails
  case stringIter s p => simp only [obOk, if_true]; exact Local.lay _
  case map es c => simp only [obOk, if_true]; exact Local.lay _
  case loop r => simp only [obOk, if_true]; exact Local.lay _
  case deferred r => simp only [obOk, if_true]; exact Local.lay _
  all_goals exact Local.fails
theorem Local.shapeT (n : Nat) : Local (Mo.shapeT n) := by
  refine Local.congr (fun W => ?_) (Local.map (Local.look n) fun r => match r.ob, r.op with
    | none, false => some (some (r.elem, r.cs.length))
    | _, _ => none)
  simp only [Mo.shapeT]
  cases W.look n with
  | none => rfl
  | some p =>
    simp only [Option.bind_some]
    cases p.1.ob <;> cases p.1.op <;> rfl
theorem Local.killT (n : Nat) : Local (Mo.killT n) := Local.upd n _
theorem Local.frozenT (a : Addr) : Local (Mo.frozenT a) := by
  refine Local.congr (fun W => ?_) (Local.map (Local.look a.block) fun r => match r.ob with
    | none => if a.off < r.cs.length then some false else none
    | some _ => none)
  simp only [Mo.frozenT]
  cases W.look a.block with
  | none => rfl
  | some p =>
    simp only [Option.bind_some]
    cases p.1.ob with
    | none => dsimp only; split <;> rfl
    | some o => rfl
theorem Local.getOT (n : Nat) : Local (Mo.getOT n) := Local.map (Local.look n) fun r => asO r.ob
theorem Local.setOT (n : Nat) (o : Obj) : Local (Mo.setOT n o) := Local.upd n _

theorem runT_local (s : Sem α) : Local (runT P s) := by
  induction s with
  | pure a => exact Local.ret a
  | load m a k ih => exact Local.bind (Local.cellT a) ih
  | store m a v k ih => exact Local.bind (Local.setT a v) fun _ => ih
  | new o k ih => exact Local.bind (Local.newT o) ih
  | shape r k ih => exact Local.bind (Local.shapeT r) ih
  | freeze a n k ih => exact Local.bind (Local.killT a.block) fun _ => ih
  | frozen a k ih => exact Local.bind (Local.frozenT a) ih
  | getObj r k ih => exact Local.bind (Local.getOT r) ih
  | setObj r o k ih => exact Local.bind (Local.setOT r o) fun _ => ih
  | choose q k ih => exact Local.fails
  | sys c k ih => exact Local.fails
  | program k ih => exact ih P
  | mark m k ih => exact ih
  | halt h => exact Local.fails
end
end Mo

namespace Mo
open Go

/-! ## Many cells of one block -/
noncomputable def setA : Array Value → Nat → List Value → Array Value
  | c, _, [] => c
  | c, o, v :: r => setA (c.setIfInBounds o v) (o + 1) r
theorem size_setA : ∀ (vs : List Value) (c : Array Value) (o : Nat), (setA c o vs).size = c.size
  | [], _, _ => rfl
  | v :: r, c, o => by rw [setA, size_setA r]; simp
theorem getD_setA : ∀ (vs : List Value) (c : Array Value) (o i : Nat), o + vs.length ≤ c.size → (setA c o vs).getD i undef = if h : o ≤ i ∧ i < o + vs.length then vs[i - o]'(by omega) else c.getD i undef
  | [], c, o, i, _ => by
    rw [dif_neg (by simp only [List.length_nil]; omega)]; rfl
  | v :: r, c, o, i, h => by
    simp only [List.length_cons] at h
    rw [setA, getD_setA r _ _ _ (by simp; omega)]
    by_cases h1 : o + 1 ≤ i ∧ i < o + 1 + r.length
    · rw [dif_pos h1, dif_pos (by simp only [List.length_cons]; omega)]
      have e : i - o = (i - (o + 1)) + 1 := by omega
      simp only [e, List.getElem_cons_succ]
    · rw [dif_neg h1]
      by_cases h2 : i = o
      · subst h2
        rw [dif_pos (by simp only [List.length_cons]; omega)]
        have hi : i < c.size := by omega
        simp [Array.getD, hi]
      · rw [dif_neg (by simp only [List.length_cons]; omega), Array.getD_eq_getD_getElem?, Array.getD_eq_getD_getElem?, Array.getElem?_setIfInBounds_ne (by omega)]
theorem setCells_at (b : Nat) : ∀ (vs : List Value) (o : Nat) (w : World) {c : Array Value} {e : TypeId} {f : Nat × Nat}, w.heap[b]? = some (.cells c e f) → (w.setCells b o vs).heap[b]? = some (.cells (setA c o vs) e f)
  | [], _, _, _, _, _, h => h
  | v :: r, o, w, c, e, f, h => by
    rw [World.setCells, setA]
    refine setCells_at b r (o + 1) _ ?_
    simp [World.setCell, Array.getElem?_modify, h]
theorem setCells_rest (b : Nat) : ∀ (vs : List Value) (o : Nat) (w : World), (w.setCells b o vs).os = w.os ∧ (w.setCells b o vs).tape = w.tape ∧ (w.setCells b o vs).output = w.output ∧ (w.setCells b o vs).heap.size = w.heap.size ∧ ∀ c, c ≠ b → (w.setCells b o vs).heap[c]? = w.heap[c]?
  | [], _, _ => ⟨rfl, rfl, rfl, rfl, fun _ _ => rfl⟩
  | v :: r, o, w => by
    obtain ⟨h1, h2, h3, h4, h5⟩ := setCells_rest b r (o + 1) (w.setCell ⟨b, o, none⟩ v)
    rw [World.setCells]
    refine ⟨h1, h2, h3, by rw [h4]; simp [World.setCell], fun c hc => ?_⟩
    rw [h5 c hc]
    simp only [World.setCell]
    rw [Array.getElem?_modify, if_neg (Ne.symm hc)]

/-! ## Cells of a row -/
noncomputable def takeL : List Value → Nat → Option (List Value)
  | _, 0 => some []
  | [], _ + 1 => none
  | x :: r, n + 1 => match takeL r n with
    | some l => some (x :: l)
    | none => none
theorem takeL_some : ∀ {l : List Value} {n : Nat} {vs : List Value}, takeL l n = some vs → vs.length = n ∧ n ≤ l.length ∧ ∀ i (h : i < vs.length) (h' : i < l.length), vs[i] = l[i]
  | l, 0, vs, h => by
    unfold takeL at h
    cases h
    exact ⟨rfl, Nat.zero_le _, fun i h => absurd h (by simp)⟩
  | [], _ + 1, vs, h => by cases h
  | x :: r, n + 1, vs, h => by
    unfold takeL at h
    split at h
    · rename_i l hl
      cases h
      obtain ⟨h1, h2, h3⟩ := takeL_some hl
      refine ⟨by simp [h1], by simp; omega, fun i h h' => ?_⟩
      cases i with
      | zero => rfl
      | succ i => simp only [List.getElem_cons_succ]; exact h3 i _ _
    · cases h
/-- Cells that may be read. -/
def rdOb : Option Ob → Bool
  | none => true
  | some .v => true
  | _ => false
theorem rdOb_or {o : Option Ob} (h : rdOb o = true) : o = none ∨ o = some .v := by
  unfold rdOb at h
  split at h
  · exact .inl rfl
  · exact .inr rfl
  · cases h
noncomputable def cellsT (a : Addr) (k : Nat) (W : Tw) : Option (List Value × Tw) := match a.spot with
  | none => (W.look a.block).bind fun p => (match rdOb p.1.ob with
    | true => takeL (p.1.cs.drop a.off) k
    | false => none).map fun vs => (vs, p.2)
  | some _ => none
theorem cellsT_some {a : Addr} {k : Nat} {W W' : Tw} {vs : List Value} (h : cellsT a k W = some (vs, W')) : ∃ r, a.spot = none ∧ W.get a.block = some r ∧ (r.ob = none ∨ r.ob = some .v) ∧ takeL (r.cs.drop a.off) k = some vs ∧ W' = W.read a.block := by
  unfold cellsT at h
  split at h
  · rename_i hs
    cases hl : W.look a.block with
    | none => rw [hl] at h; cases h
    | some p =>
      obtain ⟨r, W1⟩ := p
      rw [hl] at h
      obtain ⟨h1, rfl⟩ := look_some hl
      simp only [Option.bind_some] at h
      cases ho : rdOb r.ob with
      | true =>
        rw [ho] at h
        simp only at h
        cases hg : takeL (r.cs.drop a.off) k with
        | none => rw [hg] at h; cases h
        | some u => rw [hg] at h; cases h; exact ⟨r, hs, h1, rdOb_or ho, hg, rfl⟩
      | false => rw [ho] at h; cases h
  · cases h
theorem Local.cellsT (a : Addr) (k : Nat) : Local (Mo.cellsT a k) := by
  unfold Mo.cellsT
  cases hs : a.spot with
  | none => exact Local.map (Local.look a.block) fun r => match rdOb r.ob with
      | true => takeL (r.cs.drop a.off) k
      | false => none
  | some s => exact Local.fails
/-- Values beside values. -/
structure LR' (ρ : Ren) (vs us : List Value) : Prop where
  len : vs.length = us.length
  at' : ∀ i (h : i < vs.length) (h' : i < us.length), VR ρ vs[i] us[i]
theorem LR'.le {ρ ρ' : Ren} (hl : ρ.le ρ') {vs us : List Value} (h : LR' ρ vs us) : LR' ρ' vs us := ⟨h.len, fun i h1 h2 => (h.at' i h1 h2).le hl⟩
theorem LR'.append {ρ : Ren} {vs us vs' us' : List Value} (h : LR' ρ vs us) (h' : LR' ρ vs' us') : LR' ρ (vs ++ vs') (us ++ us') := by
  have hl := h.len
  have hl' := h'.len
  refine ⟨by simp [hl, hl'], fun i h1 h2 => ?_⟩
  by_cases hi : i < vs.length
  · rw [List.getElem_append_left hi, List.getElem_append_left (by omega)]
    exact h.at' _ _ _
  · simp only [List.length_append] at h1 h2
    rw [List.getElem_append_right (by omega), List.getElem_append_right (by omega)]
    have := h'.at' (i - vs.length) (by omega) (by omega)
    simp only [hl] at this ⊢
    exact this
section
variable {P : Program} {w0 : Bs} {ρ : Ren}
theorem cellsT_sound {W W' : Tw} {w : World} (h : WR w0 ρ W w) {a : Addr} {k : Nat} {vs : List Value} (hc : cellsT a k W = some (vs, W')) :
    ∃ us, LR' ρ vs us ∧ vs.length = k ∧ ∀ j u, us[j]? = some u → w.cell? ((ρ.adr a).add j) = some u := by
  obtain ⟨r, hs, hg, ho, ht, rfl⟩ := cellsT_some hc
  obtain ⟨t1, t2, t3⟩ := takeL_some ht
  have t2' : k ≤ r.cs.length - a.off := by simpa using t2
  have hadd : ∀ j, (ρ.adr a).add j = ⟨ρ.b a.block, ρ.s a.block + a.off + j, none⟩ := by
    intro j
    unfold Addr.add
    split
    · rename_i h0
      subst h0
      simp [Ren.adr, hs]
    · simp [Ren.adr]
  rcases ho with ho | ho
  rotate_left
  · have hel := (h.row _ _ hg).el ho
    have key : ∀ j, ∃ y, j < k → (w.cell? ⟨ρ.b a.block, ρ.s a.block + a.off + j, none⟩ = some y ∧ ∀ (h : j < vs.length), VR ρ vs[j] y) := by
      intro j
      by_cases hj : j < k
      · obtain ⟨y, y1, y2⟩ := hel (a.off + j) (by omega)
        obtain ⟨c, e, m, c1, c2⟩ := h.prw _ _ _ y1
        refine ⟨y, fun _ => ⟨?_, fun hlt => ?_⟩⟩
        · unfold World.cell?
          simp only [c1]
          rw [Nat.add_assoc]; exact c2
        · rw [t3 j hlt (by simp; omega), List.getElem_drop]
          exact y2
      · exact ⟨undef, fun h => absurd h hj⟩
    refine ⟨(List.range k).map fun j => Classical.choose (key j), ⟨by simp [t1], fun i h7 h8 => ?_⟩, t1, fun j u hj => ?_⟩
    · simp only [List.getElem_map, List.getElem_range]
      exact (Classical.choose_spec (key i) (by omega)).2 h7
    · have hj' : j < k := by
        have := (List.getElem?_eq_some_iff.1 hj).1
        simpa using this
      have hju : u = Classical.choose (key j) := by
        rw [List.getElem?_map, List.getElem?_range hj'] at hj
        exact (Option.some.inj hj).symm
      rw [hadd, hju]
      exact (Classical.choose_spec (key j) hj').1
  obtain ⟨c, lo, hi, h1, h2, h3, h4, h5, h6⟩ := (h.row _ _ hg).row ho
  refine ⟨(List.range k).map fun j => c.getD (ρ.s a.block + a.off + j) undef, ⟨by simp [t1], fun i h7 h8 => ?_⟩, t1, fun j u hj => ?_⟩
  · have hi' : i < k := by omega
    have hlt : a.off + i < r.cs.length := by omega
    simp only [List.getElem_map, List.getElem_range]
    rw [t3 i h7 (by simp; omega), List.getElem_drop, Nat.add_assoc]
    exact h4 (a.off + i) hlt
  · have hj' : j < k := by
      have := (List.getElem?_eq_some_iff.1 hj).1
      simpa using this
    have hju : u = c.getD (ρ.s a.block + a.off + j) undef := by
      have h9 := hj
      rw [Array.getD_eq_getD_getElem?]
      simp [hj'] at h9
      exact h9.symm
    subst hju
    have hlt : ρ.s a.block + a.off + j < c.size := by omega
    rw [hadd]
    unfold World.cell?
    simp [h1, Array.getD, hlt]
end
end Mo

namespace Mo
open Go

/-! ## append -/
noncomputable def setLs (cs : List Value) (o : Nat) (vs : List Value) : List Value := cs.take o ++ (vs ++ cs.drop (o + vs.length))
theorem setLs_length {cs vs : List Value} {o : Nat} (h : o + vs.length ≤ cs.length) : (setLs cs o vs).length = cs.length := by
  simp [setLs]; omega
theorem setLs_get {cs vs : List Value} {o : Nat} (h : o + vs.length ≤ cs.length) (i : Nat) (hi : i < (setLs cs o vs).length) (hi' : i < cs.length) :
    (setLs cs o vs)[i] = if h : o ≤ i ∧ i < o + vs.length then vs[i - o]'(by omega) else cs[i] := by
  have e1 : (cs.take o).length = o := by simp; omega
  generalize e0 : setLs cs o vs = l at hi
  unfold setLs at e0
  subst e0
  by_cases h1 : i < o
  · rw [dif_neg (by omega), List.getElem_append_left (by omega), List.getElem_take]
  · rw [List.getElem_append_right (by omega)]
    by_cases h2 : i < o + vs.length
    · rw [dif_pos (by omega), List.getElem_append_left (by omega)]
      congr 1; omega
    · rw [dif_neg (by omega), List.getElem_append_right (by omega), List.getElem_drop]
      congr 1; omega
/-- What the second argument yields. -/
noncomputable def srcT (z : Nat) (x : Value) (W : Tw) : Option ((Nat × List Value) × Tw) := match x with
  | .slice none n _ => if n = 0 then some ((0, []), W) else none
  | .slice (some a) n _ => (cellsT a (n * z) W).bind fun p => (if p.1.all one then some (n, p.1) else none).map fun b => (b, p.2)
  | .string s => if z = 1 then some ((s.size, byteCells s), W) else none
  | _ => none
theorem Local.srcT (z : Nat) (x : Value) : Local (Mo.srcT z x) := by
  unfold Mo.srcT
  cases x with
  | slice b n c =>
    cases b with
    | none => dsimp only; split; exact Local.ret _; exact Local.fails
    | some a => exact Local.map (Local.cellsT a (n * z)) fun vs => if vs.all one then some (n, vs) else none
  | string s => dsimp only; split; exact Local.ret _; exact Local.fails
  | _ => exact Local.fails
/-- The kinds of its arguments: the element's, what it is and its zero value's size. -/
noncomputable def appInfo (P : Program) (ats : Array TypeId) : Option (TypeId × TypeInfo) := match ats.toList with
  | [t, tx] => match P.underlying t with
    | some (.slice e) => match P.info? e with
      | some i => match i.zero with
        | some z => if z.cells.size = i.size then (match P.underlying tx with
            | some (.slice _) => some (e, i)
            | some .string => some (e, i)
            | _ => none) else none
        | none => none
      | none => none
    | _ => none
  | _ => none
/-- There is room. -/
noncomputable def roomT (a : Addr) (o : Nat) (news : List Value) (W : Tw) : Option (Unit × Tw) := match a.spot with
  | none => W.upd a.block fun r => match r.ob with
    | none => if a.off + o + news.length ≤ r.cs.length then some (some { r with cs := setLs r.cs (a.off + o) news }) else none
    | some _ => none
  | some _ => none
/-- A grown row is forgotten. -/
noncomputable def killZ (n z e : Nat) (W : Tw) : Option (Unit × Tw) := W.upd n fun r => match r.ob with
  | none => if r.op && decide (r.z = z) && decide (r.elem = e) then some none else none
  | some _ => none
theorem killZ_some {n z e : Nat} {W W' : Tw} {u : Unit} (h : killZ n z e W = some (u, W')) : ∃ r, W.get n = some r ∧ r.ob = none ∧ r.op = true ∧ r.z = z ∧ r.elem = e ∧ W' = (W.set n none).wrote n := by
  obtain ⟨r, q, h1, h2, h3⟩ := upd_some h
  split at h2
  · rename_i ho
    split at h2
    · rename_i hc
      simp only [Bool.and_eq_true, decide_eq_true_eq] at hc
      cases h2; exact ⟨r, h1, ho, hc.1.1, hc.1.2, hc.2, h3⟩
    · cases h2
  · cases h2
theorem Local.killZ (n z e : Nat) : Local (Mo.killZ n z e) := Local.upd n _
noncomputable def growT (e : TypeId) (z : Nat) (olds news : List Value) (need : Nat) (W : Tw) : Option (Value × Tw) :=
  if (olds ++ news).length = need * z then (W.lay ⟨olds ++ news, e, true, z, none⟩).bind fun p => some (.slice (some ⟨p.1, 0, none⟩) need (big + need), p.2) else none
noncomputable def appN (e : TypeId) (i : TypeInfo) (base : Option Addr) (l c n : Nat) (news : List Value) (W : Tw) : Option (Value × Tw) :=
  let need := l + n
  if c < big then
    if need ≤ c then match base with
      | none => if news.isEmpty then some (.slice none need c, W) else none
      | some a => (roomT a (l * i.size) news W).bind fun q => some (.slice (some a) need c, q.2)
    else if need ≤ 1099511627776 && decide (need * i.bytes ≤ 140737488355328) then match base with
      | none => if l = 0 then growT e i.size [] news need W else none
      | some a => (cellsT a (l * i.size) W).bind fun q => growT e i.size q.1 news need q.2
    else none
  else match base with
    | none => none
    | some a =>
      if need ≤ c - big then (roomT a (l * i.size) news W).bind fun q => some (.slice (some a) need c, q.2)
      else if need ≤ 1099511627776 && decide (need * i.bytes ≤ 140737488355328) then
        (cellsT a (l * i.size) W).bind fun q => (killZ a.block i.size e q.2).bind fun k => growT e i.size q.1 news need k.2
      else none
noncomputable def appT (P : Program) (ats : Array TypeId) (s x : Value) (W : Tw) : Option (Value × Tw) := match appInfo P ats with
  | none => none
  | some (e, i) => match s with
    | .slice base l c => (srcT i.size x W).bind fun p => appN e i base l c p.1.1 p.1.2 p.2
    | _ => none

theorem Local.roomT (a : Addr) (o : Nat) (news : List Value) : Local (Mo.roomT a o news) := by
  unfold Mo.roomT
  cases hs : a.spot with
  | none => exact Local.upd a.block _
  | some s => exact Local.fails
theorem Local.growT (e : TypeId) (z : Nat) (olds news : List Value) (need : Nat) : Local (Mo.growT e z olds news need) := by
  unfold Mo.growT
  split
  · exact Local.bind (Local.lay _) fun n => Local.ret (Value.slice (some ⟨n, 0, none⟩) need (big + need))
  · exact Local.fails
theorem Local.appN (e : TypeId) (i : TypeInfo) (base : Option Addr) (l c n : Nat) (news : List Value) : Local (Mo.appN e i base l c n news) := by
  unfold Mo.appN
  dsimp only
  split
  · split
    · cases base with
      | none => dsimp only; split; exact Local.ret _; exact Local.fails
      | some a => exact Local.bind (Local.roomT a _ _) fun _ => Local.ret (Value.slice (some a) (l + n) c)
    · split
      · cases base with
        | none => dsimp only; split; exact Local.growT e _ _ _ _; exact Local.fails
        | some a => exact Local.bind (Local.cellsT a _) fun vs => Local.growT e _ vs _ _
      · exact Local.fails
  · cases base with
    | none => exact Local.fails
    | some a =>
      dsimp only
      split
      · exact Local.bind (Local.roomT a _ _) fun _ => Local.ret (Value.slice (some a) (l + n) c)
      · split
        · exact Local.bind (Local.cellsT a _) fun vs => Local.bind (Local.killZ a.block i.size e) fun _ => Local.growT e _ vs _ _
        · exact Local.fails
theorem Local.appT (P : Program) (ats : Array TypeId) (s x : Value) : Local (Mo.appT P ats s x) := by
  unfold Mo.appT
  cases appInfo P ats with
  | none => exact Local.fails
  | some p =>
    obtain ⟨e, i⟩ := p
    cases s with
    | slice base l c => exact Local.bind (Local.srcT i.size x) fun q => Local.appN e i base l c q.1 q.2
    | _ => exact Local.fails
end Mo

namespace Mo
open Go

/-! ## append is sound -/
/-- Two stores alike but for what was looked at. -/
structure Same (W W' : Tw) : Prop where
  get : ∀ n, W'.get n = W.get n
  nx : W'.nx = W.nx
  lim : W'.lim = W.lim
theorem Same.refl (W : Tw) : Same W W := ⟨fun _ => rfl, rfl, rfl⟩
theorem Same.trans {W W' W'' : Tw} (h : Same W W') (h' : Same W' W'') : Same W W'' := ⟨fun n => (h'.get n).trans (h.get n), h'.nx.trans h.nx, h'.lim.trans h.lim⟩
section
variable {P : Program} {w0 : Bs} {ρ : Ren}
theorem WR.same {W W' : Tw} {w : World} (h : WR w0 ρ W w) (hs : Same W W') : WR w0 ρ W' w := by
  have sub : ∀ {n r}, W'.get n = some r → W.get n = some r := fun hn => by rw [← hs.get]; exact hn
  exact ⟨fun n r hn => h.row n r (sub hn), fun n r hn => h.dom n r (sub hn), fun n r hn => h.mine n r (sub hn), fun n m r q hn hm => h.sep n m r q (sub hn) (sub hm), h.prw, fun n r hn => h.prd n r (sub hn), h.prn, fun n h1 h2 => h.free n (by rw [← hs.nx]; exact h1) (by rw [← hs.lim]; exact h2), by rw [hs.lim]; exact h.lim, h.small, h.os, h.tape, h.output, h.size, h.old, h.r0⟩
theorem WR.drew {W : Tw} {w : World} (h : WR w0 ρ W w) : WR w0 ρ W w.drew := by
  refine ⟨fun n r hn => (h.row n r hn).keep .rfl' (h.dom n r hn) (fun _ => rfl), h.dom, h.mine, h.sep, h.prw, h.prd, h.prn, h.free, h.lim, h.small, h.os, h.tape, h.output, h.size, h.old, h.r0⟩
theorem cellsT_same {a : Addr} {k : Nat} {W W' : Tw} {vs : List Value} (h : cellsT a k W = some (vs, W')) : Same W W' := by
  obtain ⟨r, -, -, -, -, rfl⟩ := cellsT_some h
  exact ⟨fun _ => rfl, rfl, rfl⟩
theorem LR'.refl' {vs : List Value} (h : ∀ v ∈ vs, VR ρ v v) : LR' ρ vs vs := ⟨rfl, fun i h1 _ => h _ (List.getElem_mem h1)⟩
theorem LR'.one {vs us : List Value} (h : LR' ρ vs us) (h1 : vs.all one = true) : ∀ u ∈ us, u.oneCell' = true := by
  intro u hu
  obtain ⟨i, hi, rfl⟩ := List.mem_iff_getElem.1 hu
  have hi' : i < vs.length := by rw [h.len]; exact hi
  have h2 := h.at' i hi' hi
  have h3 : Mo.one vs[i] = true := by rw [List.all_eq_true] at h1; exact h1 _ (List.getElem_mem hi')
  generalize vs[i] = v at h2 h3
  generalize us[i] = u at h2
  cases h2 with
  | any y => rw [one_D0] at h3; cases h3
  | gho n y hn hm => rw [one_gho hn] at h3; cases h3
  | sym n y hd hm hb => cases u <;> first | (cases hb; done) | rfl
  | agg _ _ => cases h3
  | tuple _ _ => cases h3
  | _ => rfl
theorem srcT_sound {z : Nat} {x y : Value} {W W' : Tw} {w : World} {n : Nat} {vs : List Value} {tx : TypeId} (h : WR w0 ρ W w) (hx : VR ρ x y) (hk : (∃ e', P.underlying tx = some (.slice e')) ∨ P.underlying tx = some .string)
    (hs : srcT z x W = some ((n, vs), W')) : ∃ us, LR' ρ vs us ∧ Src P z tx y n us w ∧ Same W W' := by
  unfold srcT at hs
  cases hx with
  | sl0 l c =>
    simp only at hs
    split at hs
    · rename_i h0
      cases hs
      subst h0
      exact ⟨[], ⟨rfl, fun i h => absurd h (by simp)⟩, ⟨hk, fun _ => rfl, run_firstCells_none w z 0 0 c, run_firstCells_none w.drew z 0 0 c, by simp, fun _ h => by cases h⟩, .refl _⟩
    · cases hs
  | sl a l c hd hb =>
    simp only at hs
    obtain ⟨us, W1, h1, h2⟩ := bind_some hs
    obtain ⟨us', k1, k2, k3⟩ := cellsT_sound h h1
    simp only at h2
    split at h2
    · rename_i ho
      cases h2
      refine ⟨us', k1, ⟨hk, fun _ => rfl, run_firstCells_some w z _ _ _ _ us' (by rw [← k1.len]; exact k2) k3, run_firstCells_some w.drew z _ _ _ _ us' (by rw [← k1.len]; exact k2) (by simpa using k3), by rw [← k1.len]; exact k2, k1.one ho⟩, cellsT_same h1⟩
    · cases h2
  | slo a l c hd e =>
    simp only at hs
    obtain ⟨us, W1, h1, h2⟩ := bind_some hs
    obtain ⟨us', k1, k2, k3⟩ := cellsT_sound h h1
    simp only at h2
    split at h2
    · rename_i ho
      cases h2
      refine ⟨us', k1, ⟨hk, fun _ => rfl, run_firstCells_some w z _ _ _ _ us' (by rw [← k1.len]; exact k2) k3, run_firstCells_some w.drew z _ _ _ _ us' (by rw [← k1.len]; exact k2) (by simpa using k3), by rw [← k1.len]; exact k2, k1.one ho⟩, cellsT_same h1⟩
    · cases h2
  | string s =>
    simp only at hs
    split at hs
    · rename_i h0
      cases hs
      subst h0
      refine ⟨byteCells s, LR'.refl' fun v hv => ?_, ⟨hk, fun _ => rfl, firstCells_string s w, firstCells_string s w.drew, by rw [byteCells_length, Nat.mul_one], fun u hu => ?_⟩, .refl _⟩
      · obtain ⟨_, _, rfl⟩ := List.mem_map.1 hv
        exact .int _ _
      · obtain ⟨_, _, rfl⟩ := List.mem_map.1 hu
        rfl
    · cases hs
  | _ => cases hs

/-- The cells behind a place are there and not frozen. -/
theorem WR.there {W : Tw} {w : World} (h : WR w0 ρ W w) {n : Nat} {r : Row} (hg : W.get n = some r) (ho : r.ob = none) : ∃ c lo hi, w.heap[ρ.b n]? = some (.cells c r.elem (lo, hi)) ∧ c.size = ρ.s n + r.cs.length + ρ.x n * ρ.z n ∧
    (∀ o, o < c.size → (w.cell? ⟨ρ.b n, o, none⟩).isSome = true ∧ w.frozen? ⟨ρ.b n, o, none⟩ = false) := by
  obtain ⟨c, lo, hi, h1, h2, h3, h4, h5, h6⟩ := (h.row _ _ hg).row ho
  refine ⟨c, lo, hi, h1, h2, fun o hlt => ⟨by simp [World.cell?, h1, hlt], ?_⟩⟩
  simp only [World.frozen?, h1]
  simp only [Bool.and_eq_false_iff, decide_eq_false_iff_not]
  omega
/-- There is room among the known cells. -/
theorem room_sound {a : Addr} {o : Nat} {vs us : List Value} {W W' : Tw} {w : World} {u : Unit} (h : WR w0 ρ W w) (hl : LR' ρ vs us) (hr : roomT a o vs W = some (u, W')) :
    a.spot = none ∧ W'.nx = W.nx ∧ W'.lim = W.lim ∧ WR w0 ρ W' (w.setCells (ρ.b a.block) (ρ.s a.block + a.off + o) us) ∧
    (∀ j, j < us.length → (w.cell? ⟨ρ.b a.block, ρ.s a.block + a.off + o + j, none⟩).isSome = true) ∧ (∀ j, j < us.length → w.frozen? ⟨ρ.b a.block, ρ.s a.block + a.off + o + j, none⟩ = false) := by
  unfold roomT at hr
  split at hr
  · rename_i hs
    obtain ⟨r, q, hg, h2, rfl⟩ := upd_some hr
    split at h2
    · rename_i ho
      split at h2
      · rename_i hc
        cases h2
        have hlen := hl.len
        obtain ⟨c, lo, hi, k1, k2, k3⟩ := h.there hg ho
        obtain ⟨c', lo', hi', m1, m2, m3, m4, m5, m6⟩ := (h.row _ _ hg).row ho
        rw [k1] at m1
        cases m1
        obtain ⟨r1, r2, r3, r4, r5⟩ := setCells_rest (ρ.b a.block) us (ρ.s a.block + a.off + o) w
        refine ⟨hs, rfl, rfl, (h.upd (q := { r with cs := setLs r.cs (a.off + o) vs }) hg (Row.phys0 ho) (RR.mk0 ho ⟨_, lo, hi, setCells_at _ _ _ _ k1, ?_, ?_, ?_, ?_, m6⟩) r5 r4 r1 r2 r3).wrote _, fun j hj => (k3 _ (by omega)).1, fun j hj => (k3 _ (by omega)).2⟩
        · rw [size_setA, setLs_length hc]; exact k2
        · rw [size_setA]; exact m3
        · intro i hi1
          have hi2 : i < r.cs.length := by rw [setLs_length hc] at hi1; exact hi1
          dsimp only at hi1 ⊢
          rw [setLs_get hc i hi1 hi2, getD_setA _ _ _ _ (by omega)]
          by_cases hin : a.off + o ≤ i ∧ i < a.off + o + vs.length
          · rw [dif_pos hin, dif_pos (by omega)]
            have e : ρ.s a.block + i - (ρ.s a.block + a.off + o) = i - (a.off + o) := by omega
            simp only [e]
            exact hl.at' _ _ _
          · rw [dif_neg hin, dif_neg (by omega)]
            exact m4 i hi2
        · rw [setLs_length hc]; exact m5
      · cases h2
    · cases h2
  · cases hr

/-- A row is laid by append. -/
theorem grow_sound {e : TypeId} {i : TypeInfo} {zv : Value} (hi : P.info? e = some i) (hz : i.zero = some zv) (hzs : zv.cells.size = i.size) {olds news oldu newu : List Value} {need cap : Nat} {W W' : Tw} {w : World} {v : Value} (h : WR w0 ρ W w)
    (ho : LR' ρ olds oldu) (hn : LR' ρ news newu) (hcap : need ≤ cap) (hr : growT e i.size olds news need W = some (v, W')) :
    ∃ ρ2, ρ.le ρ2 ∧ (∀ k, ρ2.dom k → ρ.dom k ∨ (W.nx ≤ k ∧ k < W'.nx)) ∧ W.nx ≤ W'.nx ∧ W'.lim = W.lim ∧ VR ρ2 v (.slice (some ⟨w.heap.size, 0, none⟩) need cap) ∧
      WR w0 ρ2 W' (w.alloc (.cells ((oldu ++ newu).toArray ++ Builtin.zeroCells zv.cells (cap - need)) e)) := by
  unfold growT at hr
  split at hr
  · rename_i hlen
    obtain ⟨n, W1, h1, h2⟩ := bind_some hr
    obtain ⟨hx, rfl, rfl⟩ := lay_some h1
    cases h2
    have hall := ho.append hn
    have hll := hall.len
    have hle := ρ.le_exs (n := W.nx) (b := w.heap.size) (s := 0) (L := (olds ++ news).length) (x := cap - need) (z := i.size) (h.free W.nx (Nat.le_refl _) hx)
    refine ⟨ρ.exs W.nx w.heap.size 0 (olds ++ news).length (cap - need) i.size, hle, ?_, Nat.le_succ _, rfl, ?_, ?_⟩
    · intro k hk
      rcases hk with hk | hk
      · exact .inl hk
      · exact .inr ⟨by omega, by show k < W.nx + 1; omega⟩
    · have hv := VR.slo (ρ := ρ.exs W.nx w.heap.size 0 (olds ++ news).length (cap - need) i.size) ⟨W.nx, 0, none⟩ need need (.inr rfl) (by simp [Ren.exm]; simpa using hlen.symm)
      have e1 : (ρ.exs W.nx w.heap.size 0 (olds ++ news).length (cap - need) i.size).adr ⟨W.nx, 0, none⟩ = ⟨w.heap.size, 0, none⟩ := by simp [Ren.adr, Ren.exm]
      have e2 : need + (ρ.exs W.nx w.heap.size 0 (olds ++ news).length (cap - need) i.size).x W.nx = cap := by simp [Ren.exm]; omega
      rw [e1] at hv
      simp only [e2] at hv
      exact hv
    · refine WR.wrote ?_ _
      refine h.name h.fresh h.freshm h.freshp (RR.mk0 rfl ⟨(oldu ++ newu).toArray ++ Builtin.zeroCells zv.cells (cap - need), 0, 0, ?_, ?_, .inl rfl, ?_, ?_, ?_⟩) (fun b hb hne => ?_) (Row.phys0 rfl) (by show w.heap.size ≤ (w.heap.push _).size; simp) rfl rfl rfl hx
      · show (w.heap.push _)[_]? = _
        simp [Ren.exm]
      · simp [Ren.exm, Builtin.zeroCells, hzs]
        simpa using hll.symm
      · intro j hj
        have hj2 : j < (oldu ++ newu).length := by rw [← hll]; exact hj
        have := (hall.at' j hj hj2).le hle
        have e3 : ((oldu ++ newu).toArray ++ Builtin.zeroCells zv.cells (cap - need)).getD ((ρ.exs W.nx w.heap.size 0 (olds ++ news).length (cap - need) i.size).s W.nx + j) undef = (oldu ++ newu)[j] := by
          rw [Array.getD_eq_getD_getElem?, Array.getElem?_append_left (by simp [Ren.exm]; simpa using hj2)]
          simp only [Ren.exm, if_true, Nat.zero_add]
          rw [List.getElem?_toArray, List.getElem?_eq_getElem hj2]; rfl
        rw [e3]; exact this
      · simp [Ren.exm]
      · exact ⟨fun h => by (cases h), fun _ => by simp [Ren.exm]⟩
      · show (w.heap.push _)[_]? = _
        rw [Array.getElem?_push, if_neg (by omega)]
  · cases hr

theorem appInfo_some {ats : Array TypeId} {e : TypeId} {i : TypeInfo} (h : appInfo P ats = some (e, i)) : ∃ t tx zv, ats = #[t, tx] ∧ P.underlying t = some (.slice e) ∧ P.info? e = some i ∧ i.zero = some zv ∧ zv.cells.size = i.size ∧
    ((∃ e', P.underlying tx = some (.slice e')) ∨ P.underlying tx = some .string) := by
  obtain ⟨l⟩ := ats
  unfold appInfo at h
  simp only at h
  split at h
  · rename_i t tx
    split at h
    · rename_i e1 h1
      split at h
      · rename_i i1 h2
        split at h
        · rename_i zv h3
          split at h
          · rename_i h4
            split at h
            · rename_i e' h5
              cases h
              exact ⟨t, tx, zv, rfl, h1, h2, h3, h4, .inl ⟨e', h5⟩⟩
            · rename_i h5
              cases h
              exact ⟨t, tx, zv, rfl, h1, h2, h3, h4, .inr h5⟩
            · cases h
          · cases h
        · cases h
      · cases h
    · cases h
  · cases h

theorem grownCap_le (w : World) {need old : Nat} {e : TypeId} : need ≤ grownCap w need old e := by
  unfold grownCap Question.cut
  exact Nat.le_add_right _ _

theorem app_sound {ats : Array TypeId} {s x s' x' : Value} {W W' : Tw} {w : World} {v : Value} (h : WR w0 ρ W w) (hs : VR ρ s s') (hx : VR ρ x x') (hr : appT P ats s x W = some (v, W')) (ty : TypeId) :
    ∃ ρ2 y w', ρ.le ρ2 ∧ (∀ n, ρ2.dom n → ρ.dom n ∨ (W.nx ≤ n ∧ n < W'.nx)) ∧ WR w0 ρ2 W' w' ∧ (Builtin.append_ ats ty #[s', x']).run P w = .ok y w' ∧ VR ρ2 v y ∧ W.nx ≤ W'.nx ∧ W'.lim = W.lim := by
  unfold appT at hr
  split at hr
  · cases hr
  · rename_i e i hinfo
    obtain ⟨t, tx, zv, rfl, ht, hi, hz, hzs, hk⟩ := appInfo_some hinfo
    split at hr
    · rename_i base l c
      obtain ⟨⟨n, vs⟩, W1, h1, h2⟩ := bind_some hr
      obtain ⟨us, hl, hsrc, hsame⟩ := srcT_sound h hx hk h1
      have hW1 := h.same hsame
      have hn1 := hsame.nx
      have hl1 := hsame.lim
      simp only at h2
      unfold appN at h2
      simp only at h2
      -- the arm that grows
      have grow : ∀ (base' : Option Addr) (cap : Nat) (olds oldu : List Value) (W2 : Tw), LR' ρ olds oldu → WR w0 ρ W2 w.drew → W2.nx = W.nx → W2.lim = W.lim → (Builtin.firstCells i.size l (.slice base' l cap)).run P w.drew = .ok oldu.toArray w.drew →
          cap < l + n → l + n ≤ 1099511627776 → (l + n) * i.bytes ≤ 140737488355328 → growT e i.size olds vs (l + n) W2 = some (v, W') →
          ∃ ρ2 y w', ρ.le ρ2 ∧ (∀ n, ρ2.dom n → ρ.dom n ∨ (W.nx ≤ n ∧ n < W'.nx)) ∧ WR w0 ρ2 W' w' ∧ (Builtin.append_ #[t, tx] ty #[.slice base' l cap, x']).run P w = .ok y w' ∧ VR ρ2 v y ∧ W.nx ≤ W'.nx ∧ W'.lim = W.lim := by
        intro base' cap olds oldu W2 ho hW2 hn2 hl2 hold hcap hb1 hb2 hg
        obtain ⟨ρ2, g1, g2, g3, g4, g5, g6⟩ := grow_sound hi hz hzs hW2 ho hl (grownCap_le w (need := l + n) (old := cap) (e := e)) hg
        refine ⟨ρ2, _, _, g1, fun k hk => by rw [← hn2]; exact g2 k hk, g6, run_append_grow_src w t tx ty e i zv ht hi hz base' l cap oldu hold x' n us hsrc hcap (by omega) (growslice_fits hcap hb2), g5, by omega, by rw [g4, hl2]⟩
      have room : ∀ (a : Addr) (cap : Nat) (v' : Value) (W2 : Tw) (u : Unit), l + n ≤ cap → roomT a (l * i.size) vs W1 = some (u, W2) →
          ∃ w', WR w0 ρ W2 w' ∧ (Builtin.append_ #[t, tx] ty #[.slice (some (ρ.adr a)) l cap, x']).run P w = .ok (.slice (some (ρ.adr a)) (l + n) cap) w' ∧ W2.nx = W.nx ∧ W2.lim = W.lim := by
        intro a cap v' W2 u hcap hrm
        obtain ⟨q1, q2, q3, q4, q5, q6⟩ := room_sound hW1 hl hrm
        have e1 : ρ.adr a = ⟨ρ.b a.block, ρ.s a.block + a.off, none⟩ := by simp [Ren.adr, q1]
        refine ⟨_, q4, ?_, q2.trans hn1, q3.trans hl1⟩
        rw [e1]
        exact run_append_room_src w t tx ty e i ht hi _ _ l cap x' n us hsrc hcap q5 q6
      have hrd : ∀ (a : Addr) (cap : Nat) (olds : List Value) (W2 : Tw), cellsT a (l * i.size) W1 = some (olds, W2) → ∃ oldu, LR' ρ olds oldu ∧ (Builtin.firstCells i.size l (.slice (some (ρ.adr a)) l cap)).run P w.drew = .ok oldu.toArray w.drew ∧ Same W1 W2 := by
        intro a cap olds W2 hc
        obtain ⟨oldu, k1, k2, k3⟩ := cellsT_sound hW1 hc
        exact ⟨oldu, k1, run_firstCells_some w.drew i.size l _ _ _ oldu (by rw [← k1.len]; exact k2) (by simpa using k3), cellsT_same hc⟩
      cases hs with
      | sl0 _ _ =>
        simp only at h2
        split at h2
        · split at h2
          · rename_i hb hroom
            split at h2
            · rename_i hnil
              cases h2
              refine ⟨ρ, .slice none (l + n) c, w, .rfl', fun k hk => .inl hk, hW1, ?_, .sl0 _ _, by omega, hl1⟩
              rcases hsrc.kind with ⟨e', hk⟩ | hk <;> simp [Builtin.append_, run_underlying ht, run_underlying hk, Go.sizeOf, typeInfo, hi, hsrc.len, hroom, hsrc.cells]
            · cases h2
          · rename_i hb hroom
            split at h2
            · rename_i hbound
              simp only [Bool.and_eq_true, decide_eq_true_eq] at hbound
              split at h2
              · rename_i hl0
                subst hl0
                refine grow none c [] [] W1 ⟨rfl, fun i h => absurd h (by simp)⟩ hW1.drew hn1 hl1 (run_firstCells_none _ _ _ _ _) (by omega) hbound.1 hbound.2 h2
              · cases h2
            · cases h2
        · cases h2
      | sl a _ _ hd hcb =>
        simp only at h2
        split at h2
        · split at h2
          · rename_i hb hroom
            obtain ⟨u, W2, h3, h4⟩ := bind_some h2
            cases h4
            obtain ⟨w', q1, q2, q3, q4⟩ := room a c .nilFunc W2 u hroom h3
            exact ⟨ρ, _, w', .rfl', fun k hk => .inl hk, q1, q2, .sl a _ _ hd hcb, by show W.nx ≤ W2.nx; omega, q4⟩
          · rename_i hb hroom
            split at h2
            · rename_i hbound
              simp only [Bool.and_eq_true, decide_eq_true_eq] at hbound
              obtain ⟨olds, W2, h3, h4⟩ := bind_some h2
              obtain ⟨oldu, k1, k2, k3⟩ := hrd a c olds W2 h3
              exact grow (some (ρ.adr a)) c olds oldu W2 k1 (hW1.same k3).drew (k3.nx.trans hn1) (k3.lim.trans hl1) k2 (by omega) hbound.1 hbound.2 h4
            · cases h2
        · rename_i hb; exact absurd hcb hb
      | slo a _ c hd he =>
        have hnb : ¬ big + c < big := by omega
        simp only at h2
        rw [if_neg hnb, show big + c - big = c by omega] at h2
        split at h2
        · rename_i hroom
          obtain ⟨u, W2, h3, h4⟩ := bind_some h2
          cases h4
          obtain ⟨w', q1, q2, q3, q4⟩ := room a (c + ρ.x a.block) .nilFunc W2 u (by omega) h3
          exact ⟨ρ, _, w', .rfl', fun k hk => .inl hk, q1, q2, .slo a _ c hd he, by show W.nx ≤ W2.nx; omega, q4⟩
        · rename_i hroom
          split at h2
          · rename_i hbound
            simp only [Bool.and_eq_true, decide_eq_true_eq] at hbound
            obtain ⟨olds, W2, h3, h4⟩ := bind_some h2
            obtain ⟨u, W3, h5, h6⟩ := bind_some h4
            obtain ⟨oldu, k1, k2, k3⟩ := hrd a (c + ρ.x a.block) olds W2 h3
            obtain ⟨r, hg, hro, hrop, hrz, hre, rfl⟩ := killZ_some h5
            have hW2 := hW1.same k3
            have hlt := Tw.get_lt hg
            have hdie := (hW2.die hlt).wrote a.block
            by_cases hin : l + n ≤ c + ρ.x a.block
            · unfold growT at h6
              split at h6
              · rename_i hlen
                obtain ⟨nn, W4, g1, g2⟩ := bind_some h6
                obtain ⟨hx4, rfl, rfl⟩ := lay_some g1
                cases g2
                obtain ⟨cA, lo, hi2, m1, m2, m3, m4, m5, m6, m7⟩ := (hW2.row _ _ hg).row hro
                have hsp : a.spot = none := by
                  obtain ⟨_, hs, _⟩ := cellsT_some h3
                  exact hs
                have hll := hl.len
                have hnl := hsrc.newsLen
                have hol : olds.length = l * i.size := by
                  obtain ⟨_, _, _, _, ht, _⟩ := cellsT_some h3
                  exact (takeL_some ht).1
                have hz2 : ρ.z a.block = i.size := by rw [m7 hrop]; exact hrz
                have hsz : cA.size = ρ.s a.block + a.off + (c + ρ.x a.block) * i.size := by
                  rw [m2, Nat.add_mul, ← hz2, ← m5, ← he]; omega
                have hmul : (l + n) * i.size ≤ (c + ρ.x a.block) * i.size := Nat.mul_le_mul_right _ hin
                rw [Nat.add_mul] at hmul
                obtain ⟨_, _, _, t1, t2, t3⟩ := hW2.there hg hro
                rw [m1] at t1
                cases t1
                have e1 : ρ.adr a = ⟨ρ.b a.block, ρ.s a.block + a.off, none⟩ := by simp [Ren.adr, hsp]
                have hrun : (Builtin.append_ #[t, tx] ty #[.slice (some (ρ.adr a)) l (c + ρ.x a.block), x']).run P w = .ok (.slice (some (ρ.adr a)) (l + n) (c + ρ.x a.block)) (w.setCells (ρ.b a.block) (ρ.s a.block + a.off + l * i.size) us) := by
                  rw [e1]
                  exact run_append_room_src w t tx ty e i ht hi _ _ l _ x' n us hsrc hin (fun j hj => (t3 _ (by omega)).1) (fun j hj => (t3 _ (by omega)).2)
                obtain ⟨r1, r2, r3, r4, r5⟩ := setCells_rest (ρ.b a.block) us (ρ.s a.block + a.off + l * i.size) w
                have hfr : ∀ m q, ((W2.set a.block none).wrote a.block).get m = some q → q.phys → ρ.b m ≠ ρ.b a.block := by
                  intro m q hm hph
                  have hm2 : (W2.set a.block none).get m = some q := hm
                  rw [Tw.get_set W2 hlt] at hm2
                  split at hm2
                  · cases hm2
                  · rename_i hne; exact hW2.sep _ _ _ _ hm2 hg hph (Row.phys0 hro) hne
                have hoth := hdie.other (w' := w.setCells (ρ.b a.block) (ρ.s a.block + a.off + l * i.size) us) hfr (hW2.mine _ _ hg (Row.phys0 hro)) (hW2.prd _ _ hg (Row.phys0 hro)) r5 r1 r2 r3 r4
                have hle := ρ.le_exs (n := W2.nx) (b := ρ.b a.block) (s := ρ.s a.block + a.off) (L := (olds ++ vs).length) (x := c + ρ.x a.block - (l + n)) (z := i.size) (hoth.free W2.nx (Nat.le_refl _) hx4)
                have hall := k1.append hl
                have hoo := k1.len
                refine ⟨ρ.exs W2.nx (ρ.b a.block) (ρ.s a.block + a.off) (olds ++ vs).length (c + ρ.x a.block - (l + n)) i.size, _, _, hle, ?_, ?_, hrun, ?_, ?_, ?_⟩
                · intro k hk
                  have hk3 := k3.nx
                  rcases hk with hk | hk
                  · exact .inl hk
                  · exact .inr ⟨by omega, by show k < W2.nx + 1; omega⟩
                · refine WR.wrote ?_ _
                  refine hoth.name hfr (hW2.mine _ _ hg (Row.phys0 hro)) (hW2.prd _ _ hg (Row.phys0 hro)) (RR.mk0 rfl ⟨setA cA (ρ.s a.block + a.off + l * i.size) us, lo, hi2, ?_, ?_, ?_, ?_, ?_, ?_⟩) (fun _ _ _ => rfl) (Row.phys0 rfl) (Nat.le_refl _) rfl rfl rfl hx4
                  · have := setCells_at (ρ.b a.block) us (ρ.s a.block + a.off + l * i.size) w m1
                    rw [hre] at this
                    simpa [Ren.exm] using this
                  · rw [size_setA, hsz]
                    have : c + ρ.x a.block = (l + n) + (c + ρ.x a.block - (l + n)) := by omega
                    simp only [Ren.exm, if_true, hlen]
                    rw [Nat.add_assoc _ ((l + n) * i.size), ← Nat.add_mul, ← this]
                  · rw [size_setA]; exact m3
                  · intro j hj
                    have hj2 : j < (oldu ++ us).length := by rw [← hall.len]; exact hj
                    dsimp only at hj ⊢
                    have hs2 : ∀ N, (ρ.exs N (ρ.b a.block) (ρ.s a.block + a.off) (olds ++ vs).length (c + ρ.x a.block - (l + n)) i.size).s N = ρ.s a.block + a.off := fun N => by simp [Ren.exm]
                    rw [hs2, getD_setA _ _ _ _ (by omega)]
                    simp only [List.length_append] at hj hj2
                    by_cases hjo : j < olds.length
                    · rw [dif_neg (by omega), List.getElem_append_left hjo]
                      obtain ⟨r', _, hg', ho', ht', _⟩ := cellsT_some h3
                      obtain ⟨u1, u2, u3⟩ := takeL_some ht'
                      have hg2 : W2.get a.block = some r' := by rw [k3.get]; exact hg'
                      rw [hg] at hg2
                      cases hg2
                      have u2' : l * i.size ≤ r.cs.length - a.off := by simpa using u2
                      have hjr : a.off + j < r.cs.length := by omega
                      rw [u3 j hjo (by simp; omega), List.getElem_drop, Nat.add_assoc]
                      exact (m4 (a.off + j) hjr).le hle
                    · rw [dif_pos (by omega), List.getElem_append_right (by omega)]
                      have e4 : ρ.s a.block + a.off + j - (ρ.s a.block + a.off + l * i.size) = j - olds.length := by omega
                      simp only [e4]
                      exact (hl.at' (j - olds.length) (by omega) (by omega)).le hle
                  · simp [Ren.exm]
                  · exact ⟨fun h => by (cases h), fun _ => by simp [Ren.exm]⟩
                · have hv := VR.slo (ρ := ρ.exs W2.nx (ρ.b a.block) (ρ.s a.block + a.off) (olds ++ vs).length (c + ρ.x a.block - (l + n)) i.size) ⟨W2.nx, 0, none⟩ (l + n) (l + n) (.inr rfl) (by simp only [Ren.exm, if_true]; rw [Nat.zero_add]; exact hlen.symm)
                  have f1 : (ρ.exs W2.nx (ρ.b a.block) (ρ.s a.block + a.off) (olds ++ vs).length (c + ρ.x a.block - (l + n)) i.size).adr ⟨W2.nx, 0, none⟩ = ρ.adr a := by rw [e1]; simp [Ren.adr, Ren.exm]
                  have f2 : l + n + (ρ.exs W2.nx (ρ.b a.block) (ρ.s a.block + a.off) (olds ++ vs).length (c + ρ.x a.block - (l + n)) i.size).x W2.nx = c + ρ.x a.block := by simp only [Ren.exm, if_true]; omega
                  rw [f1] at hv
                  simp only [f2] at hv
                  exact hv
                · have := k3.nx
                  show W.nx ≤ W2.nx + 1
                  omega
                · exact k3.lim.trans hl1
              · cases h6
            · exact grow (some (ρ.adr a)) (c + ρ.x a.block) olds oldu _ k1 hdie.drew (k3.nx.trans hn1) (k3.lim.trans hl1) k2 (by omega) hbound.1 hbound.2 h6
          · cases h2
    · cases hr
end
end Mo

namespace Mo
open Go

/-! ## Operations with rules of their own -/
/-- A string's bytes in a row. -/
noncomputable def strT (e : TypeId) (s : ByteArray) (W : Tw) : Option (Value × Tw) :=
  (W.lay ⟨byteCells s, e, true, 1, none⟩).bind fun p => some (.slice (some ⟨p.1, 0, none⟩) s.size (big + s.size), p.2)
theorem Local.strT (e : TypeId) (s : ByteArray) : Local (Mo.strT e s) := Local.bind (Local.lay _) fun n => Local.ret (Value.slice (some ⟨n, 0, none⟩) s.size (big + s.size))
/-- Bytes as bytes of the same type. -/
noncomputable def markT (a : Addr) (x : Value) (W : Tw) : Option (Value × Tw) := (W.look a.block).bind fun p => (match p.1.ob with
  | none => some x
  | some _ => none).map fun v => (v, p.2)
theorem Local.markT (a : Addr) (x : Value) : Local (Mo.markT a x) := Local.map (Local.look a.block) fun r => match r.ob with
  | none => some x
  | some _ => none
noncomputable def idxT (d : Nat) : Option Value → Option Nat
  | none => some d
  | some (.int _ i) => if 0 ≤ i then some i.toNat else none
  | some _ => none
/-- A part of an open slice. -/
noncomputable def partV (a : Addr) (z l c : Nat) (lo hi mx : Option Value) : Option Value :=
  match mx with
  | none => match idxT l hi, idxT 0 lo with
    | some h, some k => if k ≤ h && decide (h ≤ c) && decide (k < c) then some (.slice (some (a.add (k * z))) (h - k) (big + (c - k))) else none
    | _, _ => none
  | some m => match hi, idxT c (some m), idxT l hi, idxT 0 lo with
    | some _, some m, some h, some k => if k ≤ h && decide (h ≤ m) && decide (m ≤ c) && decide (m < big) then some (.slice (some (if m = k then a else a.add (k * z))) (h - k) (m - k)) else none
    | _, _, _, _ => none
noncomputable def partT (a : Addr) (z l c : Nat) (lo hi mx : Option Value) (W : Tw) : Option (Value × Tw) := (W.look a.block).bind fun p => (match p.1.ob with
  | none => if p.1.op && decide (p.1.z = z) then partV a z l c lo hi mx else none
  | some _ => none).map fun v => (v, p.2)
theorem Local.partT (a : Addr) (z l c : Nat) (lo hi mx : Option Value) : Local (Mo.partT a z l c lo hi mx) := Local.map (Local.look a.block) fun r => match r.ob with
  | none => if r.op && decide (r.z = z) then partV a z l c lo hi mx else none
  | some _ => none
/-- A row of zero values. -/
noncomputable def madeL (zs : List Value) : Nat → List Value
  | 0 => []
  | n + 1 => zs ++ madeL zs n
noncomputable def makeT (P : Program) (t : TypeId) (x y : Value) (W : Tw) : Option (Value × Tw) := match P.underlying t with
  | some (.slice e) => match P.info? e with
    | some i => match i.zero, x, y with
      | some z, .int _ l, .int _ c => if decide (0 ≤ l) && decide (l ≤ c) && decide (c * (i.bytes + 1) ≤ 1099511627776) && decide (z.cells.size = i.size) && decide (0 < i.size) && zeroOk P e then
          (W.lay ⟨madeL z.cells.toList c.toNat, e, false, 0, none⟩).bind fun p => some (.slice (some ⟨p.1, 0, none⟩) l.toNat c.toNat, p.2)
        else none
      | _, _, _ => none
    | none => none
  | _ => none
theorem Local.makeT (P : Program) (t : TypeId) (x y : Value) : Local (Mo.makeT P t x y) := by
  unfold Mo.makeT
  repeat' split
  all_goals first | exact Local.fails | exact Local.bind (Local.lay _) fun n => Local.ret (Value.slice (some ⟨n, 0, none⟩) _ _)
noncomputable def spT (P : Program) (ev : Operand → Value) (o : Oper) (W : Tw) : Option (Value × Tw) := match o.op with
  | .call c => match c.callee with
    | .builtin .append => match c.args.toList with
      | [x, y] => appT P c.argTypes (ev x) (ev y) W
      | _ => none
    | _ => none
  | .convert s d x => match P.underlying d with
    | some (.slice e) => match P.underlying e with
      | some (.int .u8) => match ev x with
        | .string b => match P.underlying s with
          | some _ => strT e b W
          | none => none
        | .slice (some a) l c => match P.underlying s with
          | some (.slice _) => if s == d then markT a (.slice (some a) l c) W else none
          | _ => none
        | _ => none
      | _ => none
    | _ => none
  | .makeSlice t x y => makeT P t (ev x) (ev y) W
  | .slice t x lo hi mx => match ev x with
    | .slice (some a) l c => if c < big then none else match P.underlying t with
      | some (.slice e) => match P.info? e with
        | some i => partT a i.size l (c - big) (lo.map ev) (hi.map ev) (mx.map ev) W
        | none => none
      | _ => none
    | _ => none
  | _ => none
theorem Local.spT (P : Program) (ev : Operand → Value) (o : Oper) : Local (Mo.spT P ev o) := by
  unfold Mo.spT
  repeat' split
  all_goals first | exact Local.fails | exact Local.appT _ _ _ _ | exact Local.strT _ _ | exact Local.markT _ _ | exact Local.makeT _ _ _ _ | exact Local.partT _ _ _ _ _ _ _

section
variable {P : Program} {w0 : Bs} {ρ : Ren}
/-- What a rule of its own says. -/
noncomputable def SpS (P : Program) (w0 : Bs) (ρ : Ren) (W : Tw) (w : World) (v : Value) (W' : Tw) (t : Sem Value) : Prop :=
  ∃ ρ2 y w', ρ.le ρ2 ∧ (∀ n, ρ2.dom n → ρ.dom n ∨ (W.nx ≤ n ∧ n < W'.nx)) ∧ WR w0 ρ2 W' w' ∧ t.run P w = .ok y w' ∧ VR ρ2 v y ∧ W.nx ≤ W'.nx ∧ W'.lim = W.lim

/-- One name's block changes where no cell is. -/
theorem WR.touch {W : Tw} {w w' : World} (h : WR w0 ρ W w) {n : Nat} {r : Row} (hg : W.get n = some r) (hp : r.phys) (hq : RR ρ n r w') (hh : ∀ b, b ≠ ρ.b n → w'.heap[b]? = w.heap[b]?) (hsz : w'.heap.size = w.heap.size)
    (hos : w'.os = w.os) (ht : w'.tape = w.tape) (ho : w'.output = w.output) : WR w0 ρ W w' := by
  refine (h.upd hg hp hq hh hsz hos ht ho).same ⟨fun m => ?_, rfl, rfl⟩
  rw [Tw.get_set W (Tw.get_lt hg)]
  split
  · rename_i hm; rw [hm, hg]
  · rfl
theorem freeze_far {w : World} {b : Nat} {c : Array Value} {e : TypeId} {lo hi : Nat} (hg : w.heap[b]? = some (.cells c e (lo, hi))) (hf : lo = hi ∨ c.size ≤ lo) :
    ∃ lo' hi', (w.freeze ⟨b, c.size, none⟩ 1).heap[b]? = some (.cells c e (lo', hi')) ∧ (lo' = hi' ∨ c.size ≤ lo') := by
  unfold World.freeze
  rw [if_neg (by omega)]
  simp only [Array.getElem?_modify, hg, if_true, Option.map_some]
  by_cases hl : lo == hi
  · rw [if_pos hl]; exact ⟨_, _, rfl, .inr (Nat.le_refl _)⟩
  · rw [if_neg hl]
    refine ⟨_, _, rfl, .inr ?_⟩
    rcases hf with hf | hf
    · exact absurd (by simpa using hf) hl
    · omega
theorem run_markStringish {w : World} {a : Addr} {c : Array Value} {e : TypeId} {f : Nat × Nat} (hg : w.heap[a.block]? = some (.cells c e f)) : (markStringish a).run P w = .ok () (w.freeze ⟨a.block, c.size, none⟩ 1) := by
  unfold markStringish
  show (Sem.bind _ _).run P w = _
  simp only [Go.shape, Sem.bind, Sem.run, World.shape?, hg]
  rfl
theorem mark_sound {a : Addr} {x y : Value} {W W' : Tw} {w : World} {v : Value} (h : WR w0 ρ W w) (hd : ρ.dom a.block) (hx : VR ρ x y) (hr : markT a x W = some (v, W')) : SpS P w0 ρ W w v W' (do markStringish (ρ.adr a); pure y) := by
  obtain ⟨r, W1, h1, h2⟩ := bind_some hr
  obtain ⟨hg, rfl⟩ := look_some h1
  simp only at h2
  split at h2
  · rename_i ho
    cases h2
    obtain ⟨c, lo, hi, m1, m2, m3, m4⟩ := (h.row _ _ hg).row ho
    obtain ⟨lo', hi', f1, f2⟩ := freeze_far m1 m3
    obtain ⟨e1, e2, e3, e4, e5⟩ := freeze_heap (w := w) (a := ⟨ρ.b a.block, c.size, none⟩) (n := 1)
    refine ⟨ρ, y, w.freeze ⟨ρ.b a.block, c.size, none⟩ 1, .rfl', fun n hn => .inl hn, ?_, ?_, hx, Nat.le_refl _, rfl⟩
    · exact (h.touch hg (Row.phys0 ho) (RR.mk0 ho ⟨c, lo', hi', f1, m2, f2, m4⟩) e5 e4 e1 e2 e3).read _
    · have hm := run_markStringish (P := P) (w := w) (a := ρ.adr a) (c := c) m1
      show (Sem.bind _ _).run P w = _
      rw [run_bind, hm]
      rfl
  · cases h2
theorem str_sound {e : TypeId} {s : ByteArray} {W W' : Tw} {w : World} {v : Value} (h : WR w0 ρ W w) (hr : strT e s W = some (v, W')) : SpS P w0 ρ W w v W' (Conv.stringToBytes e s) := by
  obtain ⟨n, W1, h1, h2⟩ := bind_some hr
  obtain ⟨hx, rfl, rfl⟩ := lay_some h1
  cases h2
  have hd := h.drew
  have hle := ρ.le_exs (n := W.nx) (b := w.heap.size) (s := 0) (L := s.size) (x := grownCap w s.size 0 e - s.size) (z := 1) (h.free W.nx (Nat.le_refl _) hx)
  have hcap : s.size ≤ grownCap w s.size 0 e := grownCap_le w
  generalize hC : (s.data.map fun b => Value.int .u8 b.toNat) ++ Array.replicate (grownCap w s.size 0 e - s.size) (Value.int .u8 0) = C
  have hCs : C.size = grownCap w s.size 0 e := by
    rw [← hC]; simp; show s.size + _ = _; omega
  have hG : (w.drew.alloc (.cells C e (0, 0))).heap[w.heap.size]? = some (.cells C e (0, 0)) := by show (w.heap.push _)[_]? = _; simp
  obtain ⟨lo', hi', f1, f2⟩ := freeze_far hG (.inl rfl)
  obtain ⟨e1, e2, e3, e4, e5⟩ := freeze_heap (w := w.drew.alloc (.cells C e (0, 0))) (a := ⟨w.heap.size, C.size, none⟩) (n := 1)
  refine ⟨ρ.exs W.nx w.heap.size 0 s.size (grownCap w s.size 0 e - s.size) 1, .slice (some ⟨w.heap.size, 0, none⟩) s.size (grownCap w s.size 0 e), (w.drew.alloc (.cells C e (0, 0))).freeze ⟨w.heap.size, C.size, none⟩ 1, hle, fun k hk => ?_, ?_, ?_, ?_, Nat.le_succ _, rfl⟩
  · rcases hk with hk | hk
    · exact .inl hk
    · exact .inr ⟨by omega, by show k < W.nx + 1; omega⟩
  · refine WR.wrote ?_ _
    refine hd.name (fun m r hm => h.fresh m r hm) h.freshm h.freshp (RR.mk0 rfl ⟨C, lo', hi', ?_, ?_, f2, ?_, ?_, ?_⟩) (fun b hb hne => ?_) (Row.phys0 rfl) (by rw [e4]; show w.heap.size ≤ (w.heap.push _).size; simp) (by rw [e1]; rfl) (by rw [e2]; rfl) (by rw [e3]; rfl) hx
    · simpa [Ren.exm] using f1
    · simp only [Ren.exm, if_true, hCs, byteCells_length]; omega
    · intro j hj
      have hj2 : j < s.size := by rw [← byteCells_length s]; exact hj
      have hj3 : j < s.data.size := hj2
      have : C.getD ((ρ.exs W.nx w.heap.size 0 s.size (grownCap w s.size 0 e - s.size) 1).s W.nx + j) undef = (byteCells s)[j] := by
        simp only [Ren.exm, if_true, Nat.zero_add]
        rw [← hC, Array.getD_eq_getD_getElem?, Array.getElem?_append_left (by simpa using hj3)]
        simp [byteCells]
        rw [Array.getElem?_eq_getElem hj3]; rfl
      rw [this]
      obtain ⟨q, _, hq⟩ := List.mem_map.1 (List.getElem_mem hj)
      dsimp only
      rw [← hq]
      exact .int _ _
    · simp [Ren.exm, byteCells_length]
    · exact ⟨fun h => by (cases h), fun _ => by simp [Ren.exm]⟩
    · rw [e5 b (by show b ≠ w.heap.size; omega)]
      show (w.heap.push _)[_]? = _
      rw [Array.getElem?_push, if_neg (by have : b < w.heap.size := hb; omega)]
      rfl
  · unfold Conv.stringToBytes
    show (Sem.bind _ _).run P w = _
    rw [run_bind]
    have hch : (Go.choose (.appendCap s.size 0 e)).run P w = .ok (grownCap w s.size 0 e) w.drew := by
      simp [Go.choose, Sem.run, Question.forced, grownCap]
    rw [hch]
    dsimp only
    show (Sem.bind _ _).run P _ = _
    rw [run_bind]
    have hnw : (newRow e ((s.data.map fun b => Value.int .u8 b.toNat) ++ Array.replicate (grownCap w s.size 0 e - s.size) (Value.int .u8 0))).run P w.drew = .ok ⟨w.heap.size, 0, none⟩ (w.drew.alloc (.cells C e (0, 0))) := by
      rw [hC]; rfl
    rw [hnw]
    dsimp only
    show (Sem.bind _ _).run P _ = _
    rw [run_bind, run_markStringish hG]
    rfl
  · have hv := VR.slo (ρ := ρ.exs W.nx w.heap.size 0 s.size (grownCap w s.size 0 e - s.size) 1) ⟨W.nx, 0, none⟩ s.size s.size (.inr rfl) (by simp [Ren.exm])
    have f1 : (ρ.exs W.nx w.heap.size 0 s.size (grownCap w s.size 0 e - s.size) 1).adr ⟨W.nx, 0, none⟩ = ⟨w.heap.size, 0, none⟩ := by simp [Ren.adr, Ren.exm]
    have f2 : s.size + (ρ.exs W.nx w.heap.size 0 s.size (grownCap w s.size 0 e - s.size) 1).x W.nx = grownCap w s.size 0 e := by simp only [Ren.exm, if_true]; omega
    rw [f1] at hv
    simp only [f2] at hv
    exact hv

theorem idx_run {d n : Nat} {v v' : Option Value} {k : Nat} (c : BoundsCode) (hv : OV ρ v v') (h : idxT d v = some k) (hk : k ≤ n) (hd : v = none → d = k → True) :
    (match v' with
      | some v => Instr.sliceBound v n c
      | none => (pure d : Sem Nat)) = pure k := by
  cases hv with
  | none => simp only [idxT, Option.some.injEq] at h; subst h; rfl
  | some hv =>
    cases hv <;> simp only [idxT] at h <;> try cases h
    split at h
    · rename_i k' i hi
      cases h
      show (Sem.bind _ _) = _
      simp only [asIntOf]
      show (if 0 ≤ i ∧ i ≤ n then (pure i.toNat : Sem Nat) else _) = _
      rw [if_pos ⟨hi, by omega⟩]
    · cases h
theorem slice_run {b : Bool} {l cap k h m : Nat} {lo hi mx lo' hi' mx' : Option Value} (h1 : OV ρ lo lo') (h2 : OV ρ hi hi') (h3 : OV ρ mx mx') (hm : (mx = none ∧ m = cap) ∨ (∃ v, mx = some v ∧ idxT cap (some v) = some m ∧ m ≤ cap ∧ ∃ u, hi = some u))
    (hh : idxT l hi = some h) (hk : idxT 0 lo = some k) (hkh : k ≤ h) (hhm : h ≤ m) : Instr.sliceBounds b l cap lo' hi' mx' = pure (k, h, m) := by
  have low : ∀ c : BoundsCode,
      (do let l ← match lo' with
            | some v => Instr.sliceBound v h c
            | none => pure 0
          pure (l, h, m)) = (Pure.pure (k, h, m) : Sem (Nat × Nat × Nat)) := by
    intro c
    have e := idx_run c h1 hk hkh fun _ _ => trivial
    cases h1 with
    | none => simp only [idxT, Option.some.injEq] at hk; subst hk; rfl
    | some hv =>
      simp only at e
      show (Sem.bind (Instr.sliceBound _ h c) _) = _
      rw [e]; rfl
  unfold Instr.sliceBounds
  rcases hm with ⟨rfl, rfl⟩ | ⟨v, rfl, hv, hmc, u, rfl⟩
  · cases h3
    cases h2 with
    | none =>
      simp only [idxT, Option.some.injEq] at hh
      subst hh
      exact low _
    | some hu =>
      have e := idx_run (ρ := ρ) (n := m) (if b = true then BoundsCode.sliceAcap else BoundsCode.sliceAlen) (OV.some hu) hh hhm fun _ _ => trivial
      simp only at e
      show (Sem.bind (Instr.sliceBound _ m (if b = true then BoundsCode.sliceAcap else BoundsCode.sliceAlen)) _) = _
      rw [e]
      exact low _
  · cases h3 with
    | some hv' =>
      cases h2 with
      | some hu =>
        have e := idx_run (ρ := ρ) (n := m) .slice3B (OV.some hu) hh hhm fun _ _ => trivial
        have e2 := idx_run (ρ := ρ) (n := cap) (if b = true then BoundsCode.slice3Acap else BoundsCode.slice3Alen) (OV.some hv') hv hmc fun _ _ => trivial
        simp only at e e2
        show (Sem.bind _ _) = _
        rw [e2]
        show (Sem.bind (Instr.sliceBound _ m BoundsCode.slice3B) _) = _
        rw [e]
        exact low _

theorem part_sound {t elem : TypeId} {i : TypeInfo} {a : Addr} {l c : Nat} {lo hi mx lo' hi' mx' : Option Value} {W W' : Tw} {w : World} {v : Value} (h : WR w0 ρ W w) (hd : ρ.dom a.block) (he : a.off + c * ρ.z a.block = ρ.L a.block)
    (ht : P.underlying t = some (.slice elem)) (hi0 : P.info? elem = some i) (h1 : OV ρ lo lo') (h2 : OV ρ hi hi') (h3 : OV ρ mx mx') (hr : partT a i.size l c lo hi mx W = some (v, W')) :
    SpS P w0 ρ W w v W' (Instr.sliceAt t (.slice (some (ρ.adr a)) l (c + ρ.x a.block)) lo' hi' mx') := by
  obtain ⟨r, W1, g1, g2⟩ := bind_some hr
  obtain ⟨hg, rfl⟩ := look_some g1
  simp only at g2
  have hsize : (Go.sizeOf elem : Sem Nat).run P w = .ok i.size w := by
    show ((Go.typeInfo elem).bind _).run P w = _
    rw [run_bind]
    have : (Go.typeInfo elem).run P w = .ok i w := by
      show (Sem.bind _ _).run P w = _
      simp only [Go.program, Sem.bind, Sem.run, hi0]
      rfl
    rw [this]; rfl
  have hund : (Go.underlying t : Sem TypeDesc).run P w = .ok (.slice elem) w := by
    show (Sem.bind _ _).run P w = _
    simp only [Go.program, Sem.bind, Sem.run, ht]
    rfl
  have fin : ∀ k h m, Instr.sliceBounds true l (c + ρ.x a.block) lo' hi' mx' = pure (k, h, m) →
      (Instr.sliceAt t (.slice (some (ρ.adr a)) l (c + ρ.x a.block)) lo' hi' mx').run P w = .ok (.slice (if m = k then some (ρ.adr a) else some ((ρ.adr a).add (k * i.size))) (h - k) (m - k)) w := by
    intro k h m hb
    unfold Instr.sliceAt
    show (Sem.bind _ _).run P w = _
    rw [run_bind, hund]
    simp only
    unfold Instr.slice
    show (Sem.bind _ _).run P w = _
    rw [run_bind, hund]
    simp only
    show (Sem.bind _ _).run P w = _
    rw [hb]
    show ((Go.sizeOf elem).bind _).run P w = _
    rw [run_bind, hsize]
    rfl
  cases hro : r.ob with
  | some o => rw [hro] at g2; cases g2
  | none =>
    rw [hro] at g2
    simp only at g2
    split at g2
    · rename_i hc
      simp only [Bool.and_eq_true, decide_eq_true_eq] at hc
      obtain ⟨_, _, _, _, _, _, _, _, _, hz⟩ := (h.row _ _ hg).row hro
      have hz := hz hc.1
      have hzz : ρ.z a.block = i.size := by rw [hz]; exact hc.2
      unfold partV at g2
      cases h3 with
      | none =>
        simp only at g2
        split at g2
        · rename_i hh k e1 e2
          split at g2
          · rename_i hc2
            simp only [Bool.and_eq_true, decide_eq_true_eq] at hc2
            cases g2
            refine ⟨ρ, _, w, .rfl', fun n hn => .inl hn, h.read _, fin k hh (c + ρ.x a.block) (slice_run h1 h2 .none (.inl ⟨rfl, rfl⟩) e1 e2 hc2.1.1 (by omega)), ?_, Nat.le_refl _, rfl⟩
            rw [if_neg (by omega), ← Ren.adr_add]
            have e3 : (a.add (k * i.size)).block = a.block := add_block _ _
            have hv := VR.slo (ρ := ρ) (a.add (k * i.size)) (hh - k) (c - k) (by rw [e3]; exact hd) (by
              rw [e3, hzz]
              rw [hzz] at he
              have : (a.add (k * i.size)).off = a.off + k * i.size := by
                unfold Addr.add
                split
                · rename_i h0; rw [h0]; rfl
                · rfl
              rw [this, Nat.add_assoc, ← Nat.add_mul, show k + (c - k) = c by omega]
              exact he)
            rw [e3] at hv
            rw [show c + ρ.x a.block - k = c - k + ρ.x a.block by omega]
            exact hv
          · cases g2
        · cases g2
      | some hm =>
        cases h2 with
        | none => cases g2
        | some hu =>
          simp only at g2
          split at g2
          · rename_i u0 m hh k e0 e1 e2 e3
            have e1' : ∀ d v, idxT d (some v) = idxT c (some v) := fun d v => by cases v <;> rfl
            split at g2
            · rename_i hc2
              simp only [Bool.and_eq_true, decide_eq_true_eq] at hc2
              cases g2
              refine ⟨ρ, _, w, .rfl', fun n hn => .inl hn, h.read _, fin k hh m (slice_run h1 (.some hu) (.some hm) (.inr ⟨_, rfl, by rw [e1']; exact e1, by omega, _, rfl⟩) e2 e3 hc2.1.1.1 hc2.1.1.2), ?_, Nat.le_refl _, rfl⟩
              split
              · exact .sl a _ _ hd (by omega)
              · rw [← Ren.adr_add]
                exact .sl _ _ _ (by rw [add_block]; exact hd) (by omega)
            · cases g2
          · cases g2
    · cases g2

theorem madeL_eq (z : Array Value) (hz : 0 < z.size) : ∀ n : Nat, madeL z.toList n = ((Array.range (n * z.size)).map fun j => z[j % z.size]!).toList := by
  have hlen : ∀ n, (madeL z.toList n).length = n * z.size := by
    intro n
    induction n with
    | zero => simp [madeL]
    | succ n ih => simp [madeL, ih, Nat.add_mul, Nat.add_comm]
  have key : ∀ n k, k < n * z.size → (madeL z.toList n)[k]? = some z[k % z.size]! := by
    intro n
    induction n with
    | zero => intro k hk; simp at hk
    | succ n ih =>
      intro k hk
      simp only [madeL]
      by_cases h : k < z.size
      · rw [List.getElem?_append_left (by simpa using h)]
        have : k % z.size = k := Nat.mod_eq_of_lt h
        rw [this]
        simp [h]
      · rw [List.getElem?_append_right (by simpa using Nat.le_of_not_lt h)]
        simp only [Array.length_toList]
        rw [ih (k - z.size) (by rw [Nat.add_mul, Nat.one_mul] at hk; omega)]
        congr 2
        rw [Nat.mod_eq_sub_mod (Nat.le_of_not_lt h)]
  intro n
  apply List.ext_getElem?
  intro k
  by_cases hk : k < n * z.size
  · rw [key n k hk]
    simp [hk]
  · rw [List.getElem?_eq_none (by rw [hlen]; omega), List.getElem?_eq_none (by simp; omega)]
theorem madeL_mem {zs : List Value} : ∀ {n : Nat} {v : Value}, v ∈ madeL zs n → v ∈ zs
  | 0, _, h => by simp [madeL] at h
  | n + 1, v, h => by
    simp only [madeL, List.mem_append] at h
    rcases h with h | h
    · exact h
    · exact madeL_mem h
theorem make_sound {t : TypeId} {x y x' y' : Value} {W W' : Tw} {w : World} {v : Value} (h : WR w0 ρ W w) (hx : VR ρ x x') (hy : VR ρ y y') (hr : makeT P t x y W = some (v, W')) : SpS P w0 ρ W w v W' (Instr.makeSlice t x' y') := by
  unfold makeT at hr
  split at hr
  · rename_i e ht
    split at hr
    · rename_i i hi
      split at hr
      · rename_i z kl l kc c hzero
        split at hr
        · rename_i hc
          simp only [Bool.and_eq_true, decide_eq_true_eq] at hc
          obtain ⟨⟨⟨⟨⟨c1, c2⟩, c3⟩, c4⟩, c5⟩, c6⟩ := hc
          obtain ⟨n, W1, h1, h2⟩ := bind_some hr
          obtain ⟨hlim, rfl, rfl⟩ := lay_some h1
          cases h2
          cases hx
          cases hy
          have hcb : c * (i.bytes : Int) ≤ 1099511627776 ∧ c ≤ 1099511627776 := by
            rw [Int.mul_add, Int.mul_one] at c3
            have : 0 ≤ c * (i.bytes : Int) := Int.mul_nonneg (by omega) (by omega)
            omega
          have hcells : (Array.range (c.toNat * i.size)).map (fun j => z.cells[j % z.cells.size]!) = (madeL z.cells.toList c.toNat).toArray := by
            rw [← c4, madeL_eq _ (by omega)]
          have hself : ∀ u ∈ z.cells.toList, VR ρ u u := by
            intro u hu
            have := ((zeroOk_spec c6 hi hzero).1 ρ).cells (zeroOk_told c6 hi hzero)
            obtain ⟨k, hk, rfl⟩ := List.mem_iff_getElem.1 hu
            have := this.at' k (by simpa using hk)
            have hk' : k < z.cells.size := by simpa using hk
            simpa [Array.getD, hk'] using this
          have hAR : AR ρ (madeL z.cells.toList c.toNat).toArray (madeL z.cells.toList c.toNat).toArray := by
            refine ⟨rfl, fun k hk => ?_⟩
            have hk' : k < (madeL z.cells.toList c.toNat).length := by simpa using hk
            have := hself _ (madeL_mem (List.getElem_mem hk'))
            simpa [Array.getD, hk'] using this
          have hW := (h.new (e := e) hAR hlim).wrote W.nx
          have hle := ρ.le_exs (n := W.nx) (b := w.heap.size) (s := 0) (L := (madeL z.cells.toList c.toNat).toArray.size) (x := 0) (z := 0) (h.free W.nx (Nat.le_refl _) hlim)
          refine ⟨_, .slice (some ⟨w.heap.size, 0, none⟩) l.toNat c.toNat, _, hle, fun k hk => ?_, hW, ?_, ?_, Nat.le_succ _, rfl⟩
          · rcases hk with hk | hk
            · exact .inl hk
            · exact .inr ⟨by omega, by show k < W.nx + 1; omega⟩
          · have hm := run_make (P := P) w t e i z ht hi hzero kl kc l c c1 c2 (by rw [Int.mul_comm]; omega) (by omega)
            unfold madeCells at hm
            rw [hcells] at hm
            exact hm
          · have hv := VR.sl (ρ := ρ.exs W.nx w.heap.size 0 (madeL z.cells.toList c.toNat).toArray.size 0 0) ⟨W.nx, 0, none⟩ l.toNat c.toNat (.inr rfl) (by have : big = 2 ^ 70 := rfl; omega)
            have f1 : (ρ.exs W.nx w.heap.size 0 (madeL z.cells.toList c.toNat).toArray.size 0 0).adr ⟨W.nx, 0, none⟩ = ⟨w.heap.size, 0, none⟩ := by simp [Ren.adr, Ren.exm]
            rw [f1] at hv
            exact hv
        · cases hr
      · cases hr
    · cases hr
  · cases hr
end
end Mo

namespace Mo
open Go

section
variable {P : Program} {w0 : Bs} {ρ : Ren}
theorem SpS.op {W W' : Tw} {w : World} {v : Value} {t : Sem Value} (h : SpS P w0 ρ W w v W' t) :
    ∃ ρ2 y w', ρ.le ρ2 ∧ (∀ n, ρ2.dom n → ρ.dom n ∨ (W.nx ≤ n ∧ n < W'.nx)) ∧ WR w0 ρ2 W' w' ∧ ((do pure (.value (← t))) : Sem Next).run P w = .ok (.value y) w' ∧ VR ρ2 v y ∧ W.nx ≤ W'.nx ∧ W'.lim = W.lim := by
  obtain ⟨ρ2, y, w', h1, h2, h3, h4, h5⟩ := h
  refine ⟨ρ2, y, w', h1, h2, h3, ?_, h5⟩
  show (Sem.bind _ _).run P w = _
  rw [run_bind, h4]
  rfl
theorem run_und {w : World} {t : TypeId} {d : TypeDesc} (h : P.underlying t = some d) : (Go.underlying t : Sem TypeDesc).run P w = .ok d w := by
  show (Sem.bind _ _).run P w = _
  simp only [Go.program, Sem.bind, Sem.run, h]
  rfl
theorem sp_sound {ev ev' : Operand → Value} {o : Oper} {W W' : Tw} {w : World} {v : Value} (hv : ∀ x ∈ o.op.operands, VR ρ (ev x) (ev' x)) (h : WR w0 ρ W w) (hr : spT P ev o W = some (v, W')) :
    ∃ ρ2 y w', ρ.le ρ2 ∧ (∀ n, ρ2.dom n → ρ.dom n ∨ (W.nx ≤ n ∧ n < W'.nx)) ∧ WR w0 ρ2 W' w' ∧ (execOp ev' o).run P w = .ok (.value y) w' ∧ VR ρ2 v y ∧ W.nx ≤ W'.nx ∧ W'.lim = W.lim := by
  obtain ⟨dst, op, type, pos, after, guard⟩ := o
  simp only at hv
  have opt : ∀ x : Option Operand, (∀ y, x = some y → VR ρ (ev y) (ev' y)) → OV ρ (x.map ev) (x.map ev') := by
    intro x hx
    cases x with
    | none => exact .none
    | some y => exact .some (hx y rfl)
  unfold spT at hr
  cases op <;> dsimp only at hr <;> try (cases hr)
  case call c =>
    obtain ⟨cl, args, ats⟩ := c
    cases cl <;> dsimp only at hr <;> try (cases hr)
    rename_i b
    cases b <;> dsimp only at hr <;> try (cases hr)
    split at hr
    · rename_i x y hl
      obtain ⟨l⟩ := args
      have hl' : l = [x, y] := hl
      subst hl'
      have ha := app_sound h (hv x (by simp [Op.operands, Call.operands])) (hv y (by simp [Op.operands, Call.operands])) hr type
      have e : ∀ f : Operand → Value, Array.map f #[x, y] = #[f x, f y] := fun f => by simp
      have k := SpS.op ha
      rw [← e ev'] at k
      exact k
    · cases hr
  case convert s d x =>
    have hx := hv x (by simp [Op.operands])
    split at hr
    · rename_i e hd
      split at hr
      · rename_i he
        have main : ∀ (ds : TypeDesc) (v' : Value) (t : Sem Value), P.underlying s = some ds → SpS P w0 ρ W w v W' t → ev' x = v' → (∀ w, (convert s d v').run P w = t.run P w) → 
            ∃ ρ2 y w', ρ.le ρ2 ∧ (∀ n, ρ2.dom n → ρ.dom n ∨ (W.nx ≤ n ∧ n < W'.nx)) ∧ WR w0 ρ2 W' w' ∧ (execOp ev' ⟨dst, .convert s d x, type, pos, after, guard⟩).run P w = .ok (.value y) w' ∧ VR ρ2 v y ∧ W.nx ≤ W'.nx ∧ W'.lim = W.lim := by
          intro ds v' t _ hS he2 hrun
          refine SpS.op (t := convert s d (ev' x)) ?_
          obtain ⟨ρ2, y, w', h1, h2, h3, h4, h5⟩ := hS
          exact ⟨ρ2, y, w', h1, h2, h3, by rw [he2, hrun]; exact h4, h5⟩
        split at hr
        · rename_i b hb
          rw [hb] at hx
          split at hr
          · rename_i ds hds
            generalize hx' : ev' x = v' at hx
            cases hx
            refine main ds _ _ hds (str_sound h hr) hx' fun w => ?_
            unfold convert
            show (Sem.bind _ _).run P w = _
            rw [run_bind, run_und hds]
            simp only
            show (Sem.bind _ _).run P w = _
            rw [run_bind, run_und hd]
            simp only
            show (Sem.bind _ _).run P w = _
            rw [run_bind, run_und he]
          · cases hr
        · rename_i a l c hb
          rw [hb] at hx
          split at hr
          · rename_i es hds
            split at hr
            · rename_i hsd
              have hsd' : s = d := by simpa using hsd
              generalize hx' : ev' x = v' at hx
              have hx2 := hx
              have go : ∀ l' c', v' = .slice (some (ρ.adr a)) l' c' → ρ.dom a.block → ∃ ρ2 y w', ρ.le ρ2 ∧ (∀ n, ρ2.dom n → ρ.dom n ∨ (W.nx ≤ n ∧ n < W'.nx)) ∧ WR w0 ρ2 W' w' ∧ (execOp ev' ⟨dst, .convert s d x, type, pos, after, guard⟩).run P w = .ok (.value y) w' ∧ VR ρ2 v y ∧ W.nx ≤ W'.nx ∧ W'.lim = W.lim := by
                intro l' c' hv' hdm
                subst hv'
                refine main _ _ _ hds (mark_sound h hdm hx hr) hx' fun w => ?_
                unfold convert
                show (Sem.bind _ _).run P w = _
                rw [run_bind, run_und hds]
                simp only
                show (Sem.bind _ _).run P w = _
                rw [run_bind, run_und hd]
                simp only
                show (Sem.bind _ _).run P w = _
                rw [run_bind, run_und he]
                simp only [hsd]
              cases hx2 with
              | sl a l c hdm hb => exact go _ _ rfl hdm
              | slo a l c hdm he => exact go _ _ rfl hdm
            · cases hr
          · cases hr
        · cases hr
      · cases hr
    · cases hr
  case makeSlice t x y =>
    exact SpS.op (make_sound h (hv x (by simp [Op.operands])) (hv y (by simp [Op.operands])) hr)
  case slice t x lo hi mx =>
    have hx := hv x (by simp [Op.operands])
    split at hr
    · rename_i a l c hb
      rw [hb] at hx
      split at hr
      · cases hr
      · rename_i hbig
        split at hr
        · rename_i e ht
          split at hr
          · rename_i i hi0
            generalize hx' : ev' x = v' at hx
            cases hx with
            | sl a l c hdm hb => exact absurd hb hbig
            | slo a l c hdm he =>
              rw [show big + c - big = c by omega] at hr
              have k := SpS.op (part_sound h hdm he ht hi0 (opt lo fun y hy => hv y (by simp [Op.operands, hy])) (opt hi fun y hy => hv y (by simp [Op.operands, hy])) (opt mx fun y hy => hv y (by simp [Op.operands, hy])) hr)
              rw [← hx'] at k
              exact k
          · cases hr
        · cases hr
    · cases hr
end
end Mo

