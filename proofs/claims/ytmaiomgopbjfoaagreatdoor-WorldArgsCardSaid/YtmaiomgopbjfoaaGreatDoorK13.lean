import Derived.Test.YtmaiomgopbjfoaaGreatDoorK7
import Derived.Below
import Derived.Test.YtmaiomgopbjfoaaGreatDoorK12
import Derived.OpenShut
import Derived.ChangeArms
import GoSem.ClaimWide
set_option linter.all false
namespace Mir
open Go Go.RowKit

/-! ## What the evaluator says, in the library's words -/
/-- Symbols alone have meanings. -/
def ρS (S : Nat) (m : Nat → Nat) : Ren := ⟨fun n => n < S, m, fun _ => 0, fun _ => 0, fun _ => 0, fun _ => 0⟩
noncomputable def WS (S : Nat) : Tw := ⟨.lf, S, 9223372036854775808, [], []⟩
theorem WR0 (w : World) {S : Nat} (m : Nat → Nat) (hS : S ≤ 2 ^ 63) : WR ⟨w, ρS S m⟩ (ρS S m) (WS S) w where
  row n r h := by
    have : (WS S).get n = none := by unfold Tw.get WS; split <;> rfl
    rw [this] at h; cases h
  dom n r h := by
    have : (WS S).get n = none := by unfold Tw.get WS; split <;> rfl
    rw [this] at h; cases h
  mine n r h := by
    have : (WS S).get n = none := by unfold Tw.get WS; split <;> rfl
    rw [this] at h; cases h
  sep n m r q h := by
    have : (WS S).get n = none := by unfold Tw.get WS; split <;> rfl
    rw [this] at h; cases h
  free n h1 _ h := Nat.not_lt.2 h1 h
  lim := Nat.le_refl _
  small n h := Nat.lt_of_lt_of_le h hS
  os := rfl
  tape := rfl
  output := rfl
  size := Nat.le_refl _
  old b h := rfl
  r0 := .rfl'
theorem AR_plain {ρ : Ren} {xs : Array Value} (h : xs.all (plainD depth) = true) : AR ρ xs xs := by
  refine ⟨rfl, fun i hi => plain_VR ρ depth _ ?_⟩
  rw [Array.all_eq_true] at h
  have := h i hi
  simpa [Array.getD, hi] using this
/-- A call with symbols among its arguments, and a plain answer. -/
theorem calls_evFqS {P : Program} {sy : SyT} {S : Nat} (m : Nat → Nat) (hS : S ≤ 2 ^ 63) {w : World} (hp : POk P ⟨w, ρS S m⟩ sy) {tb : Tb} (htb : TbOk P tb) {L n : Nat} {f : FuncId} {xs xs' : Array Value} {y : Value} {W' : Tw}
    (hx : AR (ρS S m) xs xs') (hy : plainD depth y = true) (h : evFq P sy tb L n f xs (WS S) = some (y, W')) :
    Calls P f xs' w fun e w' => e = .returned y ∧ Below w.heap.size w w' := by
  refine (evFq_sound (w0 := ⟨w, ρS S m⟩) hp htb L n (ρS S m) (WS S) w f xs xs' y W' (WR0 w m hS) hx h).mono fun e w' ⟨ρ2, z, e1, e2, e3, e4⟩ => ?_
  have e5 := VR_plain depth hy e4
  subst e5
  exact ⟨e1, e3.os, e3.tape, e3.output, e3.size, e3.old⟩
/-- A call with plain arguments and a plain answer. -/
theorem calls_evFq {P : Program} (hp : ∀ w0, POk P w0 noSy) {tb : Tb} (htb : TbOk P tb) {L n : Nat} {f : FuncId} {xs : Array Value} {y : Value} {W' : Tw}
    (hx : xs.all (plainD depth) = true) (hy : plainD depth y = true) (h : evFq P noSy tb L n f xs (WS 0) = some (y, W')) (w : World) :
    Calls P f xs w fun e w' => e = .returned y ∧ Below w.heap.size w w' :=
  calls_evFqS (fun _ => 0) (by decide) (hp _) htb (AR_plain hx) hy h
/-- Does a call answer true? -/
noncomputable def isT : Option (Value × Tw) → Bool
  | some (.bool true, _) => true
  | _ => false
theorem calls_true {P : Program} (hp : ∀ w0, POk P w0 noSy) {tb : Tb} (htb : TbOk P tb) {L n : Nat} {f : FuncId} (h : isT (evFq P noSy tb L n f #[] (WS 0)) = true) (w : World) :
    Calls P f #[] w fun e w' => e = .returned (.bool true) ∧ Below w.heap.size w w' := by
  unfold isT at h
  split at h
  · rename_i W' hq
    exact calls_evFq hp htb (by simp) (by rfl) hq w
  · cases h
theorem calls_trueS {P : Program} {sy : SyT} {S : Nat} (m : Nat → Nat) (hS : S ≤ 2 ^ 63) {w : World} (hp : POk P ⟨w, ρS S m⟩ sy) {tb : Tb} (htb : TbOk P tb) {L n : Nat} {f : FuncId} {xs xs' : Array Value}
    (hx : AR (ρS S m) xs xs') (h : isT (evFq P sy tb L n f xs (WS S)) = true) :
    Calls P f xs' w fun e w' => e = .returned (.bool true) ∧ Below w.heap.size w w' := by
  unfold isT at h
  split at h
  · rename_i W' hq
    exact calls_evFqS m hS hp htb hx (by rfl) hq
  · cases h
end Mir

namespace Mir
open Go

/-! ## Symbols: a table of what operations over them yield -/
def kNum : IntKind → Nat
  | .i8 => 0 | .i16 => 1 | .i32 => 2 | .i64 => 3 | .u8 => 4 | .u16 => 5 | .u32 => 6 | .u64 => 7
theorem kNum_inj {a b : IntKind} (h : Nat.beq (kNum a) (kNum b) = true) : a = b := by
  rw [Nat.beq_eq] at h
  cases a <;> cases b <;> first | rfl | cases h
def iEq (a b : Int) : Bool := match a with
  | .ofNat m => match b with
    | .ofNat n => Nat.beq m n
    | _ => false
  | .negSucc m => match b with
    | .negSucc n => Nat.beq m n
    | _ => false
theorem iEq_eq {a b : Int} (h : iEq a b = true) : a = b := by
  cases a <;> cases b <;> simp only [iEq] at h <;> first | cases h | (rw [Nat.beq_eq] at h; rw [h])
noncomputable def eqL {α : Type} (f : α → α → Bool) (xs : List α) : List α → Bool :=
  List.rec (motive := fun _ => List α → Bool) (fun ys => List.rec (motive := fun _ => Bool) true (fun _ _ _ => false) ys)
    (fun x _ ih ys => List.rec (motive := fun _ => Bool) false (fun y r _ => match f x y with
      | true => ih r
      | false => false) ys) xs
theorem eqL_eq {α : Type} {f : α → α → Bool} (hf : ∀ x y, f x y = true → x = y) : ∀ xs ys, eqL f xs ys = true → xs = ys
  | [], [], _ => rfl
  | x :: xs, y :: ys, h => by
    have h' : (match f x y with
      | true => eqL f xs ys
      | false => false) = true := h
    split at h'
    · rename_i h1
      rw [hf _ _ h1, eqL_eq hf xs ys h']
    · cases h'
  | [], _ :: _, h => by cases h
  | _ :: _, [], h => by cases h
def u8Eq (a b : UInt8) : Bool := Nat.beq a.toNat b.toNat
theorem u8Eq_eq (a b : UInt8) (h : u8Eq a b = true) : a = b := by
  unfold u8Eq at h
  rw [Nat.beq_eq] at h
  exact UInt8.toNat_inj.1 h
noncomputable def eqV : Nat → Value → Value → Bool
  | 0, _, _ => false
  | d + 1, x, y => match x with
    | .chan (some a) => (match y with
      | .chan (some b) => Nat.beq a b
      | _ => false)
    | .int k a => (match y with
      | .int j b => (match Nat.beq (kNum k) (kNum j) with
        | true => iEq a b
        | false => false)
      | _ => false)
    | .bool a => (match y with
      | .bool b => a == b
      | _ => false)
    | .string ⟨⟨a⟩⟩ => (match y with
      | .string ⟨⟨b⟩⟩ => eqL u8Eq a b
      | _ => false)
    | .pointer none => (match y with
      | .pointer none => true
      | _ => false)
    | .slice none l c => (match y with
      | .slice none l' c' => (match Nat.beq l l' with
        | true => Nat.beq c c'
        | false => false)
      | _ => false)
    | .nilFunc => (match y with
      | .nilFunc => true
      | _ => false)
    | .nilIface => (match y with
      | .nilIface => true
      | _ => false)
    | .agg ⟨xs⟩ => (match y with
      | .agg ⟨ys⟩ => eqL (eqV d) xs ys
      | _ => false)
    | .tuple ⟨xs⟩ => (match y with
      | .tuple ⟨ys⟩ => eqL (eqV d) xs ys
      | _ => false)
    | _ => false
theorem eqV_eq : ∀ (d : Nat) (x y : Value), eqV d x y = true → x = y
  | 0, _, _, h => by cases h
  | d + 1, x, y, h => by
    unfold eqV at h
    split at h
    · split at h
      · rw [Nat.beq_eq] at h; rw [h]
      · cases h
    · split at h
      · split at h
        · rename_i h1
          rw [kNum_inj h1, iEq_eq h]
        · cases h
      · cases h
    · split at h
      · rw [beq_iff_eq] at h; rw [h]
      · cases h
    · split at h
      · rw [eqL_eq u8Eq_eq _ _ h]
      · cases h
    · split at h
      · rfl
      · cases h
    · split at h
      · split at h
        · rename_i h1
          rw [Nat.beq_eq] at h1 h
          rw [h1, h]
        · cases h
      · cases h
    · split at h
      · rfl
      · cases h
    · split at h
      · rfl
      · cases h
    · split at h
      · rw [eqL_eq (eqV_eq d) _ _ h]
      · cases h
    · split at h
      · rw [eqL_eq (eqV_eq d) _ _ h]
      · cases h
    · cases h
/-- What a value with symbols means. -/
def den (m : Nat → Nat) : Nat → Value → Value
  | 0, v => v
  | d + 1, v => match v with
    | .chan (some n) => dcd (m n)
    | .agg ⟨xs⟩ => .agg ⟨xs.map (den m d)⟩
    | .tuple ⟨xs⟩ => .tuple ⟨xs.map (den m d)⟩
    | v => v
/-- Its symbols are there from the beginning. -/
def okS (S : Nat) : Nat → Value → Bool
  | 0, _ => false
  | d + 1, v => match v with
    | .chan (some n) => Nat.blt n S
    | .int _ _ | .bool _ | .string _ | .pointer none | .slice none _ _ | .nilFunc | .nilIface => true
    | .agg ⟨xs⟩ => xs.all (okS S d)
    | .tuple ⟨xs⟩ => xs.all (okS S d)
    | _ => false
theorem den_of {S : Nat} {m : Nat → Nat} {ρ : Ren} (hl : (ρS S m).le ρ) : ∀ (d : Nat) (x z : Value), okS S d x = true → VR ρ x z → z = den m d x
  | 0, _, _, h, _ => by cases h
  | d + 1, x, z, h, hv => by
    have rows : ∀ {xs ys : Array Value}, xs.toList.all (okS S d) = true → xs.size = ys.size → (∀ i, i < xs.size → VR ρ (xs.getD i undef) (ys.getD i undef)) → ys = ⟨xs.toList.map (den m d)⟩ := by
      intro xs ys h hx hy
      obtain ⟨xs⟩ := xs
      obtain ⟨ys⟩ := ys
      simp only [List.all_eq_true] at h
      have hlen : xs.length = ys.length := hx
      congr 1
      apply List.ext_getElem (by simp [hlen])
      intro i h1 h2
      have hi : i < xs.length := by omega
      have := hy i hi
      have e1 : (⟨xs⟩ : Array Value).getD i undef = xs[i] := by simp [Array.getD, hi]
      have e2 : (⟨ys⟩ : Array Value).getD i undef = ys[i] := by simp [Array.getD, h1]
      rw [e1, e2] at this
      rw [den_of hl d _ _ (h _ (List.getElem_mem hi)) this]
      simp
    cases hv <;> (first | (exact absurd h Bool.false_ne_true) | skip)
    case int k n => rfl
    case bool b => rfl
    case string s => rfl
    case ptr0 => rfl
    case sl0 l c => rfl
    case nilFunc => rfl
    case nilIface => rfl
    case sym n hd h8 =>
      have hn : n < S := by simpa [okS, Nat.blt_eq] using h
      have := hl.b n hn
      rw [this]
      rfl
    case agg xs ys hx hy =>
      rw [rows (xs := xs) h hx hy]
      rfl
    case tuple xs ys hx hy =>
      rw [rows (xs := xs) h hx hy]
      rfl
theorem den_VR {S : Nat} {m : Nat → Nat} {ρ : Ren} (hl : (ρS S m).le ρ) (h8 : ∀ n, m n % 16 = n % 16) : ∀ (d : Nat) (x : Value), okS S d x = true → VR ρ x (den m d x)
  | 0, _, h => by cases h
  | d + 1, x, h => by
    have rows : ∀ {xs : List Value}, xs.all (okS S d) = true → ∀ i, i < (⟨xs⟩ : Array Value).size → VR ρ ((⟨xs⟩ : Array Value).getD i undef) ((⟨xs.map (den m d)⟩ : Array Value).getD i undef) := by
      intro xs h i hi
      simp only [List.all_eq_true] at h
      have hi' : i < xs.length := hi
      have e1 : (⟨xs⟩ : Array Value).getD i undef = xs[i] := by simp [Array.getD, hi']
      have e2 : (⟨xs.map (den m d)⟩ : Array Value).getD i undef = den m d xs[i] := by simp [Array.getD, hi']
      rw [e1, e2]
      exact den_VR hl h8 d _ (h _ (List.getElem_mem hi'))
    unfold okS at h
    split at h
    · rename_i n
      have hn : n < S := by simpa [Nat.blt_eq] using h
      have e : den m (d + 1) (.chan (some n)) = dcd (ρ.b n) := by rw [hl.b n hn]; rfl
      rw [e]
      exact .sym n (hl.dom n hn) (by rw [hl.b n hn]; exact h8 n)
    · exact .int _ _
    · exact .bool _
    · exact .string _
    · exact .ptr0
    · exact .sl0 _ _
    · exact .nilFunc
    · exact .nilIface
    · exact .agg (by simp) (rows h)
    · exact .tuple (by simp) (rows h)
    · cases h
inductive SyK where
  | bin (b : BinOp) (t : TypeId) (x y : Value)
  | conv (s d : TypeId) (x : Value)
  | len (t : TypeId) (x : Value)
  | idx (t : TypeId) (x i : Value)
structure SyE where
  k : SyK
  r : Value
noncomputable def SyK.is (k : SyK) (f : Operand → Value) (o : Op) : Bool := match k, o with
  | .bin b t x y, .binOp b' t' x' y' _ => decide (b = b') && Nat.beq t t' && eqV 3 x (f x') && eqV 3 y (f y')
  | .conv s d x, .convert s' d' x' => Nat.beq s s' && Nat.beq d d' && eqV 3 x (f x')
  | .len t x, .call c => (match c.callee, c.args.toList, c.argTypes.toList with
    | .builtin .len, [x'], [t'] => Nat.beq t t' && eqV 3 x (f x')
    | _, _, _ => false)
  | .idx t x i, .index t' x' i' => Nat.beq t t' && eqV 3 x (f x') && eqV 3 i (f i')
  | _, _ => false
noncomputable def symGo (f : Operand → Value) (o : Op) : List SyE → Option Value
  | [] => none
  | e :: r => if e.k.is f o then some e.r else symGo f o r
/-- A call whose answer is known. -/
structure KE where
  args : List Value
  r : Value
noncomputable def knGo (args : List Value) (l : List KE) : Option Value :=
  List.rec (motive := fun _ => Option Value) none (fun e _ ih => match eqL (eqV 6) e.args args with
    | true => some e.r
    | false => ih) l
theorem knGo_some {args : List Value} {v : Value} : ∀ {l : List KE}, knGo args l = some v → ∃ e ∈ l, e.args = args ∧ e.r = v
  | [], h => by cases h
  | e :: l, h => by
    have h' : (match eqL (eqV 6) e.args args with
      | true => some e.r
      | false => knGo args l) = some v := h
    split at h'
    · rename_i h1
      cases h'
      exact ⟨e, by simp, eqL_eq (eqV_eq 6) _ _ h1, rfl⟩
    · obtain ⟨e', h2, h3⟩ := knGo_some h'
      exact ⟨e', by simp [h2], h3⟩
noncomputable def knS (kt : Tr (List KE)) (f : FuncId) (args : List Value) : Option Value := match kt.get f with
  | some l => knGo args l
  | none => none
def KE.ok (S : Nat) (e : KE) : Bool := okS S 6 e.r && e.args.all (okS S 6)
def KE.says (P : Program) (m : Nat → Nat) (f : FuncId) (e : KE) : Prop := ∀ w, Calls P f ⟨e.args.map (den m 6)⟩ w fun x w' => x = .returned (den m 6 e.r) ∧ RowKit.Below w.heap.size w w'
noncomputable def symT (tab : List SyE) (kt : Tr (List KE)) : SyT := ⟨fun f o => symGo f o.op tab, knS kt⟩
def SyE.ok (S : Nat) (e : SyE) : Bool := okS S 3 e.r && (match e.k with
  | .bin _ _ x y => okS S 3 x && okS S 3 y
  | .conv _ _ x => okS S 3 x
  | .len _ x => okS S 3 x
  | .idx _ x i => okS S 3 x && okS S 3 i)
/-- What an entry says. -/
def SyE.says (P : Program) (m : Nat → Nat) (e : SyE) : Prop := match e.k with
  | .bin b t x y => ∀ ox oy w, Sem.run P (do eqGuard b t ox oy (den m 3 x) (den m 3 y); binOp b t (den m 3 x) (den m 3 y)) w = .ok (den m 3 e.r) w
  | .conv s d x => ∀ w, (convert s d (den m 3 x)).run P w = .ok (den m 3 e.r) w
  | .len t x => ∀ ty w, (Builtin.len_ #[t] ty #[den m 3 x]).run P w = .ok (den m 3 e.r) w
  | .idx t x i => ∀ w, (Instr.index t (den m 3 x) (den m 3 i)).run P w = .ok (den m 3 e.r) w
theorem symT_ok {P : Program} {S : Nat} {m : Nat → Nat} (h8 : ∀ n, m n % 16 = n % 16) {w : World} {tab : List SyE} (h1 : tab.all (SyE.ok S) = true) (h2 : ∀ e ∈ tab, e.says P m) {kt : Tr (List KE)}
    (hk : ∀ f l, kt.get f = some l → ∀ e ∈ l, e.ok S = true ∧ e.says P m f) : SOk P ⟨w, ρS S m⟩ (symT tab kt) := by
  refine ⟨?_, fun ρ f args args' v hl hA hs w1 => ?_⟩
  rotate_left
  · have hl' : (ρS S m).le ρ := hl
    unfold symT knS at hs
    simp only at hs
    split at hs
    · rename_i l hg
      obtain ⟨e, he, h3, h4⟩ := knGo_some hs
      obtain ⟨k1, k2⟩ := hk f l hg e he
      unfold KE.ok at k1
      simp only [Bool.and_eq_true, List.all_eq_true] at k1
      have ha : args' = ⟨e.args.map (den m 6)⟩ := by
        obtain ⟨xs⟩ := args
        obtain ⟨ys⟩ := args'
        simp only at h3
        subst h3
        have hlen : e.args.length = ys.length := hA.size
        congr 1
        apply List.ext_getElem (by simp [hlen])
        intro i h1 h2
        have hi : i < e.args.length := by omega
        have := hA.at' i hi
        have e1 : (⟨e.args⟩ : Array Value).getD i undef = e.args[i] := by simp [Array.getD, hi]
        have e2 : (⟨ys⟩ : Array Value).getD i undef = ys[i] := by simp [Array.getD, h1]
        rw [e1, e2] at this
        rw [den_of hl' 6 _ _ (k1.2 _ (List.getElem_mem hi)) this]
        simp
      subst ha
      exact (k2 w1).mono fun x w' ⟨m1, m2⟩ => ⟨_, m1, by rw [← h4]; exact den_VR hl' h8 6 _ k1.1, m2⟩
    · cases hs
  clear hk
  intro ρ f f' o v hl hv hs
  have hl' : (ρS S m).le ρ := hl
  have find : ∀ tab : List SyE, symGo f o.op tab = some v → ∃ e ∈ tab, e.k.is f o.op = true ∧ e.r = v := by
    intro tab
    induction tab with
    | nil => intro hs; cases hs
    | cons e r ih =>
      intro hs
      unfold symGo at hs
      split at hs
      · rename_i hc
        cases hs
        exact ⟨e, by simp, hc, rfl⟩
      · obtain ⟨e', h3, h4⟩ := ih hs
        exact ⟨e', by simp [h3], h4⟩
  obtain ⟨e, he, hk, rfl⟩ := find tab hs
  rw [List.all_eq_true] at h1
  have hok := h1 e he
  have hsays := h2 e he
  obtain ⟨k, r⟩ := e
  obtain ⟨dst, op, type, pos, after, guard⟩ := o
  simp only at hk hv
  unfold SyE.ok at hok
  unfold SyE.says at hsays
  unfold SyK.is at hk
  intro w1
  split at hk
  · rename_i b t x y b' t' x' y' z
    simp only [Bool.and_eq_true, decide_eq_true_eq] at hk hok hsays
    obtain ⟨⟨⟨rfl, k2⟩, k3⟩, k4⟩ := hk
    rw [Nat.beq_eq] at k2
    subst k2
    have e1 := eqV_eq _ _ _ k3
    have e2 := eqV_eq _ _ _ k4
    subst e1 e2
    have f1 := den_of hl' 3 _ _ hok.2.1 (hv x' (by simp [Op.operands]))
    have f2 := den_of hl' 3 _ _ hok.2.2 (hv y' (by simp [Op.operands]))
    refine ⟨den m 3 r, ?_, den_VR hl' h8 3 _ hok.1⟩
    simp only [execOp]
    rw [f1, f2]
    show (Sem.bind _ _).run P w1 = _
    rw [run_bind]
    have := hsays x' y' w1
    rw [this]
    rfl
  · rename_i s d x s' d' x'
    simp only [Bool.and_eq_true, decide_eq_true_eq] at hk hok hsays
    obtain ⟨⟨k1, k2⟩, k3⟩ := hk
    rw [Nat.beq_eq] at k1 k2
    subst k1 k2
    have e1 := eqV_eq _ _ _ k3
    subst e1
    have f1 := den_of hl' 3 _ _ hok.2 (hv x' (by simp [Op.operands]))
    refine ⟨den m 3 r, ?_, den_VR hl' h8 3 _ hok.1⟩
    simp only [execOp]
    rw [f1]
    show (Sem.bind _ _).run P w1 = _
    rw [run_bind]
    have := hsays w1
    rw [this]
    rfl
  · rename_i t x c
    split at hk
    · rename_i x' t' hcal hargs hty
      simp only [Bool.and_eq_true] at hk hok
      obtain ⟨k1, k2⟩ := hk
      rw [Nat.beq_eq] at k1
      subst k1
      have e1 := eqV_eq _ _ _ k2
      subst e1
      obtain ⟨cal, ⟨as⟩, ⟨ts⟩⟩ := c
      simp only at hcal hargs hty
      subst hcal hargs hty
      have f1 := den_of hl' 3 _ _ hok.2 (hv x' (by simp [Op.operands, Call.operands]))
      refine ⟨den m 3 r, ?_, den_VR hl' h8 3 _ hok.1⟩
      have e : Array.map f' #[x'] = #[f' x'] := by simp
      show (do let d ← resolve f' ⟨.builtin .len, #[x'], #[t]⟩ type; invoke d.target d.args : Sem Next).run P w1 = _
      unfold resolve
      simp only [e]
      show (Sem.bind (Builtin.len_ #[t] type #[f' x']) _).run P w1 = _
      rw [run_bind, f1, hsays type w1]
      rfl
    · cases hk
  · rename_i t x i t' x' i'
    simp only [Bool.and_eq_true] at hk hok
    obtain ⟨⟨k1, k2⟩, k3⟩ := hk
    rw [Nat.beq_eq] at k1
    subst k1
    have e1 := eqV_eq _ _ _ k2
    have e2 := eqV_eq _ _ _ k3
    subst e1 e2
    have f1 := den_of hl' 3 _ _ hok.2.1 (hv x' (by simp [Op.operands]))
    have f2 := den_of hl' 3 _ _ hok.2.2 (hv i' (by simp [Op.operands]))
    refine ⟨den m 3 r, ?_, den_VR hl' h8 3 _ hok.1⟩
    simp only [execOp]
    rw [f1, f2]
    show (Sem.bind _ _).run P w1 = _
    rw [run_bind]
    have := hsays w1
    rw [this]
    rfl
  · cases hk
end Mir

namespace Mir
open Go Go.RowKit

/-! ## What entries say -/
theorem kIdx_kindN {a : Nat} (h : a < 8) : kIdx (kindN a) = a := by
  have : a = 0 ∨ a = 1 ∨ a = 2 ∨ a = 3 ∨ a = 4 ∨ a = 5 ∨ a = 6 ∨ a = 7 := by omega
  rcases this with rfl | rfl | rfl | rfl | rfl | rfl | rfl | rfl <;> rfl
/-- A symbol's kind stands in its name. -/
noncomputable def mSs (v : Nat → Int) (sv : Nat → ByteArray) (n : Nat) : Nat := if h : n % 16 < 8 then Classical.choose (dcd_at (kindN (n % 16)) (v n)) else Classical.choose (dcd_str n h (sv n))
theorem mSs_8 (v : Nat → Int) (sv : Nat → ByteArray) (n : Nat) : mSs v sv n % 16 = n % 16 := by
  unfold mSs
  split
  · rename_i h
    rw [(Classical.choose_spec (dcd_at (kindN (n % 16)) (v n))).2, kIdx_kindN h]
  · rename_i h
    exact (Classical.choose_spec (dcd_str n h (sv n))).2
theorem mSs_int (v : Nat → Int) (sv : Nat → ByteArray) (n : Nat) (h : n % 16 < 8) : dcd (mSs v sv n) = .int (kindN (n % 16)) (v n) := by
  unfold mSs
  rw [dif_pos h]
  exact (Classical.choose_spec (dcd_at (kindN (n % 16)) (v n))).1
theorem mSs_str (v : Nat → Int) (sv : Nat → ByteArray) (n : Nat) (h : ¬ n % 16 < 8) : dcd (mSs v sv n) = .string (sv n) := by
  unfold mSs
  rw [dif_neg h]
  exact (Classical.choose_spec (dcd_str n h (sv n))).1
theorem den_sym (v : Nat → Int) (sv : Nat → ByteArray) (n d : Nat) (h : n % 16 < 8) : den (mSs v sv) (d + 1) (.chan (some n)) = .int (kindN (n % 16)) (v n) := mSs_int v sv n h
theorem den_str (v : Nat → Int) (sv : Nat → ByteArray) (n d : Nat) (h : ¬ n % 16 < 8) : den (mSs v sv) (d + 1) (.chan (some n)) = .string (sv n) := mSs_str v sv n h
/-- Numbers alone. -/
noncomputable def mS (v : Nat → Int) : Nat → Nat := mSs v fun _ => ⟨#[]⟩
theorem mS_8 (v : Nat → Int) (n : Nat) : mS v n % 16 = n % 16 := mSs_8 v _ n
theorem den_n (v : Nat → Int) (n d : Nat) (h : n % 16 < 8) : den (mS v) (d + 1) (.chan (some n)) = .int (kindN (n % 16)) (v n) := mSs_int v _ n h
theorem den_int (m : Nat → Nat) (d : Nat) (k : IntKind) (z : Int) : den m (d + 1) (.int k z) = .int k z := rfl
section
variable {P : Program} {m : Nat → Nat}
/-- Two numbers. -/
theorem says_int {b : BinOp} {t : TypeId} {x y r : Value} {k j : IntKind} {a c : Int} (hx : den m 3 x = .int k a) (hy : den m 3 y = .int j c) (h : binOp b t (.int k a) (.int j c) = pure (den m 3 r)) :
    SyE.says P m ⟨.bin b t x y, r⟩ := by
  intro ox oy w
  rw [hx, hy]
  show (Sem.bind _ _).run P w = _
  rw [run_bind]
  have : (eqGuard b t ox oy (.int k a) (.int j c)).run P w = .ok () w := by
    unfold eqGuard
    cases b <;> rfl
  rw [this, h]
  rfl
/-- Two rows of numbers. -/
theorem says_agg {b : BinOp} {t : TypeId} {x y r : Value} {xs ys : Array Value} (hx : den m 3 x = .agg xs) (hy : den m 3 y = .agg ys)
    (hg : ∀ ox oy, (runT P (eqGuard b t ox oy (.agg xs) (.agg ys)) Tw.emp).map (·.1) = some ()) (h : (runT P (binOp b t (.agg xs) (.agg ys)) Tw.emp).map (·.1) = some (den m 3 r)) :
    SyE.says P m ⟨.bin b t x y, r⟩ := by
  intro ox oy w
  rw [hx, hy]
  have q : ∀ {α : Type} {s : Sem α} {a : α}, (runT P s Tw.emp).map (·.1) = some a → s.run P w = .ok a w := by
    intro α s a hs
    cases hq : runT P s Tw.emp with
    | none => rw [hq] at hs; cases hs
    | some p =>
      obtain ⟨a', W'⟩ := p
      rw [hq] at hs
      cases hs
      exact (quiet s rfl rfl hq).2 w
  show (Sem.bind _ _).run P w = _
  rw [run_bind, q (hg ox oy)]
  exact q h
/-! ### Comparing numbers -/
theorem bin_lss {t k} {a c : Int} {v : Bool} (h : decide (a < c) = v) : binOp .lss t (.int k a) (.int k c) = pure (.bool v) := by
  subst h; simp [binOp, Op.intCmp]
theorem bin_leq {t k} {a c : Int} {v : Bool} (h : decide (a ≤ c) = v) : binOp .leq t (.int k a) (.int k c) = pure (.bool v) := by
  subst h; simp [binOp, Op.intCmp]
theorem bin_gtr {t k} {a c : Int} {v : Bool} (h : decide (a > c) = v) : binOp .gtr t (.int k a) (.int k c) = pure (.bool v) := by
  subst h; simp [binOp, Op.intCmp]
theorem bin_geq {t k} {a c : Int} {v : Bool} (h : decide (a ≥ c) = v) : binOp .geq t (.int k a) (.int k c) = pure (.bool v) := by
  subst h; simp [binOp, Op.intCmp]
theorem bin_eql {t k} {a c : Int} {v : Bool} (h : (a == c) = v) : binOp .eql t (.int k a) (.int k c) = pure (.bool v) := by
  subst h; simp [binOp, Op.intCmp]
theorem bin_neq {t k} {a c : Int} {v : Bool} (h : (a != c) = v) : binOp .neq t (.int k a) (.int k c) = pure (.bool v) := by
  subst h; simp [binOp, Op.intCmp]
theorem bin_and {t k} {a c z : Int} (h : k.wrap ((BitVec.ofInt k.bits a &&& BitVec.ofInt k.bits c).toNat : Int) = z) : binOp .and t (.int k a) (.int k c) = pure (.int k z) := by
  subst h; simp [binOp, Op.intBits]
theorem bin_xor {t k} {a c z : Int} (h : k.wrap ((BitVec.ofInt k.bits a ^^^ BitVec.ofInt k.bits c).toNat : Int) = z) : binOp .xor t (.int k a) (.int k c) = pure (.int k z) := by
  subst h; simp [binOp, Op.intBits]
theorem bin_shr {t k j} {a c z : Int} (h0 : 0 ≤ c) (h : a.fdiv (2 ^ min c.toNat k.bits) = z) : binOp .shr t (.int k a) (.int j c) = pure (.int k z) := by
  subst h
  have : ¬ c < 0 := by omega
  simp [binOp, Op.shift, this]

/-! ### Calls -/
/-- What a run comes to. -/
noncomputable def resIs (y : Value) (x : Option (Value × Tw)) : Bool := match x with
  | some (v, _) => eqV 6 v y
  | none => false
theorem resIs_some {y : Value} {x : Option (Value × Tw)} (h : resIs y x = true) : ∃ W, x = some (y, W) := by
  unfold resIs at h
  split at h
  · rename_i v W
    rw [eqV_eq 6 _ _ h]
    exact ⟨W, rfl⟩
  · cases h
theorem AR_den {S : Nat} {m : Nat → Nat} (h8 : ∀ n, m n % 16 = n % 16) {xs : List Value} (h : xs.all (okS S 6) = true) : AR (ρS S m) ⟨xs⟩ ⟨xs.map (den m 6)⟩ := by
  rw [List.all_eq_true] at h
  refine ⟨by simp, fun i hi => ?_⟩
  have hi' : i < xs.length := hi
  have e1 : (⟨xs⟩ : Array Value).getD i undef = xs[i] := by simp [Array.getD, hi']
  have e2 : (⟨xs.map (den m 6)⟩ : Array Value).getD i undef = den m 6 xs[i] := by simp [Array.getD, hi']
  rw [e1, e2]
  exact den_VR .rfl' h8 6 _ (h _ (List.getElem_mem hi'))
theorem calls_z {sy : SyT} {S : Nat} {m : Nat → Nat} (h8 : ∀ n, m n % 16 = n % 16) (hS : S ≤ 2 ^ 63) {w : World} (hp : POk P ⟨w, ρS S m⟩ sy) {tb : Tb} (htb : TbOk P tb) {L n : Nat} {f : FuncId} {xs : List Value} {y : Value} {W' : Tw}
    (hx : xs.all (okS S 6) = true) (hy : okS S 6 y = true) (h : evFz P sy tb L n f ⟨xs⟩ (WS S) = some (y, W')) :
    Calls P f ⟨xs.map (den m 6)⟩ w fun e w' => e = .returned (den m 6 y) ∧ Below w.heap.size w w' := by
  have h' := evFz_le htb L n f ⟨xs⟩ (WS S) _ h
  refine (evFq_sound (w0 := ⟨w, ρS S m⟩) hp htb L n (ρS S m) (WS S) w f ⟨xs⟩ _ y W' (WR0 w m hS) (AR_den h8 hx) h').mono fun e w' ⟨ρ2, z, e1, e2, e3, e4⟩ => ?_
  have e5 := den_of (S := S) (m := m) e3.r0 6 _ _ hy e4
  rw [e5] at e1
  exact ⟨e1, e3.os, e3.tape, e3.output, e3.size, e3.old⟩
/-- A call is known, since it was run. -/
theorem KE_run {sy : SyT} {S : Nat} {m : Nat → Nat} (h8 : ∀ n, m n % 16 = n % 16) (hS : S ≤ 2 ^ 63) (hp : ∀ w, POk P ⟨w, ρS S m⟩ sy) {tb : Tb} (htb : TbOk P tb) {L n : Nat} {f : FuncId} {xs : List Value} {y : Value}
    (hok : KE.ok S ⟨xs, y⟩ = true) (h : resIs y (evFz P sy tb L n f ⟨xs⟩ (WS S)) = true) : KE.says P m f ⟨xs, y⟩ := by
  unfold KE.ok at hok
  rw [Bool.and_eq_true] at hok
  obtain ⟨W, hW⟩ := resIs_some h
  exact fun w => calls_z h8 hS (hp w) htb hok.2 hok.1 hW
end
end Mir

namespace Mir
open Go Go.RowKit

/-! ## Readers of what comes in -/
section
variable {H : Type} {enc : TypeId × Value → H} {P : Program} {W : World} {base : Nat} {spare : Nat → Bool} {held : Bool}
theorem wf_u8 {n : Int} (h : (Lit.int .u8 n).wf = true) : ∃ a : Nat, n = .ofNat a ∧ a < 256 := by
  have e1 : IntKind.min .u8 = 0 := rfl
  have e2 : IntKind.max .u8 = 255 := rfl
  simp [Lit.wf] at h
  refine ⟨n.toNat, ?_, by omega⟩
  show n = ((n.toNat : Nat) : Int)
  omega
/-- A row of bytes of a known length. -/
theorem rd_bytes {t e : TypeId} {k : Nat} (ht : P.underlying t = some (.array k e)) (he : P.underlying e = some (.int .u8)) (hce : P.cellsOf e = 1) (hct : P.cellsOf t = k) {n : Nat} {l : List Value} {y : DataW H × List MemPlace}
    (h : DataW.trod enc P W base spare held n t l = some y) : ∃ p : Nat → Nat, (∀ i, p i < 256) ∧ l = (List.range k).map fun i => .int .u8 (.ofNat (p i)) := by
  obtain ⟨xs, m, _, _, hl, hxs, hf⟩ := DataW.trod_array ht h
  rw [hct] at hl
  have each : ∀ i, i < k → ∃ a : Nat, a < 256 ∧ l[i]? = some (.int .u8 (.ofNat a)) := by
    intro i hi
    have g := hf i hi
    rw [hce, Nat.mul_one] at g
    have hx : ∃ x, xs[i]? = some x := ⟨xs[i]'(by omega), by simp [hxs, hi]⟩
    obtain ⟨x, hx⟩ := hx
    rw [hx] at g
    obtain ⟨z, hz, -, b0⟩ := DataW.trod_int he g
    obtain ⟨a, rfl, ha⟩ := wf_u8 b0
    refine ⟨a, ha, ?_⟩
    have h0 : (l.drop i)[0]? = some (.int .u8 (.ofNat a)) := by
      have h1 : ((l.drop i).take 1)[0]? = some (.int .u8 (.ofNat a)) := by rw [hz]; rfl
      rw [List.getElem?_take] at h1
      simpa using h1
    rw [List.getElem?_drop] at h0
    simpa using h0
  refine ⟨fun i => if h : i < k then Classical.choose (each i h) else 0, fun i => ?_, ?_⟩
  · by_cases h : i < k
    · simp only [h, dif_pos]
      exact (Classical.choose_spec (each i h)).1
    · simp only [h, dif_neg, not_false_eq_true]; omega
  · apply List.ext_getElem?
    intro i
    by_cases hi : i < k
    · rw [(Classical.choose_spec (each i hi)).2]
      simp [hi]
    · rw [List.getElem?_eq_none (by omega), List.getElem?_eq_none (by simp; omega)]
end
theorem okWide_arr {P : Program} {w : World} {r : Reach} {base : Nat} {t n e : TypeId} {v : Value} (ht : P.underlying t = some (.array n e)) (h : Value.okWide P w r base t v) : ∃ cs, v = .agg cs ∧ cs.size = P.cellsOf t := by
  unfold Value.okWide at h
  rw [ht] at h
  obtain ⟨cs, h1, h2, _⟩ := h
  exact ⟨cs, h1, h2⟩
end Mir

