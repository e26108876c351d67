import Derived.Test.YtlogglgfpeeheaaCavB
namespace Cav
open Go Go.RowKit

/-! ### Two lists, cell by cell -/
def All2 (R : AV → Value → Prop) (cs : List AV) (vs : List Value) : Prop := cs.length = vs.length ∧ ∀ i (hi : i < cs.length), R cs[i] (vs.getD i undef)

section
variable {R : AV → Value → Prop}
theorem All2.nil : All2 R [] [] := ⟨rfl, fun i hi => absurd hi (by simp)⟩
theorem All2.cons {c : AV} {v : Value} {cs : List AV} {vs : List Value} (h : R c v) (t : All2 R cs vs) : All2 R (c :: cs) (v :: vs) := by
  refine ⟨by simp [t.1], fun i hi => ?_⟩
  cases i with
  | zero => exact h
  | succ i => exact t.2 i (Nat.lt_of_succ_lt_succ hi)
theorem All2.head {c : AV} {v : Value} {cs : List AV} {vs : List Value} (h : All2 R (c :: cs) (v :: vs)) : R c v := h.2 0 (Nat.zero_lt_succ _)
theorem All2.tail {c : AV} {v : Value} {cs : List AV} {vs : List Value} (h : All2 R (c :: cs) (v :: vs)) : All2 R cs vs :=
  ⟨by simpa using h.1, fun i hi => h.2 (i + 1) (Nat.succ_lt_succ hi)⟩
theorem All2.append {cs ds : List AV} {vs us : List Value} (h : All2 R cs vs) (k : All2 R ds us) : All2 R (cs ++ ds) (vs ++ us) := by
  induction cs generalizing vs with
  | nil => cases vs with
    | nil => exact k
    | cons v r => exact absurd h.1 (by simp)
  | cons c r ih => cases vs with
    | nil => exact absurd h.1 (by simp)
    | cons v q => exact .cons h.head (ih h.tail)
theorem All2.take {cs : List AV} {vs : List Value} (h : All2 R cs vs) (k : Nat) : All2 R (cs.take k) (vs.take k) := by
  induction k generalizing cs vs with
  | zero => simpa using All2.nil
  | succ k ih => cases cs with
    | nil => cases vs with
      | nil => exact .nil
      | cons v r => exact absurd h.1 (by simp)
    | cons c r => cases vs with
      | nil => exact absurd h.1 (by simp)
      | cons v q => exact .cons h.head (ih h.tail)
theorem All2.drop {cs : List AV} {vs : List Value} (h : All2 R cs vs) (k : Nat) : All2 R (cs.drop k) (vs.drop k) := by
  induction k generalizing cs vs with
  | zero => simpa using h
  | succ k ih => cases cs with
    | nil => cases vs with
      | nil => exact .nil
      | cons v r => exact absurd h.1 (by simp)
    | cons c r => cases vs with
      | nil => exact absurd h.1 (by simp)
      | cons v q => exact ih h.tail
theorem All2.get {cs : List AV} {vs : List Value} (h : All2 R cs vs) {i : Nat} {c : AV} (hc : cs[i]? = some c) : ∃ v, vs[i]? = some v ∧ R c v := by
  obtain ⟨hi, rfl⟩ := List.getElem?_eq_some_iff.1 hc
  have hj : i < vs.length := h.1 ▸ hi
  refine ⟨vs[i], by simp [hj], ?_⟩
  have := h.2 i hi
  rwa [List.getD_eq_getElem?_getD, List.getElem?_eq_getElem hj, Option.getD_some] at this
theorem All2.mem {cs : List AV} {vs : List Value} (h : All2 R cs vs) {v : Value} (hv : v ∈ vs) : ∃ c, c ∈ cs ∧ R c v := by
  obtain ⟨i, hi, rfl⟩ := List.getElem_of_mem hv
  have hj : i < cs.length := h.1 ▸ hi
  refine ⟨cs[i], List.getElem_mem hj, ?_⟩
  have := h.2 i hj
  rwa [List.getD_eq_getElem?_getD, List.getElem?_eq_getElem hi, Option.getD_some] at this
end

theorem arr_getD (vs : Array Value) (i : Nat) : vs.getD i undef = vs.toList.getD i undef := by
  simp [List.getD, Array.getElem?_toList]

/-! ### The operations -/
/-- A call, as a function on abstract values. -/
abbrev Fun := List AV → Option AV
/-- The contracts at hand. -/
abbrev Ctx := FuncId → Option Fun

def ev (st : St) : Operand → AV
  | .tmp t => st.sl t
  | .const x => .v x
  | .global g => .v (.pointer (some ⟨g, 0, none⟩))
  | .func f => .v (.func (.func f) #[] #[])

def toV : AV → Option Value
  | .v x => some x
  | _ => none
def leafP : AV → Bool
  | .v _ => true
  | .sl _ _ => true
  | _ => false
/-- What leads to no local object. -/
def isPure : AV → Bool
  | .agg cs => cs.all leafP
  | x => leafP x
/-- What one cell may hold. -/
def leafOk : AV → Bool
  | .v c => c.oneCell'
  | .sl _ _ => true
  | .ptr _ _ => true
  | .rptr _ _ => true
  | _ => false
def live : AV → Bool
  | .dead => false
  | _ => true

def sizeT (P : Program) (t : TypeId) : Option Nat := (P.info? t).map (·.size)

/-- Is the type a row of cells, and of how many? -/
def rowT (P : Program) (t : TypeId) : Option (Bool × Nat) :=
  match P.underlying t, sizeT P t with
  | some d, some sz => some (d.isRow, sz)
  | _, _ => none
/-- The size of a slice's element. -/
def sliceT (P : Program) (t : TypeId) : Option Nat :=
  match P.underlying t with
  | some (.slice e) => sizeT P e
  | _ => none
/-- An array's length, and the size of its element. -/
def arrT (P : Program) (t : TypeId) : Option (Nat × Nat) :=
  match P.underlying t with
  | some (.array n e) => (sizeT P e).map (n, ·)
  | _ => none
/-- A variable's first value. -/
def zeroT (P : Program) (t : TypeId) : Option Value := (P.info? t).bind (·.zero)

def ldc (P : Program) (t : TypeId) (cs : List AV) (k : Nat) : Option AV :=
  match rowT P t with
  | none => none
  | some (true, sz) => if k + sz ≤ cs.length then some (mkAgg ((cs.drop k).take sz)) else none
  | some (false, _) => cs[k]?

def fieldOff (P : Program) (s : TypeId) (f : Nat) : Option Nat :=
  match P.underlying s with
  | some (.struct fs) => match fs[f]? with
    | some fd => match sizeT P fd.type with
      | some (_ + 1) => some fd.offset
      | _ => none
    | none => none
  | _ => none

/-- Two integers of one kind. -/
def ibin (op : BinOp) (k : IntKind) (a b : Int) : Option Value :=
  match op with
  | .add => some (.int k (k.wrap (a + b)))
  | .sub => some (.int k (k.wrap (a - b)))
  | .mul => some (.int k (k.wrap (a * b)))
  | .quo => if b = 0 then none else some (.int k (k.wrap (a.tdiv b)))
  | .rem => if b = 0 then none else some (.int k (a.tmod b))
  | .and => some (.int k (k.wrap (BitVec.ofInt k.bits a &&& BitVec.ofInt k.bits b).toNat))
  | .or => some (.int k (k.wrap (BitVec.ofInt k.bits a ||| BitVec.ofInt k.bits b).toNat))
  | .xor => some (.int k (k.wrap (BitVec.ofInt k.bits a ^^^ BitVec.ofInt k.bits b).toNat))
  | .andNot => some (.int k (k.wrap (BitVec.ofInt k.bits a &&& ~~~BitVec.ofInt k.bits b).toNat))
  | .eql => some (.bool (a == b))
  | .neq => some (.bool (a != b))
  | .lss => some (.bool (decide (a < b)))
  | .leq => some (.bool (decide (a ≤ b)))
  | .gtr => some (.bool (decide (b < a)))
  | .geq => some (.bool (decide (b ≤ a)))
  | _ => none

def isShift : BinOp → Bool
  | .shl => true
  | .shr => true
  | _ => false

def ishift (op : BinOp) (k : IntKind) (x y : Int) : Option Value :=
  if y < 0 then none else
  match op with
  | .shl => some (.int k (k.wrap (x * 2 ^ (min y.toNat k.bits))))
  | .shr => some (.int k (x.fdiv (2 ^ (min y.toNat k.bits))))
  | _ => none

def isBoolT (P : Program) (t : TypeId) : Bool :=
  match P.underlying t with
  | some .bool => true
  | _ => false

def sbin (P : Program) (op : BinOp) (t : TypeId) : Value → Value → Option Value
  | .int k a, .int k' b => if isShift op then ishift op k a b else if k = k' then ibin op k a b else none
  | .bool a, .bool b => if isBoolT P t then (match op with
    | .eql => some (.bool (a == b))
    | .neq => some (.bool (!(a == b)))
    | _ => none) else none
  | .string a, .string b => match op with
    | .eql => some (.bool (a.toList == b.toList))
    | .neq => some (.bool (!(a.toList == b.toList)))
    | _ => none
  | _, _ => none

def sun : UnOp → Value → Option Value
  | .not, .bool b => some (.bool !b)
  | .neg, .int k n => some (.int k (k.wrap (0 - n)))
  | _, _ => none

def intT (P : Program) (t : TypeId) : Option IntKind :=
  match P.underlying t with
  | some (.int k) => some k
  | _ => none

def sconv (P : Program) (s d : TypeId) : Value → Option Value
  | .int _ n => if (P.underlying s).isSome then (intT P d).map fun k => .int k (k.wrap n) else none
  | _ => none

def smin : Value → Value → Option Value
  | .int k x, .int _ y => some (.int k (if y < x then y else x))
  | _, _ => none
def smax : Value → Value → Option Value
  | .int k x, .int _ y => some (.int k (if y > x then y else x))
  | _, _ => none

/-- Everyday operations on values that share nothing. -/
def sop (P : Program) (g : Operand → Option Value) : Op → Option Value
  | .binOp b t x y _ => match g x, g y with
    | some u, some v => sbin P b t u v
    | _, _ => none
  | .unOp u _ x => match g x with
    | some v => sun u v
    | none => none
  | .convert s d x => match g x with
    | some v => sconv P s d v
    | none => none
  | .call c => match c.callee, c.args.toList with
    | .builtin .min, [x, y] => match g x, g y with
      | some u, some v => smin u v
      | _, _ => none
    | .builtin .max, [x, y] => match g x, g y with
      | some u, some v => smax u v
      | _, _ => none
    | _, _ => none
  | _ => none

/-- An operation that asks nothing of the world, on values that share nothing. -/
noncomputable def dflt (P : Program) (st : St) (o : Oper) : Option (AV × Obs) :=
  match sop P (fun x => toV (ev st x)) o.op with
  | some v => some (.v v, st.ob)
  | none =>
    if o.op.operands.all (fun x => (toV (ev st x)).isSome) then
      (match pev P (execOp (fun x => (toV (ev st x)).getD undef) o) with
      | some (.value y) => some (.v y, st.ob)
      | _ => none) else none

/-- 'len' of a slice. -/
def slLen (P : Program) (b : Builtin) (args : List AV) (tys : List TypeId) : Option Nat :=
  match b, args, tys with
  | .len, [.sl _ es], [t] => (match sliceT P t with
    | some _ => some es.length
    | none => none)
  | _, _, _ => none

/-- The function that is called. -/
def calleeOf : AV → Option FuncId
  | .v (.func (.func g) fs cs) => if fs.isEmpty && cs.isEmpty then some g else none
  | _ => none

theorem calleeOf_eq {x : AV} {g : FuncId} (h : calleeOf x = some g) : x = .v (.func (.func g) #[] #[]) := by
  unfold calleeOf at h
  split at h
  case h_2 => cases h
  rename_i g' fs cs
  split at h
  case isFalse => cases h
  rename_i hc
  simp only [Option.some.injEq] at h
  subst h
  simp only [Bool.and_eq_true, Array.isEmpty_iff] at hc
  rw [hc.1, hc.2]

/-- What an operation yields, and the objects behind it. -/
noncomputable def eop (P : Program) (Γ : Ctx) (st : St) (o : Oper) : Option (AV × Obs) :=
  match o.op with
  | .move x => some (ev st x, st.ob)
  | .assign x => some (ev st x, st.ob)
  | .pick c a b => match ev st c with
    | .v (.bool t) => some (if t then ev st a else ev st b, st.ob)
    | _ => none
  | .alloc t => match o.dst, zeroT P t with
    | some d, some z => if (st.ob d).isNone then some (.ptr d 0, setF st.ob d (some (flat (.v z)))) else none
    | _, _ => none
  | .box _ x => match o.dst with
    | some d => if (st.ob d).isNone && live (ev st x) then some (.ptr d 0, setF st.ob d (some (flat (ev st x)))) else none
    | none => none
  | .load t x => match ev st x with
    | .ptr n k => match st.ob n with
      | some cs => (ldc P t cs k).map (·, st.ob)
      | none => none
    | .rptr y k => (ldc P t (flat y) k).map (·, st.ob)
    | _ => none
  | .store t x y => match ev st x with
    | .ptr n k => match st.ob n, sizeT P t with
      | some cs, some sz =>
        if (flat (ev st y)).length = sz ∧ k + sz ≤ cs.length ∧ (flat (ev st y)).all leafOk = true
        then some (.v undef, setF st.ob n (some (cs.take k ++ flat (ev st y) ++ cs.drop (k + sz)))) else none
      | _, _ => none
    | _ => none
  | .fieldAddr s x f => match fieldOff P s f with
    | some off => match ev st x with
      | .ptr n k => some (.ptr n (k + off), st.ob)
      | .rptr y k => some (.rptr y (k + off), st.ob)
      | _ => none
    | none => none
  | .indexAddr t x i => match ev st i with
    | .v (.int _ n) => match ev st x with
      | .sl sz es => if 0 ≤ n ∧ sliceT P t = some sz then (es[n.toNat]?).map fun y => (.rptr y 0, st.ob) else none
      | .ptr m k => match arrT P t with
        | some (len, s) => if 0 ≤ n ∧ n < len then some (.ptr m (k + n.toNat * s), st.ob) else none
        | none => none
      | _ => none
    | _ => none
  | .call c => match c.callee with
    | .value f => match calleeOf (ev st f) with
      | some g => match Γ g with
        | some F => if (c.args.toList.map (ev st)).all isPure then (F (c.args.toList.map (ev st))).map (·, st.ob) else none
        | none => none
      | none => none
    | .builtin b => match slLen P b (c.args.toList.map (ev st)) c.argTypes.toList with
      | some n => some (.v (goInt n), st.ob)
      | none => dflt P st o
    | _ => none
  | .select .. => none
  | _ => dflt P st o

/-- A function's contract: called with what reads as 'xs' it hands back what reads as 'F xs'; nothing that was there turns. -/
def Spec (P : Program) (f : FuncId) (F : Fun) : Prop :=
  ∀ (ok : Nat → Prop) (w : World) (xs : List AV) (ys : Array Value) (r : AV), F xs = some r → All2 (PV w ok) xs ys.toList →
    Calls P f ys w fun e w' => ∃ y, e = .returned y ∧ Below w.heap.size w w' ∧ PV w' (fun b => ok b ∨ w.heap.size ≤ b) r y

/-- The model enters function f. -/
def Enters (P : Program) (f : FuncId) : Prop := ∀ (args : Array Value) (w : World), (callFunc f args).run P w = .ok (.enter f args) w

def GOk (P : Program) (Γ : Ctx) : Prop := ∀ f F, Γ f = some F → Spec P f F ∧ Enters P f

end Cav
