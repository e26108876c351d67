import Derived.Test.YtmaiomgopbjfoaaGreatDoorK8
set_option linter.all false
namespace Mir
open Go

/-! ## Numbers, quickly -/
def kMax : IntKind → Nat
  | .i8 => 127 | .i16 => 32767 | .i32 => 2147483647 | .i64 => 9223372036854775807 | .u8 => 255 | .u16 => 65535 | .u32 => 4294967295 | .u64 => 18446744073709551615
def kBits : IntKind → Nat
  | .i8 => 8 | .i16 => 16 | .i32 => 32 | .i64 => 64 | .u8 => 8 | .u16 => 16 | .u32 => 32 | .u64 => 64
theorem kBits_eq (q : IntKind) : kBits q = q.bits := by cases q <;> rfl
theorem wrap_small {q : IntKind} {s : Nat} (h : Nat.ble s (kMax q) = true) : q.wrap (.ofNat s) = .ofNat s := by
  rw [Nat.ble_eq] at h
  cases q <;> simp [kMax] at h <;> simp [IntKind.wrap, IntKind.bits, IntKind.signed] <;> omega
theorem kMax_lt (q : IntKind) : kMax q < 2 ^ q.bits := by cases q <;> decide
section
noncomputable def okN (q : IntKind) (s : Nat) : Option Value := fN s fun s => Bool.rec (motive := fun _ => Option Value) none (some (.int q (.ofNat s))) (Nat.ble s (kMax q))
theorem okN_some {q : IntKind} {s : Nat} {v : Value} (h : okN q s = some v) : v = .int q (.ofNat s) ∧ Nat.ble s (kMax q) = true := by
  unfold okN at h
  rw [fN_eq] at h
  cases hb : Nat.ble s (kMax q) with
  | false => rw [hb] at h; cases h
  | true => rw [hb] at h; cases h; exact ⟨rfl, rfl⟩
noncomputable def okB (b : Bool) : Option Value := Bool.rec (motive := fun _ => Option Value) (some (.bool false)) (some (.bool true)) b
theorem okB_some {b : Bool} {v : Value} (h : okB b = some v) : v = .bool b := by cases b <;> cases h <;> rfl
/-- Two numbers of a kind. -/
noncomputable def bz (b : BinOp) (q : IntKind) (m n : Nat) : Option Value := match b with
  | .add => okN q (Nat.add m n)
  | .sub => Bool.rec (motive := fun _ => Option Value) none (okN q (Nat.sub m n)) (Nat.ble n m)
  | .mul => okN q (Nat.mul m n)
  | .quo => Bool.rec (motive := fun _ => Option Value) (okN q (Nat.div m n)) none (Nat.beq n 0)
  | .rem => Bool.rec (motive := fun _ => Option Value) (okN q (Nat.mod m n)) none (Nat.beq n 0)
  | .eql => okB (Nat.beq m n)
  | .neq => Bool.rec (motive := fun _ => Option Value) (some (.bool true)) (some (.bool false)) (Nat.beq m n)
  | .lss => okB (Nat.blt m n)
  | .leq => okB (Nat.ble m n)
  | .gtr => okB (Nat.blt n m)
  | .geq => okB (Nat.ble n m)
  | .and => Bool.rec (motive := fun _ => Option Value) none (Bool.rec (motive := fun _ => Option Value) none (okN q (Nat.land m n)) (Nat.ble n (kMax q))) (Nat.ble m (kMax q))
  | .or => Bool.rec (motive := fun _ => Option Value) none (Bool.rec (motive := fun _ => Option Value) none (okN q (Nat.lor m n)) (Nat.ble n (kMax q))) (Nat.ble m (kMax q))
  | .xor => Bool.rec (motive := fun _ => Option Value) none (Bool.rec (motive := fun _ => Option Value) none (okN q (Nat.xor m n)) (Nat.ble n (kMax q))) (Nat.ble m (kMax q))
  | .shl => none
  | .shr => none
  | .andNot => none
theorem ofInt_nat {q : IntKind} {m : Nat} (h : Nat.ble m (kMax q) = true) : (BitVec.ofInt q.bits (.ofNat m)).toNat = m := by
  rw [Nat.ble_eq] at h
  have := kMax_lt q
  show (BitVec.ofInt q.bits (m : Int)).toNat = m
  rw [BitVec.ofInt_natCast, BitVec.toNat_ofNat]
  exact Nat.mod_eq_of_lt (by omega)
theorem bz_eq {b : BinOp} {t : TypeId} {q : IntKind} {m n : Nat} {v : Value} (h : bz b q m n = some v) : binOp b t (.int q (.ofNat m)) (.int q (.ofNat n)) = pure v := by
  have two : ∀ {x : Option Value}, (Bool.rec (motive := fun _ => Option Value) none (Bool.rec (motive := fun _ => Option Value) none x (Nat.ble n (kMax q))) (Nat.ble m (kMax q))) = some v → x = some v ∧ Nat.ble n (kMax q) = true ∧ Nat.ble m (kMax q) = true := by
    intro x hx
    cases h1 : Nat.ble m (kMax q) <;> rw [h1] at hx
    · cases hx
    · cases h2 : Nat.ble n (kMax q) <;> rw [h2] at hx
      · cases hx
      · exact ⟨hx, rfl, rfl⟩
  cases b <;> simp only [bz] at h
  case add =>
    obtain ⟨rfl, h1⟩ := okN_some h
    simp only [binOp, Op.intArith, ne_eq, not_true, if_false]
    rw [show (Int.ofNat m + Int.ofNat n) = Int.ofNat (Nat.add m n) from rfl, wrap_small h1]
  case sub =>
    cases hb : Nat.ble n m <;> rw [hb] at h
    · cases h
    · obtain ⟨rfl, h1⟩ := okN_some h
      rw [Nat.ble_eq] at hb
      simp only [binOp, Op.intArith, ne_eq, not_true, if_false]
      rw [show (Int.ofNat m - Int.ofNat n) = Int.ofNat (Nat.sub m n) by
        show (m : Int) - (n : Int) = ((m - n : Nat) : Int)
        omega, wrap_small h1]
  case mul =>
    obtain ⟨rfl, h1⟩ := okN_some h
    simp only [binOp, Op.intArith, ne_eq, not_true, if_false]
    rw [show (Int.ofNat m * Int.ofNat n) = Int.ofNat (Nat.mul m n) from rfl, wrap_small h1]
  case quo =>
    cases hb : Nat.beq n 0 <;> rw [hb] at h
    · obtain ⟨rfl, h1⟩ := okN_some h
      have hn : Int.ofNat n ≠ 0 := fun hc => by
        have : n = 0 := by exact Int.ofNat.inj hc
        rw [this] at hb; cases hb
      simp only [binOp, Op.intDiv, ne_eq, not_true, if_false, hn]
      rw [show (Int.ofNat m).tdiv (Int.ofNat n) = Int.ofNat (Nat.div m n) from rfl, wrap_small h1]
    · cases h
  case rem =>
    cases hb : Nat.beq n 0 <;> rw [hb] at h
    · obtain ⟨rfl, h1⟩ := okN_some h
      have hn : Int.ofNat n ≠ 0 := fun hc => by
        have : n = 0 := by exact Int.ofNat.inj hc
        rw [this] at hb; cases hb
      simp only [binOp, Op.intDiv, ne_eq, not_true, if_false, hn]
      rfl
    · cases h
  case eql =>
    have := okB_some h; subst this
    simp only [binOp, Op.intCmp, ne_eq, not_true, if_false]
    congr 2
    rw [Bool.eq_iff_iff]
    simp only [beq_iff_eq, Nat.beq_eq]
    exact ⟨fun h => Int.ofNat.inj h, fun h => by rw [h]⟩
  case neq =>
    have hv : v = .bool (!(Nat.beq m n)) := by
      cases hb : Nat.beq m n <;> rw [hb] at h <;> cases h <;> rfl
    subst hv
    simp only [binOp, Op.intCmp, ne_eq, not_true, if_false]
    congr 2
    unfold bne
    congr 1
    rw [Bool.eq_iff_iff]
    simp only [beq_iff_eq, Nat.beq_eq]
    exact ⟨fun h => Int.ofNat.inj h, fun h => by rw [h]⟩
  case lss =>
    have := okB_some h; subst this
    simp only [binOp, Op.intCmp, ne_eq, not_true, if_false]
    congr 2
    rw [Bool.eq_iff_iff]
    simp only [decide_eq_true_eq, Nat.blt_eq]
    exact Int.ofNat_lt
  case leq =>
    have := okB_some h; subst this
    simp only [binOp, Op.intCmp, ne_eq, not_true, if_false]
    congr 2
    rw [Bool.eq_iff_iff]
    simp only [decide_eq_true_eq, Nat.ble_eq]
    exact Int.ofNat_le
  case gtr =>
    have := okB_some h; subst this
    simp only [binOp, Op.intCmp, ne_eq, not_true, if_false]
    congr 2
    rw [Bool.eq_iff_iff]
    simp only [decide_eq_true_eq, Nat.blt_eq]
    exact Int.ofNat_lt
  case geq =>
    have := okB_some h; subst this
    simp only [binOp, Op.intCmp, ne_eq, not_true, if_false]
    congr 2
    rw [Bool.eq_iff_iff]
    simp only [decide_eq_true_eq, Nat.ble_eq]
    exact Int.ofNat_le
  case and =>
    obtain ⟨h1, h2, h3⟩ := two h
    obtain ⟨rfl, h4⟩ := okN_some h1
    simp only [binOp, Op.intBits, ne_eq, not_true, if_false]
    rw [BitVec.toNat_and, ofInt_nat h3, ofInt_nat h2]
    have e : ((m &&& n : Nat) : Int) = .ofNat (Nat.land m n) := rfl
    rw [e, wrap_small h4]
  case or =>
    obtain ⟨h1, h2, h3⟩ := two h
    obtain ⟨rfl, h4⟩ := okN_some h1
    simp only [binOp, Op.intBits, ne_eq, not_true, if_false]
    rw [BitVec.toNat_or, ofInt_nat h3, ofInt_nat h2]
    have e : ((m ||| n : Nat) : Int) = .ofNat (Nat.lor m n) := rfl
    rw [e, wrap_small h4]
  case xor =>
    obtain ⟨h1, h2, h3⟩ := two h
    obtain ⟨rfl, h4⟩ := okN_some h1
    simp only [binOp, Op.intBits, ne_eq, not_true, if_false]
    rw [BitVec.toNat_xor, ofInt_nat h3, ofInt_nat h2]
    have e : ((m ^^^ n : Nat) : Int) = .ofNat (Nat.xor m n) := rfl
    rw [e, wrap_small h4]
  all_goals cases h
/-- A number moved. -/
noncomputable def bzs (b : BinOp) (q : IntKind) (m n : Nat) : Option Value := Bool.rec (motive := fun _ => Option Value) none (match b with
  | .shl => okN q (Nat.mul m (Nat.pow 2 n))
  | .shr => okN q (Nat.div m (Nat.pow 2 n))
  | _ => none) (Nat.ble n (kBits q))
theorem bzs_eq {b : BinOp} {t : TypeId} {q j : IntKind} {m n : Nat} {v : Value} (h : bzs b q m n = some v) : binOp b t (.int q (.ofNat m)) (.int j (.ofNat n)) = pure v := by
  unfold bzs at h
  cases hb : Nat.ble n (kBits q) <;> rw [hb] at h
  · cases h
  · rw [Nat.ble_eq, kBits_eq] at hb
    have hn : ¬ Int.ofNat n < 0 := by
      have : (0 : Int) ≤ Int.ofNat n := Int.natCast_nonneg n
      omega
    have hmin : min (Int.ofNat n).toNat q.bits = n := by
      show min n q.bits = n
      omega
    cases b <;> simp only at h
    case shl =>
      obtain ⟨rfl, h1⟩ := okN_some h
      simp only [binOp, Op.shift, hn, if_false, hmin]
      have e : (Int.ofNat m * 2 ^ n) = Int.ofNat (Nat.mul m (Nat.pow 2 n)) := by
        show (m : Int) * 2 ^ n = ((m * 2 ^ n : Nat) : Int)
        simp
      rw [e, wrap_small h1]
    case shr =>
      obtain ⟨rfl, h1⟩ := okN_some h
      simp only [binOp, Op.shift, hn, if_false, hmin]
      have e : (Int.ofNat m).fdiv (2 ^ n) = Int.ofNat (Nat.div m (Nat.pow 2 n)) := by
        have : ((2 : Int) ^ n) = ((2 ^ n : Nat) : Int) := by simp
        rw [this]
        show (m : Int).fdiv ((2 ^ n : Nat) : Int) = ((m / 2 ^ n : Nat) : Int)
        rw [Int.fdiv_eq_ediv_of_nonneg _ (Int.natCast_nonneg _)]
        simp
      rw [e]
    all_goals cases h
noncomputable def isSh : BinOp → Bool
  | .shl | .shr => true
  | _ => false
theorem brT {α : Type} {x : Option α} {b : Bool} {v : α} (h : Bool.rec (motive := fun _ => Option α) none x b = some v) : x = some v := by
  cases b
  · cases h
  · exact h
theorem brF {α : Type} {x : Option α} {b : Bool} {v : α} (h : Bool.rec (motive := fun _ => Option α) x none b = some v) : x = some v := by
  cases b
  · exact h
  · cases h
def kQ : IntKind → Nat
  | .i8 => 0 | .i16 => 1 | .i32 => 2 | .i64 => 3 | .u8 => 4 | .u16 => 5 | .u32 => 6 | .u64 => 7
theorem kQ_inj {a b : IntKind} (h : Nat.beq (kQ a) (kQ b) = true) : a = b := by
  rw [Nat.beq_eq] at h
  cases a <;> cases b <;> first | rfl | cases h
/-- Numbers of two kinds. -/
noncomputable def bzz (b : BinOp) (x y : Value) : Option Value :=
  asN x fun q m => asN y fun j n => Bool.rec (motive := fun _ => Option Value)
    (Bool.rec (motive := fun _ => Option Value) none (bz b q m n) (Nat.beq (kQ q) (kQ j))) (bzs b q m n) (isSh b)
theorem bzz_eq {b : BinOp} {t : TypeId} {x y v : Value} (h : bzz b x y = some v) : binQ b t x y = some v := by
  unfold bzz at h
  obtain ⟨q, m, rfl, h1⟩ := asN_some h
  obtain ⟨j, n, rfl, h2⟩ := asN_some h1
  clear h h1
  have sc : ∀ {v : Value}, bz b q m n = some v ∨ bzs b q m n = some v → scal v = true := by
    intro v hv
    rcases hv with hv | hv
    · cases b <;> simp only [bz] at hv
      all_goals first
        | (obtain ⟨rfl, -⟩ := okN_some hv; rfl)
        | (have := okB_some hv; subst this; rfl)
        | (cases hv; done)
        | skip
      case neq => cases hb : Nat.beq m n <;> rw [hb] at hv <;> cases hv <;> rfl
      case sub => obtain ⟨rfl, -⟩ := okN_some (brT hv); rfl
      case quo => obtain ⟨rfl, -⟩ := okN_some (brF hv); rfl
      case rem => obtain ⟨rfl, -⟩ := okN_some (brF hv); rfl
      all_goals (obtain ⟨rfl, -⟩ := okN_some (brT (brT hv)); rfl)
    · unfold bzs at hv
      cases hb : Nat.ble n (kBits q) <;> rw [hb] at hv
      · cases hv
      · cases b <;> simp only at hv
        all_goals first
          | (obtain ⟨rfl, -⟩ := okN_some hv; rfl)
          | cases hv
  have fin : binOp b t (.int q (.ofNat m)) (.int j (.ofNat n)) = pure v → scal v = true → binQ b t (.int q (.ofNat m)) (.int j (.ofNat n)) = some v := by
    intro e1 e2
    unfold binQ
    simp only
    rw [e1]
    show (if scal v then some v else none) = _
    rw [if_pos e2]
  cases hs : isSh b <;> rw [hs] at h2
  · cases hk : Nat.beq (kQ q) (kQ j) <;> rw [hk] at h2
    · cases h2
    · have := kQ_inj hk
      subst this
      exact fin (bz_eq h2) (sc (.inl h2))
  · exact fin (bzs_eq h2) (sc (.inr h2))
/-- A number as one of another kind. -/
noncomputable def cvz (k : IntKind) (n : Int) : Int := Int.rec (motive := fun _ => Int) (fun m => Bool.rec (motive := fun _ => Int) (k.wrap (.ofNat m)) (.ofNat m) (Nat.ble m (kMax k))) (fun m => k.wrap (.negSucc m)) n
theorem cvz_eq (k : IntKind) (n : Int) : cvz k n = k.wrap n := by
  cases n with
  | ofNat m =>
    show Bool.rec (motive := fun _ => Int) (k.wrap (.ofNat m)) (.ofNat m) (Nat.ble m (kMax k)) = _
    cases h : Nat.ble m (kMax k) with
    | false => rfl
    | true => exact (wrap_small h).symm
  | negSucc m => rfl
end
end Mir

