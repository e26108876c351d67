import Derived.Test.YtmaiomgopbjfoaaGreatDoorK7
set_option linter.all false
namespace Mir
open Go

/-! # A machine for the kernel: what is known of the code is reckoned once -/
/-! ## Paths in trees -/
inductive Ps where
  | o
  | l (p : Ps)
  | r (p : Ps)
noncomputable def Ps.code : Ps → Nat
  | .o => 0
  | .l p => 2 * p.code + 1
  | .r p => 2 * p.code + 2
noncomputable def Ps.depth : Ps → Nat
  | .o => 0
  | .l p => p.depth + 1
  | .r p => p.depth + 1
theorem Ps.depth_le : ∀ p : Ps, 2 ^ p.depth ≤ p.code + 1
  | .o => Nat.le_refl _
  | .l p => by
    have := Ps.depth_le p
    simp only [Ps.depth, Ps.code, Nat.pow_succ]; omega
  | .r p => by
    have := Ps.depth_le p
    simp only [Ps.depth, Ps.code, Nat.pow_succ]; omega
noncomputable def pthF : Nat → Nat → Ps
  | 0, _ => .o
  | f + 1, n => match n with
    | 0 => .o
    | m + 1 => if m % 2 = 0 then .l (pthF f (m / 2)) else .r (pthF f (m / 2))
theorem pthF_code : ∀ (f n : Nat), n < 2 ^ f → (pthF f n).code = n
  | 0, n, h => by
    have : n = 0 := by simpa using h
    rw [this]; rfl
  | f + 1, 0, _ => rfl
  | f + 1, m + 1, h => by
    have hm : m / 2 < 2 ^ f := by rw [Nat.pow_succ] at h; omega
    unfold pthF
    simp only
    split
    · simp only [Ps.code, pthF_code f _ hm]; omega
    · simp only [Ps.code, pthF_code f _ hm]; omega
/-- A slot's path. -/
noncomputable def pth (n : Nat) : Ps := pthF 30 n
theorem pth_code {n : Nat} (h : n < 1073741824) : (pth n).code = n := pthF_code 30 n h
section
variable {β : Type}
noncomputable def getP (p : Ps) : Tr Value → Value :=
  Ps.rec (motive := fun _ => Tr Value → Value)
    (fun t => Tr.rec (motive := fun _ => Value) undef (fun v _ _ _ _ => Option.rec (motive := fun _ => Value) undef (fun x => x) v) t)
    (fun _ ih t => Tr.rec (motive := fun _ => Value) undef (fun _ l _ _ _ => ih l) t)
    (fun _ ih t => Tr.rec (motive := fun _ => Value) undef (fun _ _ r _ _ => ih r) t) p
theorem getP_eq : ∀ (p : Ps) (t : Tr Value), getP p t = getS t p.code
  | .o, .lf => rfl
  | .o, .nd v l r => by cases v <;> rfl
  | .l p, .lf => rfl
  | .l p, .nd v l r => by
    show getP p l = _
    rw [getP_eq p l]
    unfold getS
    simp only [Ps.code, Tr.get_succ]
    rw [if_pos (by omega)]
    congr 2; omega
  | .r p, .lf => rfl
  | .r p, .nd v l r => by
    show getP p r = _
    rw [getP_eq p r]
    unfold getS
    simp only [Ps.code, Tr.get_succ]
    rw [if_neg (by omega)]
    congr 2; omega
noncomputable def putP (p : Ps) : Tr Value → Value → (Tr Value → Option β) → Option β :=
  Ps.rec (motive := fun _ => Tr Value → Value → (Tr Value → Option β) → Option β)
    (fun t x k => Tr.rec (motive := fun _ => Option β) (k (.nd (some x) .lf .lf)) (fun _ l r _ _ => k (.nd (some x) l r)) t)
    (fun _ ih t x k => Tr.rec (motive := fun _ => Option β) (ih .lf x fun l => k (.nd none l .lf)) (fun v l r _ _ => ih l x fun l => k (.nd v l r)) t)
    (fun _ ih t x k => Tr.rec (motive := fun _ => Option β) (ih .lf x fun r => k (.nd none .lf r)) (fun v l r _ _ => ih r x fun r => k (.nd v l r)) t) p
theorem putP_eq (x : Value) : ∀ (p : Ps) (t : Tr Value) (f : Nat) (k : Tr Value → Option β), p.depth < f → putP p t x k = k (Tr.put (some x) f t p.code)
  | .o, t, f + 1, k, _ => by cases t <;> rfl
  | .l p, t, f + 1, k, h => by
    have h' : p.depth < f := by simp only [Ps.depth] at h; omega
    cases t with
    | lf =>
      show putP p .lf x (fun l => k (.nd none l .lf)) = _
      rw [putP_eq x p .lf f _ h', Ps.code]
      simp only [Tr.put]
      rw [if_pos (by omega), show 2 * p.code / 2 = p.code by omega]
    | nd v l r =>
      show putP p l x (fun l => k (.nd v l r)) = _
      rw [putP_eq x p l f _ h', Ps.code]
      simp only [Tr.put]
      rw [if_pos (by omega), show 2 * p.code / 2 = p.code by omega]
  | .r p, t, f + 1, k, h => by
    have h' : p.depth < f := by simp only [Ps.depth] at h; omega
    cases t with
    | lf =>
      show putP p .lf x (fun r => k (.nd none .lf r)) = _
      rw [putP_eq x p .lf f _ h', show Ps.code (.r p) = (2 * p.code + 1) + 1 from rfl]
      simp only [Tr.put]
      rw [if_neg (by omega), show (2 * p.code + 1) / 2 = p.code by omega]
    | nd v l r =>
      show putP p r x (fun r => k (.nd v l r)) = _
      rw [putP_eq x p r f _ h', show Ps.code (.r p) = (2 * p.code + 1) + 1 from rfl]
      simp only [Tr.put]
      rw [if_neg (by omega), show (2 * p.code + 1) / 2 = p.code by omega]
theorem putP_pth {x : Value} {t : Nat} {sl : Tr Value} {k : Tr Value → Option β} (h : t < 1073741824) : putP (pth t) sl x k = k (Tr.put (some x) 31 sl t) := by
  have hc := pth_code h
  have hd := Ps.depth_le (pth t)
  rw [hc] at hd
  have : (pth t).depth < 31 := by
    apply Nat.lt_of_not_le
    intro h31
    have := Nat.pow_le_pow_right (n := 2) (by decide) h31
    omega
  rw [putP_eq x (pth t) sl 31 k this, hc]
end

/-! ## Operands -/
inductive CO where
  | t (p : Ps)
  | c (v : Value)
noncomputable def cO : Operand → Option CO
  | .tmp t => if Nat.blt t 1073741824 then some (.t (pth t)) else none
  | .const v => if qc v then some (.c v) else none
  | .func f => some (.c (.func (.func f) #[] #[]))
  | .global _ => none
noncomputable def evO (x : CO) : Tr Value → Value := CO.rec (motive := fun _ => Tr Value → Value) (fun p => getP p) (fun v _ => v) x
theorem cO_ok {x : Operand} {c : CO} (h : cO x = some c) (sl : Tr Value) : evO c sl = ev (getS sl) x ∧ qd x = true := by
  unfold cO at h
  split at h
  · rename_i t
    split at h
    · rename_i ht
      rw [Nat.blt_eq] at ht
      cases h
      refine ⟨?_, rfl⟩
      show getP (pth t) sl = _
      rw [getP_eq, pth_code ht]
      rfl
    · cases h
  · split at h
    · rename_i hq
      cases h
      exact ⟨rfl, hq⟩
    · cases h
  · cases h; exact ⟨rfl, rfl⟩
  · cases h
noncomputable def cOL : List Operand → Option (List CO)
  | [] => some []
  | x :: r => match cO x, cOL r with
    | some c, some l => some (c :: l)
    | _, _ => none

/-! ## What is at hand -/
section
variable {β : Type}
noncomputable def asP (v : Value) (k : Nat → Nat → Option β) : Option β := match v with
  | .pointer a => Option.rec (motive := fun _ => Option β) none (fun a => Addr.rec (motive := fun _ => Option β) (fun b o s => Option.rec (motive := fun _ => Option β) (k b o) (fun _ => none) s) a) a
  | _ => none
theorem asP_some {v : Value} {k : Nat → Nat → Option β} {r : β} (h : asP v k = some r) : ∃ b o, v = .pointer (some ⟨b, o, none⟩) ∧ k b o = some r := by
  unfold asP at h
  split at h
  · rename_i a
    cases a with
    | none => cases h
    | some a =>
      obtain ⟨b, o, s⟩ := a
      cases s with
      | none => exact ⟨b, o, rfl, h⟩
      | some s => cases h
  · cases h
noncomputable def asS (v : Value) (k : Nat → Nat → Nat → Nat → Option β) : Option β := match v with
  | .slice a l c => Option.rec (motive := fun _ => Option β) none (fun a => Addr.rec (motive := fun _ => Option β) (fun b o s => Option.rec (motive := fun _ => Option β) (k b o l c) (fun _ => none) s) a) a
  | _ => none
theorem asS_some {v : Value} {k : Nat → Nat → Nat → Nat → Option β} {r : β} (h : asS v k = some r) : ∃ b o l c, v = .slice (some ⟨b, o, none⟩) l c ∧ k b o l c = some r := by
  unfold asS at h
  split at h
  · rename_i a l c
    cases a with
    | none => cases h
    | some a =>
      obtain ⟨b, o, s⟩ := a
      cases s with
      | none => exact ⟨b, o, l, c, rfl, h⟩
      | some s => cases h
  · cases h
noncomputable def asN (v : Value) (k : IntKind → Nat → Option β) : Option β := match v with
  | .int q n => Int.rec (motive := fun _ => Option β) (fun n => k q n) (fun _ => none) n
  | _ => none
theorem asN_some {v : Value} {k : IntKind → Nat → Option β} {r : β} (h : asN v k = some r) : ∃ q n, v = .int q (.ofNat n) ∧ k q n = some r := by
  unfold asN at h
  split at h
  · rename_i q n
    cases n with
    | ofNat n => exact ⟨q, n, rfl, h⟩
    | negSucc n => cases h
  · cases h
noncomputable def rowK (W : Tw) (b : Nat) (k : List Value → TypeId → Bool → Nat → Option β) : Option β :=
  Tw.rec (motive := fun _ => Option β) (fun t _ _ _ _ => Bool.rec (motive := fun _ => Option β) none
    (Option.rec (motive := fun _ => Option β) none (fun r => Row.rec (motive := fun _ => Option β) (fun cs e op z ob => Option.rec (motive := fun _ => Option β) (k cs e op z) (fun _ => none) ob) r) (t.get b))
    (Nat.ble b 9223372036854775807)) W
theorem rowK_some {W : Tw} {b : Nat} {k : List Value → TypeId → Bool → Nat → Option β} {r : β} (h : rowK W b k = some r) : ∃ cs e op z, W.get b = some ⟨cs, e, op, z, none⟩ ∧ k cs e op z = some r := by
  obtain ⟨t, nx, lim, rd, wr⟩ := W
  unfold rowK at h
  simp only at h
  unfold Tw.get
  cases hb : Nat.ble b 9223372036854775807 with
  | false => rw [hb] at h; cases h
  | true =>
    rw [hb] at h
    simp only at h ⊢
    cases hg : t.get b with
    | none => rw [hg] at h; cases h
    | some q =>
      rw [hg] at h
      obtain ⟨cs, e, op, z, ob⟩ := q
      cases ob with
      | none => exact ⟨cs, e, op, z, rfl, h⟩
      | some o => cases h
noncomputable def opb {α : Type} (x : Option (α × Tw)) (k : α → Tw → Option β) : Option β :=
  Option.rec (motive := fun _ => Option β) none (fun p => Prod.rec (motive := fun _ => Option β) (fun v W => k v W) p) x
theorem opb_some {α : Type} {x : Option (α × Tw)} {k : α → Tw → Option β} {r : β} (h : opb x k = some r) : ∃ v W, x = some (v, W) ∧ k v W = some r := by
  cases x with
  | none => cases h
  | some p => exact ⟨p.1, p.2, rfl, h⟩
/-- Cells to be stored. -/
noncomputable def celK (v : Value) (k : List Value → Option β) : Option β := match v with
  | .agg a => Array.rec (motive := fun _ => Option β) (fun l => List.rec (motive := fun _ => Option β) none (fun c r _ => k (c :: r)) l) a
  | .tuple _ => none
  | v => k [v]

/-! ## Operations -/
noncomputable def zLd (ag : Bool) (sz : Nat) (v : Value) (W : Tw) (k : Value → Tw → Option β) : Option β :=
  asP v fun b off => rowK W b fun cs _ _ _ => Bool.rec (motive := fun _ => Option β)
    (Option.rec (motive := fun _ => Option β) none (fun v => W.readK b fun W => k v W) (getR off cs))
    (Bool.rec (motive := fun _ => Option β) (fTake [] sz (drp off cs) fun vs => W.readK b fun W => k (.agg ⟨vs⟩) W) none (Nat.beq sz 0)) ag
theorem zLd_some {ag : Bool} {sz : Nat} {v : Value} {W : Tw} {k : Value → Tw → Option β} {r : β} (h : zLd ag sz v W k = some r) : ∃ a u W', v = .pointer (some a) ∧ loadR ag sz a W = some (u, W') ∧ k u W' = some r := by
  unfold zLd at h
  obtain ⟨b, off, rfl, h1⟩ := asP_some h
  clear h
  obtain ⟨cs, e, op, z, hg, h⟩ := rowK_some h1
  clear h1
  cases ag with
  | false =>
    simp only at h
    cases hv : getR off cs with
    | none => rw [hv] at h; cases h
    | some u =>
      rw [hv] at h
      simp only [Tw.readK_eq] at h
      refine ⟨_, u, W.read b, rfl, ?_, h⟩
      simp only [loadR, hg, hv, Tw.readK_eq]
  | true =>
    simp only at h
    cases hz : Nat.beq sz 0 with
    | true => rw [hz] at h; cases h
    | false =>
      rw [hz] at h
      simp only [fTake_eq] at h
      cases ht : takeL (drp off cs) sz with
      | none => rw [ht] at h; cases h
      | some vs =>
        rw [ht, Option.bind_some, Tw.readK_eq] at h
        refine ⟨_, _, W.read b, rfl, ?_, h⟩
        simp only [loadR, hg, hz, fTake_eq, ht, Option.bind_some, Tw.readK_eq]
noncomputable def zSt (sz : Nat) (v u : Value) (W : Tw) (k : Value → Tw → Option β) : Option β :=
  asP v fun b off => rowK W b fun cs e op z => celK u fun l => Bool.rec (motive := fun _ => Option β) none
    (fSet l off cs fun cs => W.setK b (some ⟨cs, e, op, z, none⟩) fun W => k undef W) (chk l sz)
theorem celK_some {v : Value} {k : List Value → Option β} {r : β} (h : celK v k = some r) : ∃ l, k l = some r ∧ ((∃ c s, v = .agg ⟨c :: s⟩ ∧ l = c :: s) ∨ ((∀ a, v ≠ .agg a) ∧ (∀ a, v ≠ .tuple a) ∧ l = [v])) := by
  cases v
  case agg xs =>
    obtain ⟨l⟩ := xs
    cases l with
    | nil => cases h
    | cons c s => exact ⟨_, h, .inl ⟨c, s, rfl, rfl⟩⟩
  case tuple xs => cases h
  all_goals exact ⟨_, h, .inr ⟨nofun, nofun, rfl⟩⟩
theorem zSt_some {sz : Nat} {v u : Value} {W : Tw} {k : Value → Tw → Option β} {r : β} (h : zSt sz v u W k = some r) : ∃ a W', v = .pointer (some a) ∧ storeR sz a u W = some ((), W') ∧ k undef W' = some r := by
  unfold zSt at h
  obtain ⟨b, off, rfl, h1⟩ := asP_some h
  clear h
  obtain ⟨cs, e, op, z, hg, h⟩ := rowK_some h1
  clear h1
  obtain ⟨l, h2, hl⟩ := celK_some h
  clear h
  have h := h2
  clear h2
  cases hc : chk l sz with
  | false => rw [hc] at h; cases h
  | true =>
    rw [hc] at h
    simp only [fSet_eq] at h
    split at h
    · rename_i hle
      rw [Tw.setK_eq] at h
      refine ⟨_, _, rfl, ?_, h⟩
      unfold storeR
      simp only [hg]
      rcases hl with ⟨c, s, rfl, rfl⟩ | ⟨h1, h2, rfl⟩
      · simp only [hc, fSet_eq, if_pos hle, Tw.setK_eq]
      · obtain ⟨k1, -⟩ := chk_eq hc
        have hsz : Nat.beq sz 1 = true := by rw [Nat.beq_eq]; simpa using k1.symm
        cases u
        case agg xs => exact absurd rfl (h1 _)
        case tuple xs => exact absurd rfl (h2 _)
        all_goals simp only [hsz, fSet_eq, if_pos hle, Tw.setK_eq]
    · cases h
end
end Mir

