import Derived.Test.YtmaiomgopbjfoaaGreatDoorK5
set_option linter.all false
namespace Mir
open Go

/-! ## Rows, quickly: what changes alone is reckoned out -/
section
variable {β : Type}
noncomputable def fPut (vs : List Value) : List Value → (List Value → Option β) → Option β :=
  List.rec (motive := fun _ => List Value → (List Value → Option β) → Option β) (fun l k => k l)
    (fun v _ ih l k => List.rec (motive := fun _ => Option β) none (fun _ r _ => ih r fun r' => k (v :: r')) l) vs
noncomputable def fSet (vs : List Value) (o : Nat) : List Value → (List Value → Option β) → Option β :=
  Nat.rec (motive := fun _ => List Value → (List Value → Option β) → Option β) (fun l k => fPut vs l k)
    (fun _ ih l k => List.rec (motive := fun _ => Option β) none (fun x r _ => ih r fun r' => k (x :: r')) l) o
noncomputable def fTake (tl : List Value) (n : Nat) : List Value → (List Value → Option β) → Option β :=
  Nat.rec (motive := fun _ => List Value → (List Value → Option β) → Option β) (fun _ k => k tl)
    (fun _ ih l k => List.rec (motive := fun _ => Option β) none (fun x r _ => ih r fun r' => k (x :: r')) l) n
noncomputable def fTakeO (n : Nat) : List Value → (List Value → Option β) → Option β :=
  Nat.rec (motive := fun _ => List Value → (List Value → Option β) → Option β) (fun _ k => k [])
    (fun _ ih l k => List.rec (motive := fun _ => Option β) none (fun x r _ => match one x with
      | true => ih r fun r' => k (x :: r')
      | false => none) l) n
noncomputable def drp (o : Nat) : List Value → List Value :=
  Nat.rec (motive := fun _ => List Value → List Value) (fun l => l) (fun _ ih l => List.rec (motive := fun _ => List Value) [] (fun _ r _ => ih r) l) o
theorem drp_eq : ∀ (o : Nat) (l : List Value), drp o l = l.drop o
  | 0, l => rfl
  | o + 1, [] => by simp [drp]
  | o + 1, x :: r => by
    show drp o r = _
    rw [drp_eq o r]; rfl
theorem fPut_eq : ∀ (vs l : List Value) (k : List Value → Option β), fPut vs l k = if vs.length ≤ l.length then k (vs ++ l.drop vs.length) else none
  | [], l, k => by
    show k l = _
    simp
  | v :: vs, [], k => by
    show none = _
    simp
  | v :: vs, x :: r, k => by
    show fPut vs r (fun r' => k (v :: r')) = _
    rw [fPut_eq vs r]
    simp
theorem fSet_eq (vs : List Value) : ∀ (o : Nat) (l : List Value) (k : List Value → Option β), fSet vs o l k = if o + vs.length ≤ l.length then k (setLs l o vs) else none
  | 0, l, k => by
    show fPut vs l k = _
    rw [fPut_eq]
    simp [setLs]
  | o + 1, [], k => by
    show none = _
    rw [if_neg (by simp)]
  | o + 1, x :: r, k => by
    show fSet vs o r (fun r' => k (x :: r')) = _
    rw [fSet_eq vs o r]
    have e : (o + 1 + vs.length ≤ (x :: r).length) = (o + vs.length ≤ r.length) := by
      simp only [List.length_cons, eq_iff_iff]; omega
    simp only [e]
    congr 1
    have e2 : o + 1 + vs.length = (o + vs.length) + 1 := by omega
    simp only [setLs, e2, List.take_succ_cons, List.drop_succ_cons, List.cons_append]
theorem fTake_eq (tl : List Value) : ∀ (n : Nat) (l : List Value) (k : List Value → Option β), fTake tl n l k = (takeL l n).bind fun vs => k (vs ++ tl)
  | 0, l, k => by
    show k tl = _
    rw [takeL]; simp
  | n + 1, [], k => by
    show none = _
    rfl
  | n + 1, x :: r, k => by
    show fTake tl n r (fun r' => k (x :: r')) = _
    rw [fTake_eq tl n r, takeL]
    cases takeL r n <;> rfl
theorem fTakeO_eq : ∀ (n : Nat) (l : List Value) (k : List Value → Option β), fTakeO n l k = (takeL l n).bind fun vs => if vs.all one then k vs else none
  | 0, l, k => by
    show k [] = _
    rw [takeL]; simp
  | n + 1, [], k => by
    show none = _
    rfl
  | n + 1, x :: r, k => by
    have h : fTakeO (n + 1) (x :: r) k = (match one x with
      | true => fTakeO n r fun r' => k (x :: r')
      | false => none) := rfl
    rw [h, takeL]
    cases h1 : one x with
    | true =>
      simp only
      rw [fTakeO_eq n r]
      cases takeL r n with
      | none => rfl
      | some l => simp [h1]
    | false =>
      cases takeL r n with
      | none => rfl
      | some l => simp [h1]
noncomputable def chk (l : List Value) : Nat → Bool :=
  List.rec (motive := fun _ => Nat → Bool) (fun n => Nat.beq n 0) (fun v _ ih n => Nat.rec (motive := fun _ => Bool) false (fun m _ => match one v with
    | true => ih m
    | false => false) n) l
theorem chk_eq : ∀ {l : List Value} {n : Nat}, chk l n = true → l.length = n ∧ l.all one = true
  | [], n, h => by
    have h' : Nat.beq n 0 = true := h
    rw [Nat.beq_eq] at h'
    simp [h']
  | v :: r, 0, h => by cases h
  | v :: r, n + 1, h => by
    have h' : (match one v with
      | true => chk r n
      | false => false) = true := h
    split at h'
    · rename_i h1
      obtain ⟨h2, h3⟩ := chk_eq h'
      simp [h2, h1]
      simpa using h3
    · cases h'
noncomputable def Tw.setK (W : Tw) (n : Nat) (q : Option Row) (k : Tw → Option β) : Option β := match W with
  | ⟨t, nx, lim, rd, wr⟩ => fT q 64 t n fun t => wr.fadd n fun wr => k ⟨t, nx, lim, rd, wr⟩
theorem Tw.setK_eq (W : Tw) (n : Nat) (q : Option Row) (k : Tw → Option β) : W.setK n q k = k ((W.set n q).wrote n) := by
  obtain ⟨t, nx, lim, rd, wr⟩ := W
  simp only [Tw.setK, fT_eq, Lg.fadd_eq]
  rfl
noncomputable def Tw.readK (W : Tw) (n : Nat) (k : Tw → Option β) : Option β := match W with
  | ⟨t, nx, lim, rd, wr⟩ => rd.fadd n fun rd => k ⟨t, nx, lim, rd, wr⟩
theorem Tw.readK_eq (W : Tw) (n : Nat) (k : Tw → Option β) : W.readK n k = k (W.read n) := by
  obtain ⟨t, nx, lim, rd, wr⟩ := W
  simp only [Tw.readK, Lg.fadd_eq]
  rfl
noncomputable def Tw.layK (W : Tw) (q : Row) (k : Nat → Tw → Option β) : Option β := match W with
  | ⟨t, nx, lim, rd, wr⟩ => match Nat.blt nx lim, Nat.ble nx 9223372036854775807 with
    | true, true => fT (some q) 64 t nx fun t => wr.fadd nx fun wr => fN (nx + 1) fun nx1 => k nx ⟨t, nx1, lim, rd, wr⟩
    | _, _ => none
theorem Tw.layK_eq (W : Tw) (q : Row) (k : Nat → Tw → Option β) : W.layK q k = (W.lay q).bind fun p => k p.1 p.2 := by
  rw [lay_eq]
  obtain ⟨t, nx, lim, rd, wr⟩ := W
  simp only [Tw.layK, fT_eq, Lg.fadd_eq, fN_eq]
  cases Nat.blt nx lim <;> cases Nat.ble nx 9223372036854775807 <;> rfl
end

/-! ### store, load -/
noncomputable def storeR (sz : Nat) (a : Addr) (v : Value) (W : Tw) : Option (Unit × Tw) := match a with
  | ⟨b, off, none⟩ => match W.get b with
    | some ⟨cs, e, op, z, none⟩ => match v with
      | .agg ⟨c :: r⟩ => match chk (c :: r) sz with
        | true => fSet (c :: r) off cs fun cs' => W.setK b (some ⟨cs', e, op, z, none⟩) fun W' => some ((), W')
        | false => none
      | .agg ⟨[]⟩ => none
      | .tuple _ => none
      | v => match Nat.beq sz 1 with
        | true => fSet [v] off cs fun cs' => W.setK b (some ⟨cs', e, op, z, none⟩) fun W' => some ((), W')
        | false => none
    | _ => none
  | _ => none
theorem setLs_one {v : Value} {cs : List Value} {o : Nat} (h : o < cs.length) : setLs cs o [v] = setL v cs o := by
  rw [← setLs_cons (vs := []) h]
  simp [setLs]
theorem storeR_eq {ti : TI} {a : Addr} {v : Value} {W : Tw} {r : Unit × Tw} (h : storeR ti.sz a v W = some r) : storeQ ti a v W = some r := by
  unfold storeR at h
  split at h
  · rename_i b off
    split at h
    · rename_i cs e op z hg
      have one' : one v = true → (if ti.sz == 1 then setT ⟨b, off, none⟩ v W else none) = some r → (match Nat.beq ti.sz 1 with
          | true => fSet [v] off cs fun cs' => W.setK b (some ⟨cs', e, op, z, none⟩) fun W' => some ((), W')
          | false => none) = some r → True := fun _ _ _ => trivial
      split at h
      · rename_i c rs
        split at h
        · rename_i hc
          obtain ⟨h1, h2⟩ := chk_eq hc
          rw [fSet_eq] at h
          split at h
          · rename_i hle
            rw [Tw.setK_eq] at h
            unfold storeQ
            simp only
            have hb : ((c :: rs).length == ti.sz) = true := by rw [h1]; simp
            rw [if_pos (by rw [hb, h2]; rfl), upd_eq, hg]
            simp only
            rw [if_pos hle]
            exact h
          · cases h
        · cases h
      · cases h
      · cases h
      · rename_i hn1 hn2 hn3
        split at h
        · rename_i hs
          rw [Nat.beq_eq] at hs
          rw [fSet_eq] at h
          split at h
          · rename_i hle
            rw [Tw.setK_eq] at h
            have h1 : one v = true := by
              cases v <;> first | rfl | skip
              · rename_i xs
                obtain ⟨l⟩ := xs
                cases l with
                | nil => exact absurd rfl hn2
                | cons c r => exact absurd rfl (hn1 c r)
              · exact absurd rfl (hn3 _)
            have hlt : off < cs.length := by simp at hle; omega
            rw [setLs_one hlt] at h
            have hst : setT ⟨b, off, none⟩ v W = some r := by
              unfold setT
              simp only [upd_eq, hg, h1, Bool.true_and]
              rw [if_pos (by simpa using hlt)]
              exact h
            unfold storeQ
            split
            · exact absurd rfl hn2
            · exact absurd rfl (hn1 _ _)
            · exact absurd rfl (hn3 _)
            · rw [if_pos (by rw [hs]; rfl)]
              exact hst
          · cases h
        · cases h
    · cases h
  · cases h
noncomputable def getR (o : Nat) : List Value → Option Value :=
  Nat.rec (motive := fun _ => List Value → Option Value) (fun l => List.rec (motive := fun _ => Option Value) none (fun x _ _ => some x) l)
    (fun _ ih l => List.rec (motive := fun _ => Option Value) none (fun _ r _ => ih r) l) o
theorem getR_eq : ∀ (o : Nat) (l : List Value), getR o l = getL l o
  | 0, [] => rfl
  | 0, x :: r => rfl
  | o + 1, [] => rfl
  | o + 1, x :: r => by
    show getR o r = _
    rw [getR_eq o r, getL]
noncomputable def loadR (ag : Bool) (sz : Nat) (a : Addr) (W : Tw) : Option (Value × Tw) := match a with
  | ⟨b, off, none⟩ => match W.get b with
    | some ⟨cs, _, _, _, none⟩ => match ag with
      | false => match getR off cs with
        | some v => W.readK b fun W' => some (v, W')
        | none => none
      | true => match Nat.beq sz 0 with
        | true => none
        | false => fTake [] sz (drp off cs) fun vs => W.readK b fun W' => some (.agg ⟨vs⟩, W')
    | _ => none
  | _ => none
theorem loadR_eq {ti : TI} {a : Addr} {W : Tw} {r : Value × Tw} (h : loadR ti.ag ti.sz a W = some r) : loadQ ti a W = some r := by
  unfold loadR at h
  split at h
  · rename_i b off
    split at h
    · rename_i cs e op z hg
      unfold loadQ
      split at h
      · rename_i hag
        rw [hag]
        split at h
        · rename_i v hv
          rw [Tw.readK_eq] at h
          rw [getR_eq] at hv
          simp only
          rw [cellT_at (r := ⟨cs, e, op, z, none⟩) rfl hg rfl hv]
          exact h
        · cases h
      · rename_i hag
        rw [hag]
        split at h
        · cases h
        · rename_i hz
          rw [fTake_eq, drp_eq] at h
          cases ht : takeL (cs.drop off) ti.sz with
          | none => rw [ht] at h; cases h
          | some vs =>
            rw [ht, Option.bind_some, Tw.readK_eq, List.append_nil] at h
            cases hsz : ti.sz with
            | zero => rw [hsz] at hz; cases hz
            | succ n =>
              simp only
              rw [hsz] at ht
              have : cellsT ⟨b, off, none⟩ (n + 1) W = some (vs, W.read b) := by
                unfold cellsT
                simp only [look_eq, hg, Option.bind_some, ht, Option.map_some]
              rw [this]
              exact h
    · cases h
  · cases h

/-! ### append -/
noncomputable def roomR {β : Type} (a : Addr) (o : Nat) (news : List Value) (W : Tw) (k : Tw → Option β) : Option β := match a with
  | ⟨b, off, none⟩ => match W.get b with
    | some ⟨cs, e, op, z, none⟩ => fSet news (Nat.add off o) cs fun cs' => W.setK b (some ⟨cs', e, op, z, none⟩) k
    | _ => none
  | _ => none
theorem roomR_eq {β : Type} {a : Addr} {o : Nat} {news : List Value} {W : Tw} {k : Tw → Option β} {r : β} (h : roomR a o news W k = some r) : (roomT a o news W).bind (fun q => k q.2) = some r := by
  unfold roomR at h
  split at h
  · rename_i b off
    split at h
    · rename_i cs e op z hg
      rw [fSet_eq] at h
      split at h
      · rename_i hle
        rw [Tw.setK_eq] at h
        unfold roomT
        simp only [upd_eq, hg]
        have hle' : off + o + news.length ≤ cs.length := hle
        rw [if_pos hle']
        exact h
      · cases h
    · cases h
  · cases h
/-- A row grows out of one that stays, or that is forgotten. -/
noncomputable def growR (kl : Bool) (e z : Nat) (a : Addr) (l need : Nat) (news : List Value) (W : Tw) : Option (Value × Tw) := match a with
  | ⟨b, off, none⟩ => match W.get b with
    | some ⟨cs, e', op, z', none⟩ => fTake news (Nat.mul l z) (drp off cs) fun all => W.readK b fun W => match kl with
      | false => W.layK ⟨all, e, true, z, none⟩ fun n W => some (.slice (some ⟨n, 0, none⟩) need (big + need), W)
      | true => match op, Nat.beq z' z, Nat.beq e' e with
        | true, true, true => W.setK b none fun W => W.layK ⟨all, e, true, z, none⟩ fun n W => some (.slice (some ⟨n, 0, none⟩) need (big + need), W)
        | _, _, _ => none
    | _ => none
  | _ => none
theorem takeL_len {l vs : List Value} {n : Nat} (h : takeL l n = some vs) : vs.length = n := (takeL_some h).1
theorem growR_false {e z : Nat} {a : Addr} {l n : Nat} {news : List Value} {W : Tw} {r : Value × Tw} (hn : news.length = n * z) (h : growR false e z a l (l + n) news W = some r) :
    (cellsT a (l * z) W).bind (fun q => growT e z q.1 news (l + n) q.2) = some r := by
  unfold growR at h
  split at h
  · rename_i b off
    split at h
    · rename_i cs e' op z' hg
      rw [fTake_eq, drp_eq] at h
      have e0 : Nat.mul l z = l * z := rfl
      rw [e0] at h
      cases ht : takeL (cs.drop off) (l * z) with
      | none => rw [ht] at h; cases h
      | some vs =>
        rw [ht, Option.bind_some, Tw.readK_eq] at h
        simp only [Tw.layK_eq] at h
        have hc : cellsT ⟨b, off, none⟩ (l * z) W = some (vs, W.read b) := by
          unfold cellsT
          simp only [look_eq, hg, Option.bind_some, ht, Option.map_some]
        rw [hc, Option.bind_some]
        unfold growT
        rw [if_pos (by rw [List.length_append, hn, takeL_len ht, Nat.add_mul])]
        exact h
    · cases h
  · cases h
theorem growR_true {e z : Nat} {a : Addr} {l n : Nat} {news : List Value} {W : Tw} {r : Value × Tw} (hn : news.length = n * z) (h : growR true e z a l (l + n) news W = some r) :
    (cellsT a (l * z) W).bind (fun q => (killZ a.block z e q.2).bind fun k => growT e z q.1 news (l + n) k.2) = some r := by
  unfold growR at h
  split at h
  · rename_i b off
    split at h
    · rename_i cs e' op z' hg
      rw [fTake_eq, drp_eq] at h
      have e0 : Nat.mul l z = l * z := rfl
      rw [e0] at h
      cases ht : takeL (cs.drop off) (l * z) with
      | none => rw [ht] at h; cases h
      | some vs =>
        rw [ht, Option.bind_some, Tw.readK_eq] at h
        simp only at h
        split at h
        · rename_i ho h1 h2
          rw [Nat.beq_eq] at h1 h2
          subst h1 h2
          rw [Tw.setK_eq, Tw.layK_eq] at h
          have hc : cellsT ⟨b, off, none⟩ (l * z') W = some (vs, W.read b) := by
            unfold cellsT
            simp only [look_eq, hg, Option.bind_some, ht, Option.map_some]
          rw [hc, Option.bind_some]
          unfold killZ
          rw [upd_eq, Tw.get_read, hg]
          simp only [decide_true, Bool.and_self, if_true, Option.bind_some]
          unfold growT
          rw [if_pos (by rw [List.length_append, hn, takeL_len ht, Nat.add_mul])]
          exact h
        · cases h
    · cases h
  · cases h
noncomputable def appNR (e z by' : Nat) (base : Option Addr) (l c n : Nat) (news : List Value) (W : Tw) : Option (Value × Tw) := fN (Nat.add l n) fun need => match Nat.blt c big with
  | true => match Nat.ble need c with
    | true => match base with
      | none => none
      | some a => roomR a (Nat.mul l z) news W fun W => some (.slice (some a) need c, W)
    | false => match Nat.ble need 1099511627776, Nat.ble (Nat.mul need by') 140737488355328 with
      | true, true => match base with
        | none => match l with
          | 0 => W.layK ⟨news, e, true, z, none⟩ fun n W => some (.slice (some ⟨n, 0, none⟩) need (big + need), W)
          | _ + 1 => none
        | some a => growR false e z a l need news W
      | _, _ => none
  | false => match base with
    | none => none
    | some a => match Nat.ble need (Nat.sub c big) with
      | true => roomR a (Nat.mul l z) news W fun W => some (.slice (some a) need c, W)
      | false => match Nat.ble need 1099511627776, Nat.ble (Nat.mul need by') 140737488355328 with
        | true, true => growR true e z a l need news W
        | _, _ => none
theorem appNR_eq {e : TypeId} {i : TypeInfo} {base : Option Addr} {l c n : Nat} {news : List Value} {W : Tw} {r : Value × Tw} (hn : news.length = n * i.size) (h : appNR e i.size i.bytes base l c n news W = some r) : appN e i base l c n news W = some r := by
  unfold appNR at h
  rw [fN_eq] at h
  have e0 : Nat.add l n = l + n := rfl
  rw [e0] at h
  have bl : ∀ {a b : Nat}, Nat.ble a b = false → ¬ a ≤ b := fun hb hc => by rw [← Nat.ble_eq, hb] at hc; cases hc
  unfold appN
  simp only
  split at h
  · rename_i hc
    rw [Nat.blt_eq] at hc
    rw [if_pos hc]
    split at h
    · rename_i h1
      rw [Nat.ble_eq] at h1
      rw [if_pos h1]
      split at h
      · cases h
      · exact roomR_eq h
    · rename_i h1
      rw [if_neg (bl h1)]
      split at h
      · rename_i h2 h3
        rw [Nat.ble_eq] at h2 h3
        rw [if_pos (by simp only [Bool.and_eq_true, decide_eq_true_eq]; exact ⟨h2, h3⟩)]
        split at h
        · split at h
          · rw [if_pos rfl]
            unfold growT
            rw [Tw.layK_eq] at h
            rw [if_pos (by simpa using hn)]
            exact h
          · cases h
        · exact growR_false hn h
      · cases h
  · rename_i hc
    rw [if_neg (by intro h1; rw [← Nat.blt_eq, hc] at h1; cases h1)]
    split at h
    · cases h
    · simp only
      split at h
      · rename_i h1
        rw [Nat.ble_eq] at h1
        have h1' : l + n ≤ c - big := h1
        rw [if_pos h1']
        exact roomR_eq h
      · rename_i h1
        have h1' : ¬ l + n ≤ c - big := bl h1
        rw [if_neg h1']
        split at h
        · rename_i h2 h3
          rw [Nat.ble_eq] at h2 h3
          rw [if_pos (by simp only [Bool.and_eq_true, decide_eq_true_eq]; exact ⟨h2, h3⟩)]
          exact growR_true hn h
        · cases h
/-- What the second argument yields. -/
noncomputable def srcR {β : Type} (z : Nat) (y : Value) (W : Tw) (k : Nat → List Value → Tw → Option β) : Option β := match y with
  | .slice (some ⟨b, off, none⟩) n _ => match W.get b with
    | some ⟨cs, _, _, _, none⟩ => fTakeO (Nat.mul n z) (drp off cs) fun news => W.readK b fun W => k n news W
    | _ => none
  | .slice none 0 _ => k 0 [] W
  | _ => none
theorem srcR_eq {β : Type} {z : Nat} {y : Value} {W : Tw} {k : Nat → List Value → Tw → Option β} {r : β} (h : srcR z y W k = some r) : ∃ n news W', srcT z y W = some ((n, news), W') ∧ news.length = n * z ∧ k n news W' = some r := by
  unfold srcR at h
  split at h
  · rename_i b off n c
    split at h
    · rename_i cs e op z' hg
      rw [fTakeO_eq, drp_eq] at h
      have e0 : Nat.mul n z = n * z := rfl
      rw [e0] at h
      cases ht : takeL (cs.drop off) (n * z) with
      | none => rw [ht] at h; cases h
      | some vs =>
        rw [ht, Option.bind_some] at h
        split at h
        · rename_i h1
          rw [Tw.readK_eq] at h
          refine ⟨n, vs, _, ?_, takeL_len ht, h⟩
          unfold srcT
          have hc : cellsT ⟨b, off, none⟩ (n * z) W = some (vs, W.read b) := by
            unfold cellsT
            simp only [look_eq, hg, Option.bind_some, ht, Option.map_some]
          simp only [hc, Option.bind_some]
          rw [if_pos h1]
          rfl
        · cases h
    · cases h
  · rename_i c
    exact ⟨0, [], W, by simp [srcT], by simp, h⟩
  · cases h
noncomputable def someSl : Value → Bool
  | .slice (some _) _ _ => true
  | _ => false
noncomputable def sl2 (x y : Value) : Bool := match someSl x with
  | true => true
  | false => someSl y
noncomputable def appR (tb : Tb) (ats : List TypeId) (x y : Value) (W : Tw) : Option (Value × Tw) := match ats with
  | [t, tx] => match Nat.beq t tx with
    | true => match tb.ap.get t with
      | some (e, z, by') => match x with
        | .slice base l c => match sl2 x y with
          | true => srcR z y W fun n news W => appNR e z by' base l c n news W
          | false => none
        | _ => none
      | none => none
    | false => none
  | _ => none
theorem appR_eq {P : Program} {tb : Tb} (htb : TbOk P tb) {ats : Array TypeId} {x y : Value} {W : Tw} {r : Value × Tw} (h : appR tb ats.toList x y W = some r) : appT P ats x y W = some r ∧ (someSl x = true ∨ someSl y = true) := by
  obtain ⟨l⟩ := ats
  unfold appR at h
  split at h
  · rename_i t tx hl
    have hl' : l = [t, tx] := hl
    subst hl'
    split at h
    · rename_i hb
      rw [Nat.beq_eq] at hb
      subst hb
      split at h
      · rename_i e z by' ha
        split at h
        · rename_i base l c
          split at h
          · rename_i hs
            have := htb.ap _ _ ha
            unfold mkAp at this
            split at this
            · rename_i e' i hi
              cases this
              obtain ⟨n, news, W', h1, h2, h3⟩ := srcR_eq h
              refine ⟨?_, ?_⟩
              · unfold appT
                have hi' : appInfo P ({ toList := [t, t] } : Array TypeId) = some (e, i) := hi
                rw [hi']
                simp only
                rw [h1]
                simp only [Option.bind_some]
                exact appNR_eq h2 h3
              · unfold sl2 at hs
                split at hs
                · rename_i h4; exact .inl h4
                · exact .inr hs
            · cases this
          · cases h
        · cases h
      · cases h
    · cases h
  · cases h
theorem someSl_plain {v : Value} (h : someSl v = true) (d : Nat) : plainD d v = false := by
  cases v <;> first | cases h | skip
  rename_i a l c
  cases a with
  | none => cases h
  | some a => cases d <;> rfl

/-! ### cells of a value -/
noncomputable def fZ {α : Type} (v : Value) (k : List Value → α) : α := match v with
  | .agg ⟨l⟩ => k l
  | v => k [v]
theorem fZ_eq {α : Type} {v : Value} {k : List Value → α} : fZ v k = k v.cells.toList := by
  unfold fZ
  split
  · rfl
  · rename_i h
    cases v <;> first | rfl | exact absurd rfl (h _)
end Mir

namespace Mir
open Go

/-! ## Operations, quickly -/
noncomputable def qc : Value → Bool
  | .int _ _ | .bool _ | .string _ | .nilFunc | .nilIface | .pointer none | .slice none _ _ | .map none => true
  | _ => false
noncomputable def qd : Operand → Bool
  | .tmp _ | .func _ => true
  | .const v => qc v
  | .global _ => false
theorem qd_ok {x : Operand} (h : qd x = true) : opdOk x = true := by
  cases x with
  | tmp t => rfl
  | func f => rfl
  | global g => cases h
  | const v =>
    cases v <;> first | rfl | (rename_i a; cases a <;> first | rfl | cases h) | (rename_i a _ _; cases a <;> first | rfl | cases h) | cases h
noncomputable def getX {α : Type} : List α → Nat → Option α
  | [], _ => none
  | x :: r, n => match n with
    | 0 => some x
    | m + 1 => getX r m
theorem getX_eq {α : Type} : ∀ (l : List α) (n : Nat), getX l n = l[n]?
  | [], n => by simp [getX]
  | x :: r, 0 => rfl
  | x :: r, n + 1 => by simp [getX, getX_eq r n]
noncomputable def evalL (f : Nat → Value) : List Operand → List Value
  | [] => []
  | x :: r => ev f x :: evalL f r
theorem evalL_eq (f : Nat → Value) : ∀ l : List Operand, evalL f l = l.map (ev f)
  | [] => rfl
  | x :: r => by simp [evalL, evalL_eq f r]
noncomputable def evalP (f : Nat → Value) : List (Nat × Operand) → List (Nat × Value)
  | [] => []
  | (i, x) :: r => (i, ev f x) :: evalP f r
theorem evalP_eq (f : Nat → Value) : ∀ l : List (Nat × Operand), evalP f l = l.map fun p => (p.1, ev f p.2)
  | [] => rfl
  | (i, x) :: r => by simp [evalP, evalP_eq f r]
noncomputable def qdL : List Operand → Bool
  | [] => true
  | x :: r => qd x && qdL r
theorem qdL_all : ∀ {l : List Operand}, qdL l = true → ∀ x ∈ l, opdOk x = true
  | [], _, x, h => by cases h
  | y :: r, hq, x, h => by
    simp only [qdL, Bool.and_eq_true] at hq
    rcases List.mem_cons.1 h with h | h
    · rw [h]; exact qd_ok hq.1
    · exact qdL_all hq.2 x h
noncomputable def qdP : List (Nat × Operand) → Bool
  | [] => true
  | (_, x) :: r => qd x && qdP r
theorem qdP_all : ∀ {l : List (Nat × Operand)}, qdP l = true → ∀ p ∈ l, opdOk p.2 = true
  | [], _, x, h => by cases h
  | (i, y) :: r, hq, x, h => by
    simp only [qdP, Bool.and_eq_true] at hq
    rcases List.mem_cons.1 h with h | h
    · rw [h]; exact qd_ok hq.1
    · exact qdP_all hq.2 x h
/-- A scalar that an operation on numbers yields. -/
noncomputable def scal : Value → Bool
  | .int _ _ | .bool _ => true
  | _ => false
noncomputable def binQ (b : BinOp) (t : TypeId) (x y : Value) : Option Value := match x, y with
  | .int j m, .int k n => match binOp b t (.int j m) (.int k n) with
    | .pure v => if scal v then some v else none
    | _ => none
  | _, _ => none
noncomputable def lenQ (tb : Tb) (ts : List TypeId) (x : Value) : Option Value := match ts with
  | [t] => match x, tb.ty.get t with
    | .slice (some _) n _, some ⟨_, _, .sl _, _⟩ => some (.int .i64 n)
    | _, _ => none
  | _ => none
/-- A bound of a part. -/
noncomputable def bdQ (f : Nat → Value) (x : Option Operand) (d : Nat) : Option Nat := match x with
  | none => some d
  | some y => if qd y then match ev f y with
    | .int _ (.ofNat i) => some i
    | _ => none
    else none
noncomputable def mvQ (f : Nat → Value) (x : Operand) (W : Tw) : Option (Next × Tw) := if qd x then some (.value (ev f x), W) else none
noncomputable def ldQ (tb : Tb) (f : Nat → Value) (t : TypeId) (x : Operand) (W : Tw) : Option (Next × Tw) := if qd x then match ev f x with
      | .pointer (some a) => match tb.ty.get t with
        | some ti => (loadR ti.ag ti.sz a W).bind fun p => some (.value p.1, p.2)
        | none => none
      | _ => none
    else none
noncomputable def stQ (tb : Tb) (f : Nat → Value) (t : TypeId) (x y : Operand) (W : Tw) : Option (Next × Tw) := if qd x && qd y then match ev f x with
      | .pointer (some a) => match tb.ty.get t with
        | some ti => fW (ev f y) fun v => (storeR ti.sz a v W).bind fun p => some (.skip, p.2)
        | none => none
      | _ => none
    else none
noncomputable def faQ (tb : Tb) (f : Nat → Value) (s : TypeId) (x : Operand) (n : Nat) (W : Tw) : Option (Next × Tw) := if qd x then match ev f x, tb.ty.get s with
      | .pointer (some a), some ⟨_, _, .st fs, _⟩ => match getX fs n with
        | some (off, sz + 1, _) => some (.value (.pointer (some (a.add off))), W)
        | _ => none
      | _, _ => none
    else none
noncomputable def iaQ (tb : Tb) (f : Nat → Value) (t : TypeId) (x y : Operand) (W : Tw) : Option (Next × Tw) := if qd x && qd y then match ev f y, ev f x, tb.ty.get t with
      | .int _ (.ofNat i), .pointer (some a), some ⟨_, _, .ar n e, _⟩ => if Nat.blt i n then some (.value (.pointer (some (a.add (i * e)))), W) else none
      | .int _ (.ofNat i), .slice (some a) n _, some ⟨_, _, .sl e, _⟩ => if Nat.blt i n then some (.value (.pointer (some (a.add (i * e)))), W) else none
      | _, _, _ => none
    else none
noncomputable def buQ (tb : Tb) (f : Nat → Value) (t : TypeId) (ps : Array (Nat × Operand)) (W : Tw) : Option (Next × Tw) := if qdP ps.toList then match tb.ty.get t with
      | some ⟨_, _, .st fs, z⟩ => match Instr.fill (fun i => (getX fs i).map fun p => (p.1, p.2.1)) z.cells (evalP f ps.toList) with
        | some cells => some (.value (.agg cells), W)
        | none => none
      | some ⟨_, _, .ar _ e, z⟩ => match Instr.fill (fun i => some (i * e, e)) z.cells (evalP f ps.toList) with
        | some cells => some (.value (.agg cells), W)
        | none => none
      | _ => none
    else none
noncomputable def alQ (tb : Tb) (t : TypeId) (W : Tw) : Option (Next × Tw) := match tb.ty.get t with
    | some ti => fZ ti.z fun l => W.layK ⟨l, t, false, 0, none⟩ fun n W => some (.value (.pointer (some ⟨n, 0, none⟩)), W)
    | none => none
noncomputable def boQ (f : Nat → Value) (t : TypeId) (x : Operand) (W : Tw) : Option (Next × Tw) := if qd x then fW (ev f x) fun v => fZ v fun l => W.layK ⟨l, t, false, 0, none⟩ fun n W => some (.value (.pointer (some ⟨n, 0, none⟩)), W) else none
noncomputable def piQ (f : Nat → Value) (c x y : Operand) (W : Tw) : Option (Next × Tw) := if qd c && qd x && qd y then match ev f c with
      | .bool true => some (.value (ev f x), W)
      | .bool false => some (.value (ev f y), W)
      | _ => none
    else none
noncomputable def ncQ (f : Nat → Value) (x : Operand) (W : Tw) : Option (Next × Tw) := if qd x then match ev f x with
      | .pointer (some a) => some (.value (.pointer (some a)), W)
      | _ => none
    else none
noncomputable def biQ (f : Nat → Value) (b : BinOp) (t : TypeId) (x y : Operand) (W : Tw) : Option (Next × Tw) := if qd x && qd y then match binQ b t (ev f x) (ev f y) with
      | some v => some (.value v, W)
      | none => none
    else none
noncomputable def slQ (tb : Tb) (f : Nat → Value) (t : TypeId) (x : Operand) (lo hi mx : Option Operand) (W : Tw) : Option (Next × Tw) := match mx with
    | some _ => none
    | none => if qd x then match ev f x, tb.ty.get t, bdQ f lo 0 with
      | .slice (some a) len cap, some ⟨_, _, .sl e, _⟩, some l => match bdQ f hi len with
        | some h => if Nat.ble l h && Nat.ble h cap && Nat.blt cap big then some (.value (.slice (some (if cap = l then a else a.add (l * e))) (h - l) (cap - l)), W) else none
        | none => none
      | _, _, _ => none
      else none
noncomputable def fiQ (tb : Tb) (f : Nat → Value) (s : TypeId) (x : Operand) (n : Nat) (W : Tw) : Option (Next × Tw) := if qd x then match ev f x, tb.ty.get s with
      | .agg ⟨cs⟩, some ⟨_, _, .st fs, _⟩ => match getX fs n with
        | some (off, sz, true) => some (.value (.agg ⟨(cs.drop off).take sz⟩), W)
        | some (off, _, false) => match getX (cs.drop off) 0 with
          | some v => some (.value v, W)
          | none => none
        | none => none
      | _, _ => none
    else none
noncomputable def exQ (f : Nat → Value) (x : Operand) (i : Nat) (W : Tw) : Option (Next × Tw) := if qd x then match ev f x with
      | .tuple vs => match getX vs.toList i with
        | some v => some (.value v, W)
        | none => none
      | _ => none
    else none
noncomputable def cvQ (tb : Tb) (f : Nat → Value) (s d : TypeId) (x : Operand) (W : Tw) : Option (Next × Tw) := if qd x then match ev f x, tb.ty.get s, tb.ty.get d with
      | .int _ n, some _, some ⟨_, _, .int k, _⟩ => some (.value (.int k (k.wrap n)), W)
      | _, _, _ => none
    else none
noncomputable def clQQ (tb : Tb) (f : Nat → Value) (x : Operand) (args : List Operand) (W : Tw) : Option (Next × Tw) := if qd x && qdL args then match ev f x with
        | .func (.func g) xs ys => match tb.fn.get g with
          | some _ => fLi fW (xs.toList ++ (evalL f args ++ ys.toList)) fun l => some (.enter g ⟨l⟩, W)
          | none => none
        | _ => none
      else none
noncomputable def leQ (tb : Tb) (f : Nat → Value) (c : Call) (W : Tw) : Option (Next × Tw) := match c.args.toList with
      | [x] => if qd x then match lenQ tb c.argTypes.toList (ev f x) with
          | some v => some (.value v, W)
          | none => none
        else none
      | _ => none
noncomputable def apQ (tb : Tb) (f : Nat → Value) (c : Call) (W : Tw) : Option (Next × Tw) := match c.args.toList with
      | [x, y] => if qd x && qd y then (appR tb c.argTypes.toList (ev f x) (ev f y) W).bind fun p => some (.value p.1, p.2)
        else none
      | _ => none
noncomputable def opQ (tb : Tb) (f : Nat → Value) (o : Oper) (W : Tw) : Option (Next × Tw) := match o.op with
  | .move x => mvQ f x W
  | .assign x => mvQ f x W
  | .load t x => ldQ tb f t x W
  | .store t x y => stQ tb f t x y W
  | .fieldAddr s x n => faQ tb f s x n W
  | .indexAddr t x y => iaQ tb f t x y W
  | .build t ps => buQ tb f t ps W
  | .alloc t => alQ tb t W
  | .box t x => boQ f t x W
  | .pick c x y => piQ f c x y W
  | .nilCheck x => ncQ f x W
  | .binOp b t x y _ => biQ f b t x y W
  | .slice t x lo hi mx => slQ tb f t x lo hi mx W
  | .field s x n => fiQ tb f s x n W
  | .extract x i => exQ f x i W
  | .convert s d x => cvQ tb f s d x W
  | .call c => match c.callee with
    | .value x => clQQ tb f x c.args.toList W
    | .builtin .len => leQ tb f c W
    | .builtin .append => apQ tb f c W
    | _ => none
  | _ => none

section
variable {P : Program} {sy : SyT}
/-- What touches no memory. -/
theorem opT_pure {f : Nat → Value} {o : Oper} {v : Value} {W : Tw} (h1 : ∀ x ∈ o.op.operands, opdOk x = true) (hr : ∀ W, runT P (execOp (ev f) o) W = some (.value v, W)) (hsp : spFirst o.op = false)
    (hok : opOk P (ev f) o = true ∨ quietT P f o ≠ none) : opT P sy f o W = some (.value v, W) := by
  unfold opT
  rw [if_pos (by rw [Array.all_eq_true_iff_forall_mem]; exact h1)]
  cases hq : quietT P f o with
  | none =>
    have hok := hok.resolve_right (by rw [hq]; simp)
    simp only [hsp, hok, Bool.not_false, Bool.and_self, if_true]
    exact hr W
  | some u =>
    unfold quietT at hq
    split at hq
    · unfold quietB at hq
      rw [hr] at hq
      simp only at hq
      split at hq
      · cases hq; rfl
      · cases hq
    · cases hq
/-- What touches memory. -/
theorem opT_mem {f : Nat → Value} {o : Oper} {W : Tw} (h1 : ∀ x ∈ o.op.operands, opdOk x = true) (hq : quietT P f o = none) (hsp : spFirst o.op = false) (hok : opOk P (ev f) o = true) :
    opT P sy f o W = runT P (execOp (ev f) o) W := by
  unfold opT
  rw [if_pos (by rw [Array.all_eq_true_iff_forall_mem]; exact h1), hq]
  simp only [hsp, hok, Bool.not_false, Bool.and_self, if_true]
theorem quietT_op {f : Nat → Value} {o : Oper} (h : quietOp o.op = false) : quietT P f o = none := by
  unfold quietT
  rw [h]; rfl
theorem quietT_opd {f : Nat → Value} {o : Oper} {x : Operand} (hx : x ∈ o.op.operands) (h : plainD depth (ev f x) = false) : quietT P f o = none := by
  unfold quietT
  have : o.op.operands.all (fun x => plainD depth (ev f x)) = false := by
    cases hc : o.op.operands.all (fun x => plainD depth (ev f x)) with
    | false => rfl
    | true =>
      rw [Array.all_eq_true_iff_forall_mem] at hc
      rw [hc x hx] at h
      cases h
  rw [this, Bool.and_false]
  rfl
theorem rt_v {s : Sem Value} {W W' : Tw} {v : Value} (h : runT P s W = some (v, W')) : runT P (do pure (.value (← s)) : Sem Next) W = some (.value v, W') := by
  rw [rt_bind, h]; rfl
theorem rt_u {s : Sem Unit} {W W' : Tw} {u : Unit} (h : runT P s W = some (u, W')) : runT P (do s; pure .skip : Sem Next) W = some (.skip, W') := by
  rw [rt_bind, h]; rfl
theorem fieldsI_some : ∀ {l : List Field} {fs : List (Nat × Nat × Bool)}, fieldsI P l = some fs → fs.length = l.length ∧ ∀ (n off sz : Nat) (ag : Bool), fs[n]? = some (off, sz, ag) → ∃ (fd : Field) (i : TypeInfo) (d : TypeDesc), l[n]? = some fd ∧ fd.offset = off ∧ P.info? fd.type = some i ∧ i.size = sz ∧ P.underlying fd.type = some d ∧ agD d = ag
  | [], fs, h => by
    simp only [fieldsI, Option.some.injEq] at h
    subst h
    exact ⟨rfl, fun n off sz ag h => by simp at h⟩
  | f :: r, fs, h => by
    unfold fieldsI at h
    split at h
    · rename_i i d l h1 h2 h3
      cases h
      obtain ⟨k1, k2⟩ := fieldsI_some h3
      refine ⟨by simp [k1], fun n off sz ag hn => ?_⟩
      cases n with
      | zero =>
        simp only [List.getElem?_cons_zero, Option.some.injEq, Prod.mk.injEq] at hn
        exact ⟨f, i, d, rfl, hn.1, h1, hn.2.1, h2, hn.2.2⟩
      | succ n =>
        obtain ⟨fd, i', d', q⟩ := k2 n off sz ag (by simpa using hn)
        exact ⟨fd, i', d', by simpa using q.1, q.2⟩
    · cases h
theorem kdI_st {d : TypeDesc} {fs : List (Nat × Nat × Bool)} (h : kdI P d = .st fs) : ∃ l, d = .struct l ∧ fieldsI P l.toList = some fs := by
  unfold kdI at h
  split at h
  · rename_i l
    split at h
    · rename_i l' hl
      cases h
      exact ⟨l, rfl, hl⟩
    · cases h
  all_goals first | (split at h <;> cases h) | cases h
theorem kdI_ar {d : TypeDesc} {n e : Nat} (h : kdI P d = .ar n e) : ∃ et i, d = .array n et ∧ P.info? et = some i ∧ i.size = e := by
  unfold kdI at h
  split at h
  · split at h <;> cases h
  · rename_i n' et
    split at h
    · rename_i i hi
      cases h
      exact ⟨et, i, rfl, hi, rfl⟩
    · cases h
  all_goals first | (split at h <;> cases h) | cases h
theorem kdI_sl {d : TypeDesc} {e : Nat} (h : kdI P d = .sl e) : ∃ et i, d = .slice et ∧ P.info? et = some i ∧ i.size = e := by
  unfold kdI at h
  split at h
  · split at h <;> cases h
  · split at h <;> cases h
  · rename_i et
    split at h
    · rename_i i hi
      cases h
      exact ⟨et, i, rfl, hi, rfl⟩
    · cases h
  all_goals cases h
theorem kdI_int {d : TypeDesc} {k : IntKind} (h : kdI P d = .int k) : d = .int k := by
  unfold kdI at h
  split at h
  all_goals first | (split at h <;> cases h) | (cases h; rfl) | cases h
end
end Mir

namespace Mir
open Go

section
variable {P : Program} {sy : SyT} {tb : Tb}
theorem add_zero' (a : Addr) : a.add 0 = a := by simp [Addr.add]
theorem bdQ_some {f : Nat → Value} {x : Option Operand} {d n : Nat} (h : bdQ f x d = some n) : (x = none ∧ n = d) ∨ ∃ y k, x = some y ∧ qd y = true ∧ ev f y = .int k (.ofNat n) := by
  unfold bdQ at h
  split at h
  · cases h; exact .inl ⟨rfl, rfl⟩
  · rename_i y
    split at h
    · rename_i hq
      split at h
      · rename_i k i he
        cases h
        exact .inr ⟨y, k, rfl, hq, he⟩
      · cases h
    · cases h
theorem rt_bound {k : IntKind} {i y : Nat} (c : BoundsCode) (h : i ≤ y) (W : Tw) : runT P (Instr.sliceBound (.int k (.ofNat i)) y c) W = some (i, W) := by
  unfold Instr.sliceBound
  have : 0 ≤ Int.ofNat i ∧ Int.ofNat i ≤ (y : Int) := ⟨Int.natCast_nonneg i, Int.ofNat_le.2 h⟩
  show runT P (if 0 ≤ Int.ofNat i ∧ Int.ofNat i ≤ (y : Int) then pure (Int.ofNat i).toNat else _) W = _
  rw [if_pos this]
  rfl
theorem rt_bounds {f : Nat → Value} {lo hi : Option Operand} {len cap l h : Nat} (h1 : bdQ f lo 0 = some l) (h2 : bdQ f hi len = some h) (h3 : l ≤ h) (h4 : h ≤ cap) (W : Tw) :
    runT P (Instr.sliceBounds true len cap (lo.map (ev f)) (hi.map (ev f)) none) W = some ((l, h, cap), W) := by
  unfold Instr.sliceBounds
  rcases bdQ_some h1 with ⟨rfl, rfl⟩ | ⟨y, k, rfl, -, e1⟩ <;> rcases bdQ_some h2 with ⟨rfl, rfl⟩ | ⟨z, j, rfl, -, e2⟩
  · simp only [Option.map_none, rt_bind, rt_pure, Option.bind_some]
  · simp only [Option.map_none, Option.map_some, e2, rt_bind, rt_pure, Option.bind_some, rt_bound _ h4]
  · simp only [Option.map_none, Option.map_some, e1, rt_bind, rt_pure, Option.bind_some, rt_bound _ h3]
  · simp only [Option.map_some, e1, e2, rt_bind, rt_pure, Option.bind_some, rt_bound _ h4, rt_bound _ h3]
/-- The quick road leads to the same place. -/
theorem opQ_eq (htb : TbOk P tb) {f : Nat → Value} {o : Oper} {W : Tw} {r : Next × Tw} (h : opQ tb f o W = some r) : opT P sy f o W = some r := by
  obtain ⟨dst, op, type, pos, after, guard⟩ := o
  unfold opQ at h
  cases op <;> dsimp only at h <;> try (cases h)
  case move x =>
    unfold mvQ at h
    split at h
    · rename_i hq
      cases h
      exact opT_pure (fun y hy => by simp only [Op.operands, List.mem_toArray, List.mem_singleton] at hy; rw [hy]; exact qd_ok hq) (fun W => rfl) rfl (.inl rfl)
    · cases h
  case assign x =>
    unfold mvQ at h
    split at h
    · rename_i hq
      cases h
      exact opT_pure (fun y hy => by simp only [Op.operands, List.mem_toArray, List.mem_singleton] at hy; rw [hy]; exact qd_ok hq) (fun W => rfl) rfl (.inl rfl)
    · cases h
  case load t x =>
    unfold ldQ at h
    split at h
    · rename_i hq
      split at h
      · rename_i a hx
        split at h
        · rename_i ti ht
          obtain ⟨v, W1, h1, h2⟩ := bind_some h
          cases h2
          rw [opT_mem (fun y hy => by simp only [Op.operands, List.mem_toArray, List.mem_singleton] at hy; rw [hy]; exact qd_ok hq) (quietT_op rfl) rfl rfl]
          refine rt_v (s := Instr.loadAt t (ev f x)) ?_
          rw [hx]
          unfold Instr.loadAt
          rw [rt_bind, rt_sureAddr, Option.bind_some]
          exact loadQ_eq htb ht (loadR_eq h1)
        · cases h
      · cases h
    · cases h
  case store t x y =>
    unfold stQ at h
    split at h
    · rename_i hq
      simp only [Bool.and_eq_true] at hq
      split at h
      · rename_i a hx
        split at h
        · rename_i ti ht
          rw [fW_eq] at h
          obtain ⟨v, W1, h1, h2⟩ := bind_some h
          cases h2
          rw [opT_mem (fun z hz => by
            simp only [Op.operands, List.mem_toArray, List.mem_cons, List.not_mem_nil, or_false] at hz
            rcases hz with hz | hz <;> rw [hz]
            · exact qd_ok hq.1
            · exact qd_ok hq.2) (quietT_op rfl) rfl rfl]
          refine rt_u (s := Instr.storeAt t (ev f x) (ev f y)) (u := ()) ?_
          rw [hx]
          unfold Instr.storeAt
          rw [rt_bind, rt_sureAddr, Option.bind_some]
          exact storeQ_eq htb ht (storeR_eq h1)
        · cases h
      · cases h
    · cases h
  case fieldAddr s x n =>
    unfold faQ at h
    split at h
    · rename_i hq
      split at h
      · rename_i a sz ag fs z hx ht
        split at h
        · rename_i off sz' ag' hg
          cases h
          obtain ⟨i, d, h1, h2, h3, h4, h5, h6, h7⟩ := mkTI_some (htb.ty s _ ht)
          obtain ⟨l, rfl, hl⟩ := kdI_st h6
          rw [getX_eq] at hg
          obtain ⟨fd, i', d', g1, g2, g3, g4, g5, g6⟩ := (fieldsI_some hl).2 n off _ _ hg
          have g1' : l[n]? = some fd := by rw [← Array.getElem?_toList]; exact g1
          refine opT_pure (fun y hy => by simp only [Op.operands, List.mem_toArray, List.mem_singleton] at hy; rw [hy]; exact qd_ok hq) (fun W => ?_) rfl (.inl ?_)
          · refine rt_v (s := Instr.fieldAt s (ev f x) n) ?_
            rw [hx]
            unfold Instr.fieldAt
            rw [rt_bind, rt_underlying h2, Option.bind_some]
            simp only [g1']
            rw [rt_bind, rt_sureAddr, Option.bind_some]
            unfold fieldPlace
            rw [rt_bind, rt_bind, rt_sizeOf g3, Option.bind_some]
            simp only [g4]
            rw [if_neg (by omega), g2]
            rfl
          · unfold opOk fieldNZ
            simp only [h2, g1', g3, g4]
            simp
        · cases h
      · cases h
    · cases h
  case slice t x lo hi mx =>
    unfold slQ at h
    split at h
    · cases h
    · split at h
      · rename_i hq
        split at h
        · rename_i a len cap sz ag e z l hx ht hlo
          split at h
          · rename_i hh hhi
            split at h
            · rename_i hc
              simp only [Bool.and_eq_true, Nat.ble_eq, Nat.blt_eq] at hc
              cases h
              obtain ⟨i, d, h1, h2, h3, h4, h5, h6, h7⟩ := mkTI_some (htb.ty t _ ht)
              obtain ⟨el, ei, rfl, k1, k2⟩ := kdI_sl h6
              have ops : ∀ y ∈ (Op.slice t x lo hi none).operands, opdOk y = true := by
                intro y hy
                have hy' : y = x ∨ lo = some y ∨ hi = some y := by
                  cases lo <;> cases hi <;> simp [Op.operands] at hy <;> first | (rcases hy with rfl | rfl | rfl <;> simp) | (rcases hy with rfl | rfl <;> simp) | (subst hy; simp)
                rcases hy' with rfl | hy' | hy'
                · exact qd_ok hq
                · rcases bdQ_some hlo with ⟨e1, -⟩ | ⟨y', k, e1, e2, -⟩
                  · rw [e1] at hy'; cases hy'
                  · rw [e1] at hy'; cases hy'; exact qd_ok e2
                · rcases bdQ_some hhi with ⟨e1, -⟩ | ⟨y', k, e1, e2, -⟩
                  · rw [e1] at hy'; cases hy'
                  · rw [e1] at hy'; cases hy'; exact qd_ok e2
              rw [opT_mem ops (quietT_opd (x := x) (by cases lo <;> cases hi <;> simp [Op.operands]) (by rw [hx]; rfl)) rfl (by simp only [opOk, hx, exactS, arrOk, h2, hc.2, decide_true, Bool.and_self])]
              refine rt_v (s := Instr.sliceAt t (ev f x) (lo.map (ev f)) (hi.map (ev f)) none) ?_
              rw [hx]
              unfold Instr.sliceAt
              rw [rt_bind, rt_underlying h2, Option.bind_some]
              simp only
              unfold Instr.slice
              rw [rt_bind, rt_underlying h2, Option.bind_some]
              simp only
              rw [rt_bind, rt_bounds hlo hhi hc.1.1 hc.1.2, Option.bind_some]
              simp only
              rw [rt_bind, rt_sizeOf k1, Option.bind_some, k2, rt_pure]
              congr 3
              split <;> rfl
            · cases h
          · cases h
        · cases h
      · cases h
  case field s x n =>
    unfold fiQ at h
    split at h
    · rename_i hq
      split at h
      · rename_i cs sz ag fs z hx ht
        obtain ⟨i, d, h1, h2, h3, h4, h5, h6, h7⟩ := mkTI_some (htb.ty s _ ht)
        obtain ⟨l, rfl, hl⟩ := kdI_st h6
        split at h
        · rename_i off sz' hg
          cases h
          rw [getX_eq] at hg
          obtain ⟨fd, i', d', g1, g2, g3, g4, g5, g6⟩ := (fieldsI_some hl).2 n off _ _ hg
          have g1' : l[n]? = some fd := by rw [← Array.getElem?_toList]; exact g1
          refine opT_pure (fun y hy => by simp only [Op.operands, List.mem_toArray, List.mem_singleton] at hy; rw [hy]; exact qd_ok hq) (fun W => ?_) rfl (.inl rfl)
          refine rt_v (s := Instr.field s (ev f x) n) ?_
          rw [hx]
          unfold Instr.field
          rw [rt_bind, rt_underlying h2, Option.bind_some]
          simp only [g1']
          show (runT P (Sem.bind (Pure.pure (⟨cs⟩ : Array Value)) fun cs => part fd.type cs fd.offset) W) = _
          rw [runT_bind, rt_pure, Option.bind_some]
          unfold part
          rw [rt_bind, rt_isAgg g5, g6, Option.bind_some]
          simp only [if_true]
          rw [rt_bind, rt_sizeOf g3, Option.bind_some, g2, g4, rt_pure]
          simp
        · rename_i off sz' hg
          split at h
          · rename_i v hv
            cases h
            rw [getX_eq] at hg hv
            obtain ⟨fd, i', d', g1, g2, g3, g4, g5, g6⟩ := (fieldsI_some hl).2 n off _ _ hg
            have g1' : l[n]? = some fd := by rw [← Array.getElem?_toList]; exact g1
            refine opT_pure (fun y hy => by simp only [Op.operands, List.mem_toArray, List.mem_singleton] at hy; rw [hy]; exact qd_ok hq) (fun W => ?_) rfl (.inl rfl)
            refine rt_v (s := Instr.field s (ev f x) n) ?_
            rw [hx]
            unfold Instr.field
            rw [rt_bind, rt_underlying h2, Option.bind_some]
            simp only [g1']
            show (runT P (Sem.bind (Pure.pure (⟨cs⟩ : Array Value)) fun cs => part fd.type cs fd.offset) W) = _
            rw [runT_bind, rt_pure, Option.bind_some]
            unfold part
            rw [rt_bind, rt_isAgg g5, g6, Option.bind_some]
            have e : (⟨cs⟩ : Array Value)[fd.offset]? = some v := by
              rw [g2, List.getElem?_toArray]
              simpa using hv
            simp only [Bool.false_eq_true, if_false, e]
            rw [rt_pure]
          · cases h
        · cases h
      · cases h
    · cases h
  case indexAddr t x y =>
    unfold iaQ at h
    split at h
    · rename_i hq
      simp only [Bool.and_eq_true] at hq
      have hops : ∀ z ∈ (Op.indexAddr t x y).operands, opdOk z = true := fun z hz => by
        simp only [Op.operands, List.mem_toArray, List.mem_cons, List.not_mem_nil, or_false] at hz
        rcases hz with hz | hz <;> rw [hz]
        · exact qd_ok hq.1
        · exact qd_ok hq.2
      split at h
      · rename_i k i a sz ag n e z hy hx ht
        split at h
        · rename_i hlt
          rw [Nat.blt_eq] at hlt
          cases h
          obtain ⟨inf, d, h1, h2, h3, h4, h5, h6, h7⟩ := mkTI_some (htb.ty t _ ht)
          obtain ⟨et, i', rfl, e1, e2⟩ := kdI_ar h6
          refine opT_pure hops (fun W => ?_) rfl (.inl rfl)
          refine rt_v (s := Instr.indexAt t (ev f x) (ev f y)) ?_
          rw [hx, hy]
          unfold Instr.indexAt
          show runT P (Sem.bind (Pure.pure (k, Int.ofNat i)) _) W = _
          rw [runT_bind, rt_pure, Option.bind_some]
          simp only
          rw [rt_bind, rt_underlying h2, Option.bind_some]
          simp only
          rw [rt_bind, rt_sureAddr, Option.bind_some, rt_bind, rt_pure, Option.bind_some]
          simp only
          rw [rt_bind, rt_underlying h2, Option.bind_some]
          simp only
          rw [if_pos ⟨Int.natCast_nonneg i, by simp; omega⟩, rt_bind, rt_sizeOf e1, Option.bind_some, e2]
          rfl
        · cases h
      · rename_i k i a n c sz ag e z hy hx ht
        split at h
        · rename_i hlt
          rw [Nat.blt_eq] at hlt
          cases h
          obtain ⟨inf, d, h1, h2, h3, h4, h5, h6, h7⟩ := mkTI_some (htb.ty t _ ht)
          obtain ⟨et, i', rfl, e1, e2⟩ := kdI_sl h6
          refine opT_pure hops (fun W => ?_) rfl (.inl rfl)
          refine rt_v (s := Instr.indexAt t (ev f x) (ev f y)) ?_
          rw [hx, hy]
          unfold Instr.indexAt
          show runT P (Sem.bind (Pure.pure (k, Int.ofNat i)) _) W = _
          rw [runT_bind, rt_pure, Option.bind_some]
          simp only
          rw [rt_bind, rt_underlying h2, Option.bind_some]
          simp only
          rw [rt_bind, rt_pure, Option.bind_some]
          simp only
          rw [rt_bind, rt_underlying h2, Option.bind_some]
          simp only
          rw [if_pos ⟨Int.natCast_nonneg i, by simp; omega⟩, rt_bind, rt_sizeOf e1, Option.bind_some, e2]
          rfl
        · cases h
      · cases h
    · cases h
  case build t ps =>
    unfold buQ at h
    split at h
    · rename_i hq
      have hops : ∀ z ∈ (Op.build t ps).operands, opdOk z = true := fun z hz => by
        simp only [Op.operands, List.mem_toArray, List.mem_map] at hz
        obtain ⟨p, hp, rfl⟩ := hz
        exact qdP_all hq p hp
      have hparts : (ps.map fun (i, x) => (i, ev f x)).toList = evalP f ps.toList := by
        rw [evalP_eq]; simp
      split at h
      · rename_i sz ag fs z ht
        obtain ⟨i, d, h1, h2, h3, h4, h5, h6, h7⟩ := mkTI_some (htb.ty t _ ht)
        obtain ⟨l, rfl, hl⟩ := kdI_st h6
        split at h
        · rename_i cells hf
          cases h
          refine opT_pure hops (fun W => ?_) rfl (.inl h7)
          refine rt_v (s := Instr.build t (ps.map fun (i, x) => (i, ev f x))) ?_
          unfold Instr.build
          rw [rt_bind, rt_zero h1 h3, Option.bind_some]
          simp only
          rw [rt_bind, rt_underlying h2, Option.bind_some]
          simp only
          have hm : ∀ (l : List Field) (fs : List (Nat × Nat × Bool)) (W : Tw), fieldsI P l = some fs → runT P (l.mapM fun fd : Field => (do Pure.pure (fd.offset, ← Go.sizeOf fd.type) : Sem (Nat × Nat))) W = some (fs.map fun p => (p.1, p.2.1), W) := by
            intro l
            induction l with
            | nil => intro fs W h; simp only [fieldsI, Option.some.injEq] at h; subst h; rfl
            | cons fd l ih =>
              intro fs W h
              unfold fieldsI at h
              split at h
              · rename_i i' d' l' k1 k2 k3
                cases h
                simp only [List.mapM_cons]
                rw [rt_bind, rt_bind, rt_sizeOf k1, Option.bind_some, rt_pure, Option.bind_some, rt_bind, ih l' W k3, Option.bind_some]
                rfl
              · cases h
          rw [rt_bind, Array.mapM_eq_mapM_toList, map_eq_pure_bind, rt_bind, hm _ _ _ hl, Option.bind_some, rt_pure, Option.bind_some]
          simp only
          have hplace : (fun i => (List.toArray (List.map (fun p : Nat × Nat × Bool => (p.1, p.2.1)) fs))[i]?) = fun i => (getX fs i).map fun p => (p.1, p.2.1) := by
            funext i
            rw [getX_eq]
            simp
          rw [hplace, hparts, hf]
          rfl
        · cases h
      · rename_i sz ag n e z ht
        obtain ⟨i, d, h1, h2, h3, h4, h5, h6, h7⟩ := mkTI_some (htb.ty t _ ht)
        obtain ⟨et, i', rfl, e1, e2⟩ := kdI_ar h6
        split at h
        · rename_i cells hf
          cases h
          refine opT_pure hops (fun W => ?_) rfl (.inl h7)
          refine rt_v (s := Instr.build t (ps.map fun (i, x) => (i, ev f x))) ?_
          unfold Instr.build
          rw [rt_bind, rt_zero h1 h3, Option.bind_some]
          simp only
          rw [rt_bind, rt_underlying h2, Option.bind_some]
          simp only
          rw [rt_bind, rt_sizeOf e1, Option.bind_some, e2]
          simp only
          rw [hparts, hf]
          rfl
        · cases h
      · cases h
    · cases h
  case alloc t =>
    unfold alQ at h
    split at h
    · rename_i ti ht
      rw [fZ_eq, Tw.layK_eq] at h
      obtain ⟨n, W1, k1, k2⟩ := bind_some h
      cases k2
      obtain ⟨i, d, h1, h2, h3, h4, h5, h6, h7⟩ := mkTI_some (htb.ty t _ ht)
      rw [opT_mem (o := ⟨dst, .alloc t, type, pos, after, guard⟩) (fun y hy => by simp [Op.operands] at hy) (quietT_op rfl) rfl h7]
      refine rt_v (s := Instr.alloc t true (.tuple #[])) ?_
      unfold Instr.alloc
      rw [rt_bind, rt_zero h1 h3, Option.bind_some]
      simp only
      show runT P (Sem.bind (newVar t ti.z) _) W = _
      rw [runT_bind]
      have : runT P (newVar t ti.z) W = some (⟨n, 0, none⟩, W1) := by
        show Option.bind (newT (.cells ti.z.cells t (0, 0)) W) _ = _
        simp only [newT, beq_self_eq_true, Bool.and_self, if_true, k1]
        rfl
      rw [this]
      rfl
    · cases h
  case box t x =>
    unfold boQ at h
    split at h
    · rename_i hq
      rw [fW_eq, fZ_eq, Tw.layK_eq] at h
      obtain ⟨n, W1, k1, k2⟩ := bind_some h
      cases k2
      rw [opT_mem (fun y hy => by simp only [Op.operands, List.mem_toArray, List.mem_singleton] at hy; rw [hy]; exact qd_ok hq) (quietT_op rfl) rfl rfl]
      refine rt_v (s := Instr.box t (ev f x)) ?_
      unfold Instr.box
      show runT P (Sem.bind (newVar t (ev f x)) _) W = _
      rw [runT_bind]
      have : runT P (newVar t (ev f x)) W = some (⟨n, 0, none⟩, W1) := by
        show Option.bind (newT (.cells (ev f x).cells t (0, 0)) W) _ = _
        simp only [newT, beq_self_eq_true, Bool.and_self, if_true, k1]
        rfl
      rw [this]
      rfl
    · cases h
  case pick c x y =>
    unfold piQ at h
    split at h
    · rename_i hq
      simp only [Bool.and_eq_true] at hq
      have hops : ∀ z ∈ (Op.pick c x y).operands, opdOk z = true := fun z hz => by
        simp only [Op.operands, List.mem_toArray, List.mem_cons, List.not_mem_nil, or_false] at hz
        rcases hz with hz | hz | hz <;> rw [hz]
        · exact qd_ok hq.1.1
        · exact qd_ok hq.1.2
        · exact qd_ok hq.2
      split at h
      · rename_i hc
        cases h
        refine opT_pure hops (fun W => ?_) rfl (.inl rfl)
        show runT P (Sem.bind (asBool (ev f c)) _) W = _
        rw [hc]
        rfl
      · rename_i hc
        cases h
        refine opT_pure hops (fun W => ?_) rfl (.inl rfl)
        show runT P (Sem.bind (asBool (ev f c)) _) W = _
        rw [hc]
        rfl
      · cases h
    · cases h
  case nilCheck x =>
    unfold ncQ at h
    split at h
    · rename_i hq
      split at h
      · rename_i a hx
        cases h
        refine opT_pure (fun y hy => by simp only [Op.operands, List.mem_toArray, List.mem_singleton] at hy; rw [hy]; exact qd_ok hq) (fun W => ?_) rfl (.inl ?_)
        · simp only [execOp, hx]
          rfl
        · simp only [opOk, hx]
      · cases h
    · cases h
  case binOp b t x y z =>
    unfold biQ at h
    split at h
    · rename_i hq
      simp only [Bool.and_eq_true] at hq
      split at h
      · rename_i v hb
        cases h
        unfold binQ at hb
        split at hb
        · rename_i j m k n hx hy
          split at hb
          · rename_i u hu
            split at hb
            · rename_i hs
              cases hb
              have hr : ∀ W, runT P (execOp (ev f) ⟨dst, .binOp b t x y z, type, pos, after, guard⟩) W = some (.value v, W) := by
                intro W
                refine rt_v (s := do eqGuard b t x y (ev f x) (ev f y); binOp b t (ev f x) (ev f y)) ?_
                rw [hx, hy, rt_bind]
                have : runT P (eqGuard b t x y (.int j m) (.int k n)) W = some ((), W) := by
                  unfold eqGuard
                  cases b <;> rfl
                rw [this, Option.bind_some, hu]
                rfl
              refine opT_pure (fun w hw => by
                simp only [Op.operands, List.mem_toArray, List.mem_cons, List.not_mem_nil, or_false] at hw
                rcases hw with hw | hw <;> rw [hw]
                · exact qd_ok hq.1
                · exact qd_ok hq.2) hr rfl (.inr ?_)
              unfold quietT
              have hpl : (Op.binOp b t x y z).operands.all (fun w => plainD depth (ev f w)) = true := by
                rw [Array.all_eq_true_iff_forall_mem]
                intro w hw
                simp only [Op.operands, List.mem_toArray, List.mem_cons, List.not_mem_nil, or_false] at hw
                rcases hw with hw | hw <;> rw [hw]
                · rw [hx]; rfl
                · rw [hy]; rfl
              simp only [quietOp, hpl, Bool.and_self, if_true, quietB]
              rw [hr]
              simp only
              have : plainD depth v = true := by
                cases v <;> first | rfl | cases hs
              rw [if_pos this]
              simp
            · cases hb
          · cases hb
        · cases hb
      · cases h
    · cases h
  case convert s d x =>
    unfold cvQ at h
    split at h
    · rename_i hq
      split at h
      · rename_i q n ti sz ag k z hx hs hd
        cases h
        obtain ⟨i, ds, h1, h2, h3, h4, h5, h6, h7⟩ := mkTI_some (htb.ty s _ hs)
        obtain ⟨i', dd, g1, g2, g3, g4, g5, g6, g7⟩ := mkTI_some (htb.ty d _ hd)
        have hdd := kdI_int g6
        subst hdd
        have hr : ∀ W, runT P (execOp (ev f) ⟨dst, .convert s d x, type, pos, after, guard⟩) W = some (.value (.int k (k.wrap n)), W) := by
          intro W
          refine rt_v (s := convert s d (ev f x)) ?_
          rw [hx]
          unfold convert
          rw [rt_bind, rt_underlying h2, Option.bind_some]
          simp only
          rw [rt_bind, rt_underlying g2, Option.bind_some]
          rfl
        refine opT_pure (fun y hy => by simp only [Op.operands, List.mem_toArray, List.mem_singleton] at hy; rw [hy]; exact qd_ok hq) hr rfl (.inr ?_)
        unfold quietT
        have hpl : (Op.convert s d x).operands.all (fun w => plainD depth (ev f w)) = true := by
          rw [Array.all_eq_true_iff_forall_mem]
          intro w hw
          simp only [Op.operands, List.mem_toArray, List.mem_singleton] at hw
          rw [hw, hx]; rfl
        simp only [quietOp, hpl, Bool.and_self, if_true, quietB]
        rw [hr]
        simp only
        rw [if_pos (by rfl)]
        simp
      · cases h
    · cases h
  case extract x i =>
    unfold exQ at h
    split at h
    · rename_i hq
      split at h
      · rename_i vs hx
        split at h
        · rename_i v hv
          cases h
          rw [getX_eq, Array.getElem?_toList] at hv
          refine opT_pure (fun y hy => by simp only [Op.operands, List.mem_toArray, List.mem_singleton] at hy; rw [hy]; exact qd_ok hq) (fun W => ?_) rfl (.inl rfl)
          refine rt_v (s := Instr.extract (ev f x) i) ?_
          rw [hx]
          unfold Instr.extract
          simp only [hv]
          rfl
        · cases h
      · cases h
    · cases h
  case call c =>
    obtain ⟨cl, args, ats⟩ := c
    cases cl <;> dsimp only at h <;> try (cases h)
    case value x =>
      unfold clQQ at h
      split at h
      · rename_i hq
        simp only [Bool.and_eq_true] at hq
        split at h
        · rename_i g xs ys hx
          split at h
          · rename_i fn hg
            rw [fLi_eq (fun v k => fW_eq)] at h
            cases h
            obtain ⟨k1, k2⟩ := htb.fn g fn hg
            unfold okF at k2
            simp only [Bool.and_eq_true, Bool.not_eq_true'] at k2
            have hcall : callable P g = true := by
              unfold callable
              rw [k1]
              simp only [k2.1, k2.2, Bool.not_false, Bool.and_self]
            rw [opT_mem (fun y hy => by
              simp only [Op.operands, Call.operands, List.mem_toArray, Array.mem_append, List.mem_singleton] at hy
              rcases hy with hy | hy
              · rw [hy]; exact qd_ok hq.1
              · exact qdL_all hq.2 y (by simpa using hy)) (quietT_op rfl) rfl (by simp only [opOk, hx, calleeOk]; exact hcall)]
            have hrt : runT P (execOp (ev f) ⟨dst, .call ⟨.value x, args, ats⟩, type, pos, after, guard⟩) W = runT P (callFunc g ((xs ++ args.map (ev f)) ++ ys)) W := by
              show runT P (do let d ← resolve (ev f) ⟨.value x, args, ats⟩ type; invoke d.target d.args) W = _
              unfold resolve
              simp only [hx]
              rfl
            rw [hrt]
            unfold callFunc
            rw [rt_bind, rt_program, Option.bind_some]
            simp only [k1]
            rw [if_neg (by rw [k2.2]; exact Bool.false_ne_true), if_neg (by
              have := k2.1
              cases hb : fn.body <;> simp_all)]
            rw [rt_pure]
            have : (xs ++ args.map (ev f)) ++ ys = ⟨xs.toList ++ (evalL f args.toList ++ ys.toList)⟩ := by
              apply Array.ext'
              simp [evalL_eq]
            rw [this]
          · cases h
        · cases h
      · cases h
    case builtin b =>
      cases b <;> dsimp only at h <;> try (cases h)
      case append =>
        unfold apQ at h
        obtain ⟨l⟩ := args
        split at h
        · rename_i x y hl
          have hl' : l = [x, y] := hl
          subst hl'
          split at h
          · rename_i hq
            simp only [Bool.and_eq_true] at hq
            obtain ⟨v, W1, h1, h2⟩ := bind_some h
            cases h2
            obtain ⟨k1, k2⟩ := appR_eq htb h1
            have hq0 : quietT P f ⟨dst, .call ⟨.builtin .append, ⟨[x, y]⟩, ats⟩, type, pos, after, guard⟩ = none := by
              rcases k2 with k2 | k2
              · exact quietT_opd (x := x) (by simp [Op.operands, Call.operands]) (someSl_plain k2 _)
              · exact quietT_opd (x := y) (by simp [Op.operands, Call.operands]) (someSl_plain k2 _)
            unfold opT
            rw [if_pos (by
              rw [Array.all_eq_true_iff_forall_mem]
              intro z hz
              simp only [Op.operands, Call.operands, List.mem_toArray, Array.mem_append, List.mem_cons, List.not_mem_nil, false_or, or_false] at hz
              rcases hz with hz | hz <;> rw [hz]
              · exact qd_ok hq.1
              · exact qd_ok hq.2), hq0]
            have e1 : exT P f ⟨dst, .call ⟨.builtin .append, ⟨[x, y]⟩, ats⟩, type, pos, after, guard⟩ = none := by
              unfold exT
              simp [exOp]
            have e2 : spT P (ev f) ⟨dst, .call ⟨.builtin .append, ⟨[x, y]⟩, ats⟩, type, pos, after, guard⟩ W = some (v, W1) := k1
            simp only [opOk, Bool.and_false, Bool.false_eq_true, if_false, e1, syOp, havK, e2, Option.bind_some]
          · cases h
        · cases h
      unfold leQ at h
      split at h
      · rename_i x hl
        split at h
        · rename_i hq
          split at h
          · rename_i v hv
            cases h
            obtain ⟨l⟩ := args
            have hl' : l = [x] := hl
            subst hl'
            unfold lenQ at hv
            split at hv
            · rename_i t hts
              split at hv
              · rename_i a n c sz ag e z hx ht
                cases hv
                obtain ⟨i, d, h1, h2, h3, h4, h5, h6, h7⟩ := mkTI_some (htb.ty t _ ht)
                obtain ⟨et, i', rfl, e1, e2⟩ := kdI_sl h6
                have hats : ats[0]? = some t := by
                  rw [← Array.getElem?_toList, hts]; rfl
                refine opT_pure (fun y hy => by
                  simp only [Op.operands, Call.operands, List.mem_toArray, Array.mem_append, List.mem_singleton, List.not_mem_nil, false_or] at hy
                  rw [hy]; exact qd_ok hq) (fun W => ?_) rfl (.inl (by simp [opOk, hx, noSyV]))
                have e : Array.map (ev f) #[x] = #[ev f x] := by simp
                show runT P (do let d ← resolve (ev f) ⟨.builtin .len, #[x], ats⟩ type; invoke d.target d.args) W = _
                unfold resolve
                simp only [e]
                refine rt_v (s := Builtin.len_ ats type #[ev f x]) ?_
                unfold Builtin.len_
                simp only [hats, hx]
                show runT P (do let d ← Go.underlying t; _) W = _
                rw [rt_bind, rt_underlying h2, Option.bind_some]
                rfl
              · cases hv
            · cases hv
          · cases h
        · cases h
      · cases h
end
end Mir

