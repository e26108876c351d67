import Derived.Test.YtbhjimflcfnpaaaGreatDoorK6
set_option linter.all false
namespace Mo
open Go

/-! ## Rows, quickly: what changes alone is reckoned out -/
section
variable {β : Type}
noncomputable def fPut (vs : List Value) : List Value → (List Value → Option β) → Option β :=
  List.rec (motive := fun _ => List Value → (List Value → Option β) → Option β) (fun l k => k l)
    (fun v _ ih l k => List.rec (motive := fun _ => Option β) none (fun _ r _ => ih r fun r' => k (v :: r')) l) vs
noncomputable def fSet (vs : List Value) (o : Nat) : List Value → (List Value → Option β) → Option β :=
  Nat.rec (motive := fun _ => List Value → (List Value → Option β) → Option β) (fun l k => fPut vs l k)
    (fun _ ih l k => List.rec (motive := fun _ => Option β) none (fun x r _ => ih r fun r' => k (x :: r')) l) o
noncomputable def fTake (tl : List Value) (n : Nat) : List Value → (List Value → Option β) → Option β :=
  Nat.rec (motive := fun _ => List Value → (List Value → Option β) → Option β) (fun _ k => k tl)
    (fun _ ih l k => List.rec (motive := fun _ => Option β) none (fun x r _ => ih r fun r' => k (x :: r')) l) n
noncomputable def fTakeO (n : Nat) : List Value → (List Value → Option β) → Option β :=
  Nat.rec (motive := fun _ => List Value → (List Value → Option β) → Option β) (fun _ k => k [])
    (fun _ ih l k => List.rec (motive := fun _ => Option β) none (fun x r _ => match one x with
      | true => ih r fun r' => k (x :: r')
      | false => none) l) n
noncomputable def drp (o : Nat) : List Value → List Value :=
  Nat.rec (motive := fun _ => List Value → List Value) (fun l => l) (fun _ ih l => List.rec (motive := fun _ => List Value) [] (fun _ r _ => ih r) l) o
theorem drp_eq : ∀ (o : Nat) (l : List Value), drp o l = l.drop o
  | 0, l => rfl
  | o + 1, [] => by simp [drp]
  | o + 1, x :: r => by
    show drp o r = _
    rw [drp_eq o r]; rfl
theorem fPut_eq : ∀ (vs l : List Value) (k : List Value → Option β), fPut vs l k = if vs.length ≤ l.length then k (vs ++ l.drop vs.length) else none
  | [], l, k => by
    show k l = _
    simp
  | v :: vs, [], k => by
    show none = _
    simp
  | v :: vs, x :: r, k => by
    show fPut vs r (fun r' => k (v :: r')) = _
    rw [fPut_eq vs r]
    simp
theorem fSet_eq (vs : List Value) : ∀ (o : Nat) (l : List Value) (k : List Value → Option β), fSet vs o l k = if o + vs.length ≤ l.length then k (setLs l o vs) else none
  | 0, l, k => by
    show fPut vs l k = _
    rw [fPut_eq]
    simp [setLs]
  | o + 1, [], k => by
    show none = _
    rw [if_neg (by simp)]
  | o + 1, x :: r, k => by
    show fSet vs o r (fun r' => k (x :: r')) = _
    rw [fSet_eq vs o r]
    have e : (o + 1 + vs.length ≤ (x :: r).length) = (o + vs.length ≤ r.length) := by
      simp only [List.length_cons, eq_iff_iff]; omega
    simp only [e]
    congr 1
    have e2 : o + 1 + vs.length = (o + vs.length) + 1 := by omega
    simp only [setLs, e2, List.take_succ_cons, List.drop_succ_cons, List.cons_append]
theorem fTake_eq (tl : List Value) : ∀ (n : Nat) (l : List Value) (k : List Value → Option β), fTake tl n l k = (takeL l n).bind fun vs => k (vs ++ tl)
  | 0, l, k => by
    show k tl = _
    rw [takeL]; simp
  | n + 1, [], k => by
    show none = _
    rfl
  | n + 1, x :: r, k => by
    show fTake tl n r (fun r' => k (x :: r')) = _
    rw [fTake_eq tl n r, takeL]
    cases takeL r n <;> rfl
theorem fTakeO_eq : ∀ (n : Nat) (l : List Value) (k : List Value → Option β), fTakeO n l k = (takeL l n).bind fun vs => if vs.all one then k vs else none
  | 0, l, k => by
    show k [] = _
    rw [takeL]; simp
  | n + 1, [], k => by
    show none = _
    rfl
  | n + 1, x :: r, k => by
    have h : fTakeO (n + 1) (x :: r) k = (match one x with
      | true => fTakeO n r fun r' => k (x :: r')
      | false => none) := rfl
    rw [h, takeL]
    cases h1 : one x with
    | true =>
      simp only
      rw [fTakeO_eq n r]
      cases takeL r n with
      | none => rfl
      | some l => simp [h1]
    | false =>
      cases takeL r n with
      | none => rfl
      | some l => simp [h1]
noncomputable def chk (l : List Value) : Nat → Bool :=
  List.rec (motive := fun _ => Nat → Bool) (fun n => Nat.beq n 0) (fun v _ ih n => Nat.rec (motive := fun _ => Bool) false (fun m _ => match one v with
    | true => ih m
    | false => false) n) l
theorem chk_eq : ∀ {l : List Value} {n : Nat}, chk l n = true → l.length = n ∧ l.all one = true
  | [], n, h => by
    have h' : Nat.beq n 0 = true := h
    rw [Nat.beq_eq] at h'
    simp [h']
  | v :: r, 0, h => by cases h
  | v :: r, n + 1, h => by
    have h' : (match one v with
      | true => chk r n
      | false => false) = true := h
    split at h'
    · rename_i h1
      obtain ⟨h2, h3⟩ := chk_eq h'
      simp [h2, h1]
      simpa using h3
    · cases h'
noncomputable def Tw.setK (W : Tw) (n : Nat) (q : Option Row) (k : Tw → Option β) : Option β := match W with
  | ⟨t, nx, lim, rd, wr⟩ => fT q 64 t n fun t => wr.fadd n fun wr => k ⟨t, nx, lim, rd, wr⟩
theorem Tw.setK_eq (W : Tw) (n : Nat) (q : Option Row) (k : Tw → Option β) : W.setK n q k = k ((W.set n q).wrote n) := by
  obtain ⟨t, nx, lim, rd, wr⟩ := W
  simp only [Tw.setK, fT_eq, Lg.fadd_eq]
  rfl
noncomputable def Tw.readK (W : Tw) (n : Nat) (k : Tw → Option β) : Option β := match W with
  | ⟨t, nx, lim, rd, wr⟩ => rd.fadd n fun rd => k ⟨t, nx, lim, rd, wr⟩
theorem Tw.readK_eq (W : Tw) (n : Nat) (k : Tw → Option β) : W.readK n k = k (W.read n) := by
  obtain ⟨t, nx, lim, rd, wr⟩ := W
  simp only [Tw.readK, Lg.fadd_eq]
  rfl
noncomputable def Tw.layK (W : Tw) (q : Row) (k : Nat → Tw → Option β) : Option β := match W with
  | ⟨t, nx, lim, rd, wr⟩ => match Nat.blt nx lim, Nat.ble nx 9223372036854775807 with
    | true, true => fT (some q) 64 t nx fun t => wr.fadd nx fun wr => fN (nx + 1) fun nx1 => k nx ⟨t, nx1, lim, rd, wr⟩
    | _, _ => none
theorem Tw.layK_eq (W : Tw) (q : Row) (k : Nat → Tw → Option β) : W.layK q k = (W.lay q).bind fun p => k p.1 p.2 := by
  rw [lay_eq]
  obtain ⟨t, nx, lim, rd, wr⟩ := W
  simp only [Tw.layK, fT_eq, Lg.fadd_eq, fN_eq]
  cases Nat.blt nx lim <;> cases Nat.ble nx 9223372036854775807 <;> rfl
end

/-! ### store, load -/
noncomputable def storeR (sz : Nat) (a : Addr) (v : Value) (W : Tw) : Option (Unit × Tw) := match a with
  | ⟨b, off, none⟩ => match W.get b with
    | some ⟨cs, e, op, z, none⟩ => match v with
      | .agg ⟨c :: r⟩ => match chk (c :: r) sz with
        | true => fSet (c :: r) off cs fun cs' => W.setK b (some ⟨cs', e, op, z, none⟩) fun W' => some ((), W')
        | false => none
      | .agg ⟨[]⟩ => none
      | .tuple _ => none
      | v => match Nat.beq sz 1 && one v with
        | true => fSet [v] off cs fun cs' => W.setK b (some ⟨cs', e, op, z, none⟩) fun W' => some ((), W')
        | false => none
    | _ => none
  | _ => none
theorem setLs_one {v : Value} {cs : List Value} {o : Nat} (h : o < cs.length) : setLs cs o [v] = setL v cs o := by
  rw [← setLs_cons (vs := []) h]
  simp [setLs]
theorem storeR_eq {ti : TI} {a : Addr} {v : Value} {W : Tw} {r : Unit × Tw} (h : storeR ti.sz a v W = some r) : storeQ ti a v W = some r := by
  unfold storeR at h
  split at h
  · rename_i b off
    split at h
    · rename_i cs e op z hg
      split at h
      · rename_i c rs
        split at h
        · rename_i hc
          obtain ⟨h1, h2⟩ := chk_eq hc
          rw [fSet_eq] at h
          split at h
          · rename_i hle
            rw [Tw.setK_eq] at h
            unfold storeQ
            simp only
            have hb : ((c :: rs).length == ti.sz) = true := by rw [h1]; simp
            rw [if_pos (by rw [hb, h2]; rfl), upd_eq, hg]
            simp only
            rw [if_pos hle]
            exact h
          · cases h
        · cases h
      · cases h
      · cases h
      · rename_i hn1 hn2 hn3
        split at h
        · rename_i hs
          rw [Bool.and_eq_true, Nat.beq_eq] at hs
          obtain ⟨hs, h1⟩ := hs
          rw [fSet_eq] at h
          split at h
          · rename_i hle
            rw [Tw.setK_eq] at h
            have hlt : off < cs.length := by simp at hle; omega
            rw [setLs_one hlt] at h
            have hst : setT ⟨b, off, none⟩ v W = some r := by
              unfold setT
              simp only [upd_eq, hg, h1, Bool.true_and]
              rw [if_pos (by simpa using hlt)]
              exact h
            unfold storeQ
            split
            · exact absurd rfl hn2
            · exact absurd rfl (hn1 _ _)
            · exact absurd rfl (hn3 _)
            · rw [if_pos (by rw [hs]; rfl)]
              exact hst
          · cases h
        · cases h
    · cases h
  · cases h
noncomputable def getR (o : Nat) : List Value → Option Value :=
  Nat.rec (motive := fun _ => List Value → Option Value) (fun l => List.rec (motive := fun _ => Option Value) none (fun x _ _ => some x) l)
    (fun _ ih l => List.rec (motive := fun _ => Option Value) none (fun _ r _ => ih r) l) o
theorem getR_eq : ∀ (o : Nat) (l : List Value), getR o l = getL l o
  | 0, [] => rfl
  | 0, x :: r => rfl
  | o + 1, [] => rfl
  | o + 1, x :: r => by
    show getR o r = _
    rw [getR_eq o r, getL]
noncomputable def loadR (ag : Bool) (sz : Nat) (a : Addr) (W : Tw) : Option (Value × Tw) := match a with
  | ⟨b, off, none⟩ => match W.get b with
    | some ⟨cs, _, _, _, ob⟩ => match rdOb ob with
      | true => match ag with
        | false => match getR off cs with
          | some v => W.readK b fun W' => some (v, W')
          | none => none
        | true => match Nat.beq sz 0 with
          | true => none
          | false => fTake [] sz (drp off cs) fun vs => W.readK b fun W' => some (.agg ⟨vs⟩, W')
      | false => none
    | _ => none
  | _ => none
theorem loadR_eq {ti : TI} {a : Addr} {W : Tw} {r : Value × Tw} (h : loadR ti.ag ti.sz a W = some r) : loadQ ti a W = some r := by
  unfold loadR at h
  split at h
  · rename_i b off
    split at h
    · rename_i cs e op z ob hg
      split at h
      case h_2 => cases h
      rename_i hro
      have hro' := rdOb_or hro
      unfold loadQ
      split at h
      · rename_i hag
        rw [hag]
        split at h
        · rename_i v hv
          rw [Tw.readK_eq] at h
          rw [getR_eq] at hv
          simp only
          rw [cellT_at (r := ⟨cs, e, op, z, ob⟩) rfl hg hro' hv]
          exact h
        · cases h
      · rename_i hag
        rw [hag]
        split at h
        · cases h
        · rename_i hz
          rw [fTake_eq, drp_eq] at h
          cases ht : takeL (cs.drop off) ti.sz with
          | none => rw [ht] at h; cases h
          | some vs =>
            rw [ht, Option.bind_some, Tw.readK_eq, List.append_nil] at h
            cases hsz : ti.sz with
            | zero => rw [hsz] at hz; cases hz
            | succ n =>
              simp only
              rw [hsz] at ht
              have : cellsT ⟨b, off, none⟩ (n + 1) W = some (vs, W.read b) := by
                unfold cellsT
                simp only [look_eq, hg, Option.bind_some, hro, ht, Option.map_some]
              rw [this]
              exact h
    · cases h
  · cases h

/-! ### append -/
noncomputable def roomR {β : Type} (a : Addr) (o : Nat) (news : List Value) (W : Tw) (k : Tw → Option β) : Option β := match a with
  | ⟨b, off, none⟩ => match W.get b with
    | some ⟨cs, e, op, z, none⟩ => fSet news (Nat.add off o) cs fun cs' => W.setK b (some ⟨cs', e, op, z, none⟩) k
    | _ => none
  | _ => none
theorem roomR_eq {β : Type} {a : Addr} {o : Nat} {news : List Value} {W : Tw} {k : Tw → Option β} {r : β} (h : roomR a o news W k = some r) : (roomT a o news W).bind (fun q => k q.2) = some r := by
  unfold roomR at h
  split at h
  · rename_i b off
    split at h
    · rename_i cs e op z hg
      rw [fSet_eq] at h
      split at h
      · rename_i hle
        rw [Tw.setK_eq] at h
        unfold roomT
        simp only [upd_eq, hg]
        have hle' : off + o + news.length ≤ cs.length := hle
        rw [if_pos hle']
        exact h
      · cases h
    · cases h
  · cases h
/-- A row grows out of one that stays, or that is forgotten. -/
noncomputable def growR (kl : Bool) (e z : Nat) (a : Addr) (l need : Nat) (news : List Value) (W : Tw) : Option (Value × Tw) := match a with
  | ⟨b, off, none⟩ => match W.get b with
    | some ⟨cs, e', op, z', none⟩ => fTake news (Nat.mul l z) (drp off cs) fun all => W.readK b fun W => match kl with
      | false => W.layK ⟨all, e, true, z, none⟩ fun n W => some (.slice (some ⟨n, 0, none⟩) need (big + need), W)
      | true => match op, Nat.beq z' z, Nat.beq e' e with
        | true, true, true => W.setK b none fun W => W.layK ⟨all, e, true, z, none⟩ fun n W => some (.slice (some ⟨n, 0, none⟩) need (big + need), W)
        | _, _, _ => none
    | _ => none
  | _ => none
theorem takeL_len {l vs : List Value} {n : Nat} (h : takeL l n = some vs) : vs.length = n := (takeL_some h).1
theorem growR_false {e z : Nat} {a : Addr} {l n : Nat} {news : List Value} {W : Tw} {r : Value × Tw} (hn : news.length = n * z) (h : growR false e z a l (l + n) news W = some r) :
    (cellsT a (l * z) W).bind (fun q => growT e z q.1 news (l + n) q.2) = some r := by
  unfold growR at h
  split at h
  · rename_i b off
    split at h
    · rename_i cs e' op z' hg
      rw [fTake_eq, drp_eq] at h
      have e0 : Nat.mul l z = l * z := rfl
      rw [e0] at h
      cases ht : takeL (cs.drop off) (l * z) with
      | none => rw [ht] at h; cases h
      | some vs =>
        rw [ht, Option.bind_some, Tw.readK_eq] at h
        simp only [Tw.layK_eq] at h
        have hc : cellsT ⟨b, off, none⟩ (l * z) W = some (vs, W.read b) := by
          unfold cellsT
          simp only [look_eq, hg, Option.bind_some, rdOb, ht, Option.map_some]
        rw [hc, Option.bind_some]
        unfold growT
        rw [if_pos (by rw [List.length_append, hn, takeL_len ht, Nat.add_mul])]
        exact h
    · cases h
  · cases h
theorem growR_true {e z : Nat} {a : Addr} {l n : Nat} {news : List Value} {W : Tw} {r : Value × Tw} (hn : news.length = n * z) (h : growR true e z a l (l + n) news W = some r) :
    (cellsT a (l * z) W).bind (fun q => (killZ a.block z e q.2).bind fun k => growT e z q.1 news (l + n) k.2) = some r := by
  unfold growR at h
  split at h
  · rename_i b off
    split at h
    · rename_i cs e' op z' hg
      rw [fTake_eq, drp_eq] at h
      have e0 : Nat.mul l z = l * z := rfl
      rw [e0] at h
      cases ht : takeL (cs.drop off) (l * z) with
      | none => rw [ht] at h; cases h
      | some vs =>
        rw [ht, Option.bind_some, Tw.readK_eq] at h
        simp only at h
        split at h
        · rename_i ho h1 h2
          rw [Nat.beq_eq] at h1 h2
          subst h1 h2
          rw [Tw.setK_eq, Tw.layK_eq] at h
          have hc : cellsT ⟨b, off, none⟩ (l * z') W = some (vs, W.read b) := by
            unfold cellsT
            simp only [look_eq, hg, Option.bind_some, rdOb, ht, Option.map_some]
          rw [hc, Option.bind_some]
          unfold killZ
          rw [upd_eq, Tw.get_read, hg]
          simp only [decide_true, Bool.and_self, if_true, Option.bind_some]
          unfold growT
          rw [if_pos (by rw [List.length_append, hn, takeL_len ht, Nat.add_mul])]
          exact h
        · cases h
    · cases h
  · cases h
noncomputable def appNR (e z by' : Nat) (base : Option Addr) (l c n : Nat) (news : List Value) (W : Tw) : Option (Value × Tw) := fN (Nat.add l n) fun need => match Nat.blt c big with
  | true => match Nat.ble need c with
    | true => match base with
      | none => none
      | some a => roomR a (Nat.mul l z) news W fun W => some (.slice (some a) need c, W)
    | false => match Nat.ble need 1099511627776, Nat.ble (Nat.mul need by') 140737488355328 with
      | true, true => match base with
        | none => match l with
          | 0 => W.layK ⟨news, e, true, z, none⟩ fun n W => some (.slice (some ⟨n, 0, none⟩) need (big + need), W)
          | _ + 1 => none
        | some a => growR false e z a l need news W
      | _, _ => none
  | false => match base with
    | none => none
    | some a => match Nat.ble need (Nat.sub c big) with
      | true => roomR a (Nat.mul l z) news W fun W => some (.slice (some a) need c, W)
      | false => match Nat.ble need 1099511627776, Nat.ble (Nat.mul need by') 140737488355328 with
        | true, true => growR true e z a l need news W
        | _, _ => none
theorem appNR_eq {e : TypeId} {i : TypeInfo} {base : Option Addr} {l c n : Nat} {news : List Value} {W : Tw} {r : Value × Tw} (hn : news.length = n * i.size) (h : appNR e i.size i.bytes base l c n news W = some r) : appN e i base l c n news W = some r := by
  unfold appNR at h
  rw [fN_eq] at h
  have e0 : Nat.add l n = l + n := rfl
  rw [e0] at h
  have bl : ∀ {a b : Nat}, Nat.ble a b = false → ¬ a ≤ b := fun hb hc => by rw [← Nat.ble_eq, hb] at hc; cases hc
  unfold appN
  simp only
  split at h
  · rename_i hc
    rw [Nat.blt_eq] at hc
    rw [if_pos hc]
    split at h
    · rename_i h1
      rw [Nat.ble_eq] at h1
      rw [if_pos h1]
      split at h
      · cases h
      · exact roomR_eq h
    · rename_i h1
      rw [if_neg (bl h1)]
      split at h
      · rename_i h2 h3
        rw [Nat.ble_eq] at h2 h3
        rw [if_pos (by simp only [Bool.and_eq_true, decide_eq_true_eq]; exact ⟨h2, h3⟩)]
        split at h
        · split at h
          · rw [if_pos rfl]
            unfold growT
            rw [Tw.layK_eq] at h
            rw [if_pos (by simpa using hn)]
            exact h
          · cases h
        · exact growR_false hn h
      · cases h
  · rename_i hc
    rw [if_neg (by intro h1; rw [← Nat.blt_eq, hc] at h1; cases h1)]
    split at h
    · cases h
    · simp only
      split at h
      · rename_i h1
        rw [Nat.ble_eq] at h1
        have h1' : l + n ≤ c - big := h1
        rw [if_pos h1']
        exact roomR_eq h
      · rename_i h1
        have h1' : ¬ l + n ≤ c - big := bl h1
        rw [if_neg h1']
        split at h
        · rename_i h2 h3
          rw [Nat.ble_eq] at h2 h3
          rw [if_pos (by simp only [Bool.and_eq_true, decide_eq_true_eq]; exact ⟨h2, h3⟩)]
          exact growR_true hn h
        · cases h
/-- What the second argument yields. -/
noncomputable def srcR {β : Type} (z : Nat) (y : Value) (W : Tw) (k : Nat → List Value → Tw → Option β) : Option β := match y with
  | .slice (some ⟨b, off, none⟩) n _ => match W.get b with
    | some ⟨cs, _, _, _, none⟩ => fTakeO (Nat.mul n z) (drp off cs) fun news => W.readK b fun W => k n news W
    | _ => none
  | .slice none 0 _ => k 0 [] W
  | _ => none
theorem srcR_eq {β : Type} {z : Nat} {y : Value} {W : Tw} {k : Nat → List Value → Tw → Option β} {r : β} (h : srcR z y W k = some r) : ∃ n news W', srcT z y W = some ((n, news), W') ∧ news.length = n * z ∧ k n news W' = some r := by
  unfold srcR at h
  split at h
  · rename_i b off n c
    split at h
    · rename_i cs e op z' hg
      rw [fTakeO_eq, drp_eq] at h
      have e0 : Nat.mul n z = n * z := rfl
      rw [e0] at h
      cases ht : takeL (cs.drop off) (n * z) with
      | none => rw [ht] at h; cases h
      | some vs =>
        rw [ht, Option.bind_some] at h
        split at h
        · rename_i h1
          rw [Tw.readK_eq] at h
          refine ⟨n, vs, _, ?_, takeL_len ht, h⟩
          unfold srcT
          have hc : cellsT ⟨b, off, none⟩ (n * z) W = some (vs, W.read b) := by
            unfold cellsT
            simp only [look_eq, hg, Option.bind_some, rdOb, ht, Option.map_some]
          simp only [hc, Option.bind_some]
          rw [if_pos h1]
          rfl
        · cases h
    · cases h
  · rename_i c
    exact ⟨0, [], W, by simp [srcT], by simp, h⟩
  · cases h
noncomputable def someSl : Value → Bool
  | .slice (some _) _ _ => true
  | _ => false
noncomputable def sl2 (x y : Value) : Bool := match someSl x with
  | true => true
  | false => someSl y
noncomputable def appR (tb : Tb) (ats : List TypeId) (x y : Value) (W : Tw) : Option (Value × Tw) := match ats with
  | [t, tx] => match Nat.beq t tx with
    | true => match tb.ap.get t with
      | some (e, z, by') => match x with
        | .slice base l c => match sl2 x y with
          | true => srcR z y W fun n news W => appNR e z by' base l c n news W
          | false => none
        | _ => none
      | none => none
    | false => none
  | _ => none
theorem appR_eq {P : Program} {tb : Tb} (htb : TbOk P tb) {ats : Array TypeId} {x y : Value} {W : Tw} {r : Value × Tw} (h : appR tb ats.toList x y W = some r) : appT P ats x y W = some r ∧ (someSl x = true ∨ someSl y = true) := by
  obtain ⟨l⟩ := ats
  unfold appR at h
  split at h
  · rename_i t tx hl
    have hl' : l = [t, tx] := hl
    subst hl'
    split at h
    · rename_i hb
      rw [Nat.beq_eq] at hb
      subst hb
      split at h
      · rename_i e z by' ha
        split at h
        · rename_i base l c
          split at h
          · rename_i hs
            have := htb.ap _ _ ha
            unfold mkAp at this
            split at this
            · rename_i e' i hi
              cases this
              obtain ⟨n, news, W', h1, h2, h3⟩ := srcR_eq h
              refine ⟨?_, ?_⟩
              · unfold appT
                have hi' : appInfo P ({ toList := [t, t] } : Array TypeId) = some (e, i) := hi
                rw [hi']
                simp only
                rw [h1]
                simp only [Option.bind_some]
                exact appNR_eq h2 h3
              · unfold sl2 at hs
                split at hs
                · rename_i h4; exact .inl h4
                · exact .inr hs
            · cases this
          · cases h
        · cases h
      · cases h
    · cases h
  · cases h
theorem someSl_plain {v : Value} (h : someSl v = true) (d : Nat) : plainD d v = false := by
  cases v <;> first | cases h | skip
  rename_i a l c
  cases a with
  | none => cases h
  | some a => cases d <;> rfl

/-! ### cells of a value -/
noncomputable def fZ {α : Type} (v : Value) (k : List Value → α) : α := match v with
  | .agg ⟨l⟩ => k l
  | v => k [v]
theorem fZ_eq {α : Type} {v : Value} {k : List Value → α} : fZ v k = k v.cells.toList := by
  unfold fZ
  split
  · rfl
  · rename_i h
    cases v <;> first | rfl | exact absurd rfl (h _)
end Mo

namespace Mo
open Go

/-! ## Operations, quickly -/
noncomputable def qc : Value → Bool
  | .int _ _ | .bool _ | .string _ | .nilFunc | .nilIface | .pointer none | .slice none _ _ | .map none => true
  | _ => false
noncomputable def qd : Operand → Bool
  | .tmp _ | .func _ => true
  | .const v => qc v
  | .global _ => false
theorem qd_ok {x : Operand} (h : qd x = true) : opdOk x = true := by
  cases x with
  | tmp t => rfl
  | func f => rfl
  | global g => cases h
  | const v =>
    cases v <;> first | rfl | (rename_i a; cases a <;> first | rfl | cases h) | (rename_i a _ _; cases a <;> first | rfl | cases h) | cases h
noncomputable def getX {α : Type} : List α → Nat → Option α
  | [], _ => none
  | x :: r, n => match n with
    | 0 => some x
    | m + 1 => getX r m
theorem getX_eq {α : Type} : ∀ (l : List α) (n : Nat), getX l n = l[n]?
  | [], n => by simp [getX]
  | x :: r, 0 => rfl
  | x :: r, n + 1 => by simp [getX, getX_eq r n]
noncomputable def evalL (f : Nat → Value) : List Operand → List Value
  | [] => []
  | x :: r => ev f x :: evalL f r
theorem evalL_eq (f : Nat → Value) : ∀ l : List Operand, evalL f l = l.map (ev f)
  | [] => rfl
  | x :: r => by simp [evalL, evalL_eq f r]
noncomputable def evalP (f : Nat → Value) : List (Nat × Operand) → List (Nat × Value)
  | [] => []
  | (i, x) :: r => (i, ev f x) :: evalP f r
theorem evalP_eq (f : Nat → Value) : ∀ l : List (Nat × Operand), evalP f l = l.map fun p => (p.1, ev f p.2)
  | [] => rfl
  | (i, x) :: r => by simp [evalP, evalP_eq f r]
noncomputable def qdL : List Operand → Bool
  | [] => true
  | x :: r => qd x && qdL r
theorem qdL_all : ∀ {l : List Operand}, qdL l = true → ∀ x ∈ l, opdOk x = true
  | [], _, x, h => by cases h
  | y :: r, hq, x, h => by
    simp only [qdL, Bool.and_eq_true] at hq
    rcases List.mem_cons.1 h with h | h
    · rw [h]; exact qd_ok hq.1
    · exact qdL_all hq.2 x h
noncomputable def qdP : List (Nat × Operand) → Bool
  | [] => true
  | (_, x) :: r => qd x && qdP r
theorem qdP_all : ∀ {l : List (Nat × Operand)}, qdP l = true → ∀ p ∈ l, opdOk p.2 = true
  | [], _, x, h => by cases h
  | (i, y) :: r, hq, x, h => by
    simp only [qdP, Bool.and_eq_true] at hq
    rcases List.mem_cons.1 h with h | h
    · rw [h]; exact qd_ok hq.1
    · exact qdP_all hq.2 x h
/-- A scalar that an operation on numbers yields. -/
noncomputable def scal : Value → Bool
  | .int _ _ | .bool _ => true
  | _ => false
noncomputable def binQ (b : BinOp) (t : TypeId) (x y : Value) : Option Value := match x, y with
  | .int j m, .int k n => match binOp b t (.int j m) (.int k n) with
    | .pure v => if scal v then some v else none
    | _ => none
  | _, _ => none
noncomputable def lenQ (tb : Tb) (ts : List TypeId) (x : Value) : Option Value := match ts with
  | [t] => match x, tb.ty.get t with
    | .slice (some _) n _, some ⟨_, _, .sl _, _⟩ => some (.int .i64 n)
    | _, _ => none
  | _ => none
/-- A bound of a part. -/
noncomputable def bdQ (f : Nat → Value) (x : Option Operand) (d : Nat) : Option Nat := match x with
  | none => some d
  | some y => if qd y then match ev f y with
    | .int _ (.ofNat i) => some i
    | _ => none
    else none
noncomputable def mvQ (f : Nat → Value) (x : Operand) (W : Tw) : Option (Next × Tw) := if qd x then some (.value (ev f x), W) else none
noncomputable def ldQ (tb : Tb) (f : Nat → Value) (t : TypeId) (x : Operand) (W : Tw) : Option (Next × Tw) := if qd x then match ev f x with
      | .pointer (some a) => match tb.ty.get t with
        | some ti => (loadR ti.ag ti.sz a W).bind fun p => some (.value p.1, p.2)
        | none => none
      | _ => none
    else none
noncomputable def stQ (tb : Tb) (f : Nat → Value) (t : TypeId) (x y : Operand) (W : Tw) : Option (Next × Tw) := if qd x && qd y then match ev f x with
      | .pointer (some a) => match tb.ty.get t with
        | some ti => fW (ev f y) fun v => (storeR ti.sz a v W).bind fun p => some (.skip, p.2)
        | none => none
      | _ => none
    else none
noncomputable def faQ (tb : Tb) (f : Nat → Value) (s : TypeId) (x : Operand) (n : Nat) (W : Tw) : Option (Next × Tw) := if qd x then match ev f x, tb.ty.get s with
      | .pointer (some a), some ⟨_, _, .st fs, _⟩ => match getX fs n with
        | some (off, sz + 1, _) => some (.value (.pointer (some (a.add off))), W)
        | _ => none
      | _, _ => none
    else none
noncomputable def iaQ (tb : Tb) (f : Nat → Value) (t : TypeId) (x y : Operand) (W : Tw) : Option (Next × Tw) := if qd x && qd y then match ev f y, ev f x, tb.ty.get t with
      | .int _ (.ofNat i), .pointer (some a), some ⟨_, _, .ar n e, _⟩ => if Nat.blt i n then some (.value (.pointer (some (a.add (i * e)))), W) else none
      | .int _ (.ofNat i), .slice (some a) n _, some ⟨_, _, .sl e, _⟩ => if Nat.blt i n then some (.value (.pointer (some (a.add (i * e)))), W) else none
      | _, _, _ => none
    else none
def toldP (l : List (Nat × Value)) : Bool := l.all fun p => toldB p.2
noncomputable def buQ (tb : Tb) (f : Nat → Value) (t : TypeId) (ps : Array (Nat × Operand)) (W : Tw) : Option (Next × Tw) := if qdP ps.toList && toldP (evalP f ps.toList) then match tb.ty.get t with
      | some ⟨_, _, .st fs, z⟩ => match Instr.fill (fun i => (getX fs i).map fun p => (p.1, p.2.1)) z.cells (evalP f ps.toList) with
        | some cells => some (.value (.agg cells), W)
        | none => none
      | some ⟨_, _, .ar _ e, z⟩ => match Instr.fill (fun i => some (i * e, e)) z.cells (evalP f ps.toList) with
        | some cells => some (.value (.agg cells), W)
        | none => none
      | _ => none
    else none
noncomputable def alQ (tb : Tb) (t : TypeId) (W : Tw) : Option (Next × Tw) := match tb.ty.get t with
    | some ti => fZ ti.z fun l => W.layK ⟨l, t, false, 0, none⟩ fun n W => some (.value (.pointer (some ⟨n, 0, none⟩)), W)
    | none => none
noncomputable def boQ (f : Nat → Value) (t : TypeId) (x : Operand) (W : Tw) : Option (Next × Tw) := if qd x then fW (ev f x) fun v => fZ v fun l => match oneC l with
  | true => W.layK ⟨l, t, false, 0, none⟩ fun n W => some (.value (.pointer (some ⟨n, 0, none⟩)), W)
  | false => none else none
noncomputable def piQ (f : Nat → Value) (c x y : Operand) (W : Tw) : Option (Next × Tw) := if qd c && qd x && qd y then match ev f c with
      | .bool true => some (.value (ev f x), W)
      | .bool false => some (.value (ev f y), W)
      | _ => none
    else none
noncomputable def ncQ (f : Nat → Value) (x : Operand) (W : Tw) : Option (Next × Tw) := if qd x then match ev f x with
      | .pointer (some a) => some (.value (.pointer (some a)), W)
      | _ => none
    else none
noncomputable def biQ (f : Nat → Value) (b : BinOp) (t : TypeId) (x y : Operand) (W : Tw) : Option (Next × Tw) := if qd x && qd y then match binQ b t (ev f x) (ev f y) with
      | some v => some (.value v, W)
      | none => none
    else none
noncomputable def slQ (tb : Tb) (f : Nat → Value) (t : TypeId) (x : Operand) (lo hi mx : Option Operand) (W : Tw) : Option (Next × Tw) := match mx with
    | some _ => none
    | none => if qd x then match ev f x, tb.ty.get t, bdQ f lo 0 with
      | .slice (some a) len cap, some ⟨_, _, .sl e, _⟩, some l => match bdQ f hi len with
        | some h => if Nat.ble l h && Nat.ble h cap && Nat.blt cap big then some (.value (.slice (some (if cap = l then a else a.add (l * e))) (h - l) (cap - l)), W) else none
        | none => none
      | _, _, _ => none
      else none
noncomputable def fiQ (tb : Tb) (f : Nat → Value) (s : TypeId) (x : Operand) (n : Nat) (W : Tw) : Option (Next × Tw) := if qd x then match ev f x, tb.ty.get s with
      | .agg ⟨cs⟩, some ⟨_, _, .st fs, _⟩ => match getX fs n with
        | some (off, sz, true) => some (.value (.agg ⟨(cs.drop off).take sz⟩), W)
        | some (off, _, false) => match getX (cs.drop off) 0 with
          | some v => some (.value v, W)
          | none => none
        | none => none
      | _, _ => none
    else none
noncomputable def exQ (f : Nat → Value) (x : Operand) (i : Nat) (W : Tw) : Option (Next × Tw) := if qd x then match ev f x with
      | .tuple vs => match getX vs.toList i with
        | some v => some (.value v, W)
        | none => none
      | _ => none
    else none
noncomputable def cvQ (tb : Tb) (f : Nat → Value) (s d : TypeId) (x : Operand) (W : Tw) : Option (Next × Tw) := if qd x then match ev f x, tb.ty.get s, tb.ty.get d with
      | .int _ n, some _, some ⟨_, _, .int k, _⟩ => some (.value (.int k (k.wrap n)), W)
      | _, _, _ => none
    else none
noncomputable def clQQ (tb : Tb) (f : Nat → Value) (x : Operand) (args : List Operand) (W : Tw) : Option (Next × Tw) := if qd x && qdL args then match ev f x with
        | .func (.func g) xs ys => match tb.fn.get g with
          | some _ => fLi fW (xs.toList ++ (evalL f args ++ ys.toList)) fun l => some (.enter g ⟨l⟩, W)
          | none => none
        | _ => none
      else none
noncomputable def leQ (tb : Tb) (f : Nat → Value) (c : Call) (W : Tw) : Option (Next × Tw) := match c.args.toList with
      | [x] => if qd x then match lenQ tb c.argTypes.toList (ev f x) with
          | some v => some (.value v, W)
          | none => none
        else none
      | _ => none
noncomputable def apQ (tb : Tb) (f : Nat → Value) (c : Call) (W : Tw) : Option (Next × Tw) := match c.args.toList with
      | [x, y] => if qd x && qd y then (appR tb c.argTypes.toList (ev f x) (ev f y) W).bind fun p => some (.value p.1, p.2)
        else none
      | _ => none
noncomputable def opQ (tb : Tb) (f : Nat → Value) (o : Oper) (W : Tw) : Option (Next × Tw) := match o.op with
  | .move x => mvQ f x W
  | .assign x => mvQ f x W
  | .load t x => ldQ tb f t x W
  | .store t x y => stQ tb f t x y W
  | .fieldAddr s x n => faQ tb f s x n W
  | .indexAddr t x y => iaQ tb f t x y W
  | .build t ps => buQ tb f t ps W
  | .alloc t => alQ tb t W
  | .box t x => boQ f t x W
  | .pick c x y => piQ f c x y W
  | .nilCheck x => ncQ f x W
  | .binOp b t x y _ => biQ f b t x y W
  | .slice t x lo hi mx => slQ tb f t x lo hi mx W
  | .field s x n => fiQ tb f s x n W
  | .extract x i => exQ f x i W
  | .convert s d x => cvQ tb f s d x W
  | .call c => match c.callee with
    | .value x => clQQ tb f x c.args.toList W
    | .builtin .len => leQ tb f c W
    | .builtin .append => apQ tb f c W
    | _ => none
  | _ => none

section
variable {P : Program} {sy : SyT}
/-- What touches no memory. -/
theorem opT_pure {f : Nat → Value} {o : Oper} {v : Value} {W : Tw} (h1 : ∀ x ∈ o.op.operands, opdOk x = true) (hr : ∀ W, runT P (execOp (ev f) o) W = some (.value v, W)) (hsp : spFirst o.op = false)
    (hok : opOk P (ev f) o = true ∨ quietT P f o ≠ none) (hns : hasSy (ev f) o.op = false := by first | rfl | (simp [hasSy, isSyA, isSy, *]; done)) : opT P sy f o W = some (.value v, W) := by
  unfold opT
  rw [if_pos (by rw [Array.all_eq_true_iff_forall_mem]; exact h1), hns]
  simp only
  cases hq : quietT P f o with
  | none =>
    have hok := hok.resolve_right (by rw [hq]; simp)
    simp only [hsp, hok, Bool.not_false, Bool.and_self, if_true]
    exact hr W
  | some u =>
    unfold quietT at hq
    split at hq
    · unfold quietB at hq
      rw [hr] at hq
      simp only at hq
      split at hq
      · cases hq; rfl
      · cases hq
    · cases hq
/-- What touches memory. -/
theorem opT_mem {f : Nat → Value} {o : Oper} {W : Tw} (h1 : ∀ x ∈ o.op.operands, opdOk x = true) (hq : quietT P f o = none) (hsp : spFirst o.op = false) (hok : opOk P (ev f) o = true) (hns : hasSy (ev f) o.op = false := by first | rfl | (simp [hasSy, isSyA, isSy, *]; done)) :
    opT P sy f o W = runT P (execOp (ev f) o) W := by
  unfold opT
  rw [if_pos (by rw [Array.all_eq_true_iff_forall_mem]; exact h1), hns, hq]
  simp only [hsp, hok, Bool.not_false, Bool.and_self, if_true]
theorem quietT_op {f : Nat → Value} {o : Oper} (h : quietOp o.op = false) : quietT P f o = none := by
  unfold quietT
  rw [h]; rfl
theorem quietT_opd {f : Nat → Value} {o : Oper} {x : Operand} (hx : x ∈ o.op.operands) (h : plainD depth (ev f x) = false) : quietT P f o = none := by
  unfold quietT
  have : o.op.operands.all (fun x => plainD depth (ev f x)) = false := by
    cases hc : o.op.operands.all (fun x => plainD depth (ev f x)) with
    | false => rfl
    | true =>
      rw [Array.all_eq_true_iff_forall_mem] at hc
      rw [hc x hx] at h
      cases h
  rw [this, Bool.and_false]
  rfl
theorem rt_v {s : Sem Value} {W W' : Tw} {v : Value} (h : runT P s W = some (v, W')) : runT P (do pure (.value (← s)) : Sem Next) W = some (.value v, W') := by
  rw [rt_bind, h]; rfl
theorem rt_u {s : Sem Unit} {W W' : Tw} {u : Unit} (h : runT P s W = some (u, W')) : runT P (do s; pure .skip : Sem Next) W = some (.skip, W') := by
  rw [rt_bind, h]; rfl
theorem fieldsI_some : ∀ {l : List Field} {fs : List (Nat × Nat × Bool)}, fieldsI P l = some fs → fs.length = l.length ∧ ∀ (n off sz : Nat) (ag : Bool), fs[n]? = some (off, sz, ag) → ∃ (fd : Field) (i : TypeInfo) (d : TypeDesc), l[n]? = some fd ∧ fd.offset = off ∧ P.info? fd.type = some i ∧ i.size = sz ∧ P.underlying fd.type = some d ∧ agD d = ag
  | [], fs, h => by
    simp only [fieldsI, Option.some.injEq] at h
    subst h
    exact ⟨rfl, fun n off sz ag h => by simp at h⟩
  | f :: r, fs, h => by
    unfold fieldsI at h
    split at h
    · rename_i i d l h1 h2 h3
      cases h
      obtain ⟨k1, k2⟩ := fieldsI_some h3
      refine ⟨by simp [k1], fun n off sz ag hn => ?_⟩
      cases n with
      | zero =>
        simp only [List.getElem?_cons_zero, Option.some.injEq, Prod.mk.injEq] at hn
        exact ⟨f, i, d, rfl, hn.1, h1, hn.2.1, h2, hn.2.2⟩
      | succ n =>
        obtain ⟨fd, i', d', q⟩ := k2 n off sz ag (by simpa using hn)
        exact ⟨fd, i', d', by simpa using q.1, q.2⟩
    · cases h
theorem kdI_st {d : TypeDesc} {fs : List (Nat × Nat × Bool)} (h : kdI P d = .st fs) : ∃ l, d = .struct l ∧ fieldsI P l.toList = some fs := by
  unfold kdI at h
  split at h
  · rename_i l
    split at h
    · rename_i l' hl
      cases h
      exact ⟨l, rfl, hl⟩
    · cases h
  all_goals first | (split at h <;> cases h) | cases h
theorem kdI_ar {d : TypeDesc} {n e : Nat} (h : kdI P d = .ar n e) : ∃ et i, d = .array n et ∧ P.info? et = some i ∧ i.size = e := by
  unfold kdI at h
  split at h
  · split at h <;> cases h
  · rename_i n' et
    split at h
    · rename_i i hi
      cases h
      exact ⟨et, i, rfl, hi, rfl⟩
    · cases h
  all_goals first | (split at h <;> cases h) | cases h
theorem kdI_sl {d : TypeDesc} {e : Nat} (h : kdI P d = .sl e) : ∃ et i, d = .slice et ∧ P.info? et = some i ∧ i.size = e := by
  unfold kdI at h
  split at h
  · split at h <;> cases h
  · split at h <;> cases h
  · rename_i et
    split at h
    · rename_i i hi
      cases h
      exact ⟨et, i, rfl, hi, rfl⟩
    · cases h
  all_goals cases h
theorem kdI_int {d : TypeDesc} {k : IntKind} (h : kdI P d = .int k) : d = .int k := by
  unfold kdI at h
  split at h
  all_goals first | (split at h <;> cases h) | (cases h; rfl) | cases h
end
end Mo

namespace Mo
open Go

theorem appT_sy {P : Program} {ats : Array TypeId} {s x : Value} {W : Tw} {p : Value × Tw} (h : appT P ats s x W = some p) : (isSy s || isSy x) = false := by
  unfold appT at h
  split at h
  · cases h
  · split at h
    · obtain ⟨q, W1, h1, -⟩ := bind_some h
      cases x <;> first | rfl | skip
      rename_i o
      cases o with
      | none => rfl
      | some n => cases h1
    · cases h
section
variable {P : Program} {sy : SyT} {tb : Tb}
theorem add_zero' (a : Addr) : a.add 0 = a := by simp [Addr.add]
theorem bdQ_some {f : Nat → Value} {x : Option Operand} {d n : Nat} (h : bdQ f x d = some n) : (x = none ∧ n = d) ∨ ∃ y k, x = some y ∧ qd y = true ∧ ev f y = .int k (.ofNat n) := by
  unfold bdQ at h
  split at h
  · cases h; exact .inl ⟨rfl, rfl⟩
  · rename_i y
    split at h
    · rename_i hq
      split at h
      · rename_i k i he
        cases h
        exact .inr ⟨y, k, rfl, hq, he⟩
      · cases h
    · cases h
theorem bdQ_sy {f : Nat → Value} {x : Option Operand} {d n : Nat} (h : bdQ f x d = some n) : oSy (ev f) x = false := by
  rcases bdQ_some h with ⟨rfl, -⟩ | ⟨y, k, rfl, -, e⟩
  · rfl
  · show isSy (ev f y) = false
    rw [e]; rfl
theorem rt_bound {k : IntKind} {i y : Nat} (c : BoundsCode) (h : i ≤ y) (W : Tw) : runT P (Instr.sliceBound (.int k (.ofNat i)) y c) W = some (i, W) := by
  unfold Instr.sliceBound
  have : 0 ≤ Int.ofNat i ∧ Int.ofNat i ≤ (y : Int) := ⟨Int.natCast_nonneg i, Int.ofNat_le.2 h⟩
  show runT P (if 0 ≤ Int.ofNat i ∧ Int.ofNat i ≤ (y : Int) then pure (Int.ofNat i).toNat else _) W = _
  rw [if_pos this]
  rfl
theorem rt_bounds {f : Nat → Value} {lo hi : Option Operand} {len cap l h : Nat} (h1 : bdQ f lo 0 = some l) (h2 : bdQ f hi len = some h) (h3 : l ≤ h) (h4 : h ≤ cap) (W : Tw) :
    runT P (Instr.sliceBounds true len cap (lo.map (ev f)) (hi.map (ev f)) none) W = some ((l, h, cap), W) := by
  unfold Instr.sliceBounds
  rcases bdQ_some h1 with ⟨rfl, rfl⟩ | ⟨y, k, rfl, -, e1⟩ <;> rcases bdQ_some h2 with ⟨rfl, rfl⟩ | ⟨z, j, rfl, -, e2⟩
  · simp only [Option.map_none, rt_bind, rt_pure, Option.bind_some]
  · simp only [Option.map_none, Option.map_some, e2, rt_bind, rt_pure, Option.bind_some, rt_bound _ h4]
  · simp only [Option.map_none, Option.map_some, e1, rt_bind, rt_pure, Option.bind_some, rt_bound _ h3]
  · simp only [Option.map_some, e1, e2, rt_bind, rt_pure, Option.bind_some, rt_bound _ h4, rt_bound _ h3]
/-- The quick road leads to the same place. -/
theorem opQ_eq (htb : TbOk P tb) {f : Nat → Value} {o : Oper} {W : Tw} {r : Next × Tw} (h : opQ tb f o W = some r) : opT P sy f o W = some r := by
  obtain ⟨dst, op, type, pos, after, guard⟩ := o
  unfold opQ at h
  cases op <;> dsimp only at h <;> try (cases h)
  case move x =>
    unfold mvQ at h
    split at h
    · rename_i hq
      cases h
      exact opT_pure (fun y hy => by simp only [Op.operands, List.mem_toArray, List.mem_singleton] at hy; rw [hy]; exact qd_ok hq) (fun W => rfl) rfl (.inl rfl)
    · cases h
  case assign x =>
    unfold mvQ at h
    split at h
    · rename_i hq
      cases h
      exact opT_pure (fun y hy => by simp only [Op.operands, List.mem_toArray, List.mem_singleton] at hy; rw [hy]; exact qd_ok hq) (fun W => rfl) rfl (.inl rfl)
    · cases h
  case load t x =>
    unfold ldQ at h
    split at h
    · rename_i hq
      split at h
      · rename_i a hx
        split at h
        · rename_i ti ht
          obtain ⟨v, W1, h1, h2⟩ := bind_some h
          cases h2
          rw [opT_mem (fun y hy => by simp only [Op.operands, List.mem_toArray, List.mem_singleton] at hy; rw [hy]; exact qd_ok hq) (quietT_op rfl) rfl rfl]
          refine rt_v (s := Instr.loadAt t (ev f x)) ?_
          rw [hx]
          unfold Instr.loadAt
          rw [rt_bind, rt_sureAddr, Option.bind_some]
          exact loadQ_eq htb ht (loadR_eq h1)
        · cases h
      · cases h
    · cases h
  case store t x y =>
    unfold stQ at h
    split at h
    · rename_i hq
      simp only [Bool.and_eq_true] at hq
      split at h
      · rename_i a hx
        split at h
        · rename_i ti ht
          rw [fW_eq] at h
          obtain ⟨v, W1, h1, h2⟩ := bind_some h
          cases h2
          rw [opT_mem (fun z hz => by
            simp only [Op.operands, List.mem_toArray, List.mem_cons, List.not_mem_nil, or_false] at hz
            rcases hz with hz | hz <;> rw [hz]
            · exact qd_ok hq.1
            · exact qd_ok hq.2) (quietT_op rfl) rfl rfl]
          refine rt_u (s := Instr.storeAt t (ev f x) (ev f y)) (u := ()) ?_
          rw [hx]
          unfold Instr.storeAt
          rw [rt_bind, rt_sureAddr, Option.bind_some]
          exact storeQ_eq htb ht (storeR_eq h1)
        · cases h
      · cases h
    · cases h
  case fieldAddr s x n =>
    unfold faQ at h
    split at h
    · rename_i hq
      split at h
      · rename_i a sz ag fs z hx ht
        split at h
        · rename_i off sz' ag' hg
          cases h
          obtain ⟨i, d, h1, h2, h3, h4, h5, h6, h7⟩ := mkTI_some (htb.ty s _ ht)
          obtain ⟨l, rfl, hl⟩ := kdI_st h6
          rw [getX_eq] at hg
          obtain ⟨fd, i', d', g1, g2, g3, g4, g5, g6⟩ := (fieldsI_some hl).2 n off _ _ hg
          have g1' : l[n]? = some fd := by rw [← Array.getElem?_toList]; exact g1
          refine opT_pure (fun y hy => by simp only [Op.operands, List.mem_toArray, List.mem_singleton] at hy; rw [hy]; exact qd_ok hq) (fun W => ?_) rfl (.inl ?_)
          · refine rt_v (s := Instr.fieldAt s (ev f x) n) ?_
            rw [hx]
            unfold Instr.fieldAt
            rw [rt_bind, rt_underlying h2, Option.bind_some]
            simp only [g1']
            rw [rt_bind, rt_sureAddr, Option.bind_some]
            unfold fieldPlace
            rw [rt_bind, rt_bind, rt_sizeOf g3, Option.bind_some]
            simp only [g4]
            rw [if_neg (by omega), g2]
            rfl
          · unfold opOk fieldNZ
            simp only [h2, g1', g3, g4]
            simp
        · cases h
      · cases h
    · cases h
  case slice t x lo hi mx =>
    unfold slQ at h
    split at h
    · cases h
    · split at h
      · rename_i hq
        split at h
        · rename_i a len cap sz ag e z l hx ht hlo
          split at h
          · rename_i hh hhi
            split at h
            · rename_i hc
              simp only [Bool.and_eq_true, Nat.ble_eq, Nat.blt_eq] at hc
              cases h
              obtain ⟨i, d, h1, h2, h3, h4, h5, h6, h7⟩ := mkTI_some (htb.ty t _ ht)
              obtain ⟨el, ei, rfl, k1, k2⟩ := kdI_sl h6
              have ops : ∀ y ∈ (Op.slice t x lo hi none).operands, opdOk y = true := by
                intro y hy
                have hy' : y = x ∨ lo = some y ∨ hi = some y := by
                  cases lo <;> cases hi <;> simp [Op.operands] at hy <;> first | (rcases hy with rfl | rfl | rfl <;> simp) | (rcases hy with rfl | rfl <;> simp) | (subst hy; simp)
                rcases hy' with rfl | hy' | hy'
                · exact qd_ok hq
                · rcases bdQ_some hlo with ⟨e1, -⟩ | ⟨y', k, e1, e2, -⟩
                  · rw [e1] at hy'; cases hy'
                  · rw [e1] at hy'; cases hy'; exact qd_ok e2
                · rcases bdQ_some hhi with ⟨e1, -⟩ | ⟨y', k, e1, e2, -⟩
                  · rw [e1] at hy'; cases hy'
                  · rw [e1] at hy'; cases hy'; exact qd_ok e2
              rw [opT_mem ops (quietT_opd (x := x) (by cases lo <;> cases hi <;> simp [Op.operands]) (by rw [hx]; rfl)) rfl (by simp only [opOk, hx, exactS, arrOk, h2, hc.2, decide_true, Bool.and_self]) (by simp only [hasSy, hx, isSy, bdQ_sy hlo, bdQ_sy hhi, Bool.or_self])]
              refine rt_v (s := Instr.sliceAt t (ev f x) (lo.map (ev f)) (hi.map (ev f)) none) ?_
              rw [hx]
              unfold Instr.sliceAt
              rw [rt_bind, rt_underlying h2, Option.bind_some]
              simp only
              unfold Instr.slice
              rw [rt_bind, rt_underlying h2, Option.bind_some]
              simp only
              rw [rt_bind, rt_bounds hlo hhi hc.1.1 hc.1.2, Option.bind_some]
              simp only
              rw [rt_bind, rt_sizeOf k1, Option.bind_some, k2, rt_pure]
              congr 3
              split <;> rfl
            · cases h
          · cases h
        · cases h
      · cases h
  case field s x n =>
    unfold fiQ at h
    split at h
    · rename_i hq
      split at h
      · rename_i cs sz ag fs z hx ht
        obtain ⟨i, d, h1, h2, h3, h4, h5, h6, h7⟩ := mkTI_some (htb.ty s _ ht)
        obtain ⟨l, rfl, hl⟩ := kdI_st h6
        split at h
        · rename_i off sz' hg
          cases h
          rw [getX_eq] at hg
          obtain ⟨fd, i', d', g1, g2, g3, g4, g5, g6⟩ := (fieldsI_some hl).2 n off _ _ hg
          have g1' : l[n]? = some fd := by rw [← Array.getElem?_toList]; exact g1
          refine opT_pure (fun y hy => by simp only [Op.operands, List.mem_toArray, List.mem_singleton] at hy; rw [hy]; exact qd_ok hq) (fun W => ?_) rfl (.inl rfl)
          refine rt_v (s := Instr.field s (ev f x) n) ?_
          rw [hx]
          unfold Instr.field
          rw [rt_bind, rt_underlying h2, Option.bind_some]
          simp only [g1']
          show (runT P (Sem.bind (Pure.pure (⟨cs⟩ : Array Value)) fun cs => part fd.type cs fd.offset) W) = _
          rw [runT_bind, rt_pure, Option.bind_some]
          unfold part
          rw [rt_bind, rt_isAgg g5, g6, Option.bind_some]
          simp only [if_true]
          rw [rt_bind, rt_sizeOf g3, Option.bind_some, g2, g4, rt_pure]
          simp
        · rename_i off sz' hg
          split at h
          · rename_i v hv
            cases h
            rw [getX_eq] at hg hv
            obtain ⟨fd, i', d', g1, g2, g3, g4, g5, g6⟩ := (fieldsI_some hl).2 n off _ _ hg
            have g1' : l[n]? = some fd := by rw [← Array.getElem?_toList]; exact g1
            refine opT_pure (fun y hy => by simp only [Op.operands, List.mem_toArray, List.mem_singleton] at hy; rw [hy]; exact qd_ok hq) (fun W => ?_) rfl (.inl rfl)
            refine rt_v (s := Instr.field s (ev f x) n) ?_
            rw [hx]
            unfold Instr.field
            rw [rt_bind, rt_underlying h2, Option.bind_some]
            simp only [g1']
            show (runT P (Sem.bind (Pure.pure (⟨cs⟩ : Array Value)) fun cs => part fd.type cs fd.offset) W) = _
            rw [runT_bind, rt_pure, Option.bind_some]
            unfold part
            rw [rt_bind, rt_isAgg g5, g6, Option.bind_some]
            have e : (⟨cs⟩ : Array Value)[fd.offset]? = some v := by
              rw [g2, List.getElem?_toArray]
              simpa using hv
            simp only [Bool.false_eq_true, if_false, e]
            rw [rt_pure]
          · cases h
        · cases h
      · cases h
    · cases h
  case indexAddr t x y =>
    unfold iaQ at h
    split at h
    · rename_i hq
      simp only [Bool.and_eq_true] at hq
      have hops : ∀ z ∈ (Op.indexAddr t x y).operands, opdOk z = true := fun z hz => by
        simp only [Op.operands, List.mem_toArray, List.mem_cons, List.not_mem_nil, or_false] at hz
        rcases hz with hz | hz <;> rw [hz]
        · exact qd_ok hq.1
        · exact qd_ok hq.2
      split at h
      · rename_i k i a sz ag n e z hy hx ht
        split at h
        · rename_i hlt
          rw [Nat.blt_eq] at hlt
          cases h
          obtain ⟨inf, d, h1, h2, h3, h4, h5, h6, h7⟩ := mkTI_some (htb.ty t _ ht)
          obtain ⟨et, i', rfl, e1, e2⟩ := kdI_ar h6
          refine opT_pure hops (fun W => ?_) rfl (.inl rfl)
          refine rt_v (s := Instr.indexAt t (ev f x) (ev f y)) ?_
          rw [hx, hy]
          unfold Instr.indexAt
          show runT P (Sem.bind (Pure.pure (k, Int.ofNat i)) _) W = _
          rw [runT_bind, rt_pure, Option.bind_some]
          simp only
          rw [rt_bind, rt_underlying h2, Option.bind_some]
          simp only
          rw [rt_bind, rt_sureAddr, Option.bind_some, rt_bind, rt_pure, Option.bind_some]
          simp only
          rw [rt_bind, rt_underlying h2, Option.bind_some]
          simp only
          rw [if_pos ⟨Int.natCast_nonneg i, by simp; omega⟩, rt_bind, rt_sizeOf e1, Option.bind_some, e2]
          rfl
        · cases h
      · rename_i k i a n c sz ag e z hy hx ht
        split at h
        · rename_i hlt
          rw [Nat.blt_eq] at hlt
          cases h
          obtain ⟨inf, d, h1, h2, h3, h4, h5, h6, h7⟩ := mkTI_some (htb.ty t _ ht)
          obtain ⟨et, i', rfl, e1, e2⟩ := kdI_sl h6
          refine opT_pure hops (fun W => ?_) rfl (.inl rfl)
          refine rt_v (s := Instr.indexAt t (ev f x) (ev f y)) ?_
          rw [hx, hy]
          unfold Instr.indexAt
          show runT P (Sem.bind (Pure.pure (k, Int.ofNat i)) _) W = _
          rw [runT_bind, rt_pure, Option.bind_some]
          simp only
          rw [rt_bind, rt_underlying h2, Option.bind_some]
          simp only
          rw [rt_bind, rt_pure, Option.bind_some]
          simp only
          rw [rt_bind, rt_underlying h2, Option.bind_some]
          simp only
          rw [if_pos ⟨Int.natCast_nonneg i, by simp; omega⟩, rt_bind, rt_sizeOf e1, Option.bind_some, e2]
          rfl
        · cases h
      · cases h
    · cases h
  case build t ps =>
    unfold buQ at h
    split at h
    · rename_i hq
      rw [Bool.and_eq_true] at hq
      obtain ⟨hq, htd⟩ := hq
      have htd' : (ps.all fun p => toldB (ev f p.2)) = true := by
        unfold toldP at htd
        rw [evalP_eq] at htd
        rw [Array.all_eq_true_iff_forall_mem]
        intro p hp
        rw [List.all_eq_true] at htd
        exact htd (p.1, ev f p.2) (List.mem_map.2 ⟨p, by simpa using hp, rfl⟩)
      have hops : ∀ z ∈ (Op.build t ps).operands, opdOk z = true := fun z hz => by
        simp only [Op.operands, List.mem_toArray, List.mem_map] at hz
        obtain ⟨p, hp, rfl⟩ := hz
        exact qdP_all hq p hp
      have hparts : (ps.map fun (i, x) => (i, ev f x)).toList = evalP f ps.toList := by
        rw [evalP_eq]; simp
      split at h
      · rename_i sz ag fs z ht
        obtain ⟨i, d, h1, h2, h3, h4, h5, h6, h7⟩ := mkTI_some (htb.ty t _ ht)
        obtain ⟨l, rfl, hl⟩ := kdI_st h6
        split at h
        · rename_i cells hf
          cases h
          refine opT_pure hops (fun W => ?_) rfl (.inl (by show (zeroOk P t && _) = true; rw [h7, htd']; rfl))
          refine rt_v (s := Instr.build t (ps.map fun (i, x) => (i, ev f x))) ?_
          unfold Instr.build
          rw [rt_bind, rt_zero h1 h3, Option.bind_some]
          simp only
          rw [rt_bind, rt_underlying h2, Option.bind_some]
          simp only
          have hm : ∀ (l : List Field) (fs : List (Nat × Nat × Bool)) (W : Tw), fieldsI P l = some fs → runT P (l.mapM fun fd : Field => (do Pure.pure (fd.offset, ← Go.sizeOf fd.type) : Sem (Nat × Nat))) W = some (fs.map fun p => (p.1, p.2.1), W) := by
            intro l
            induction l with
            | nil => intro fs W h; simp only [fieldsI, Option.some.injEq] at h; subst h; rfl
            | cons fd l ih =>
              intro fs W h
              unfold fieldsI at h
              split at h
              · rename_i i' d' l' k1 k2 k3
                cases h
                simp only [List.mapM_cons]
                rw [rt_bind, rt_bind, rt_sizeOf k1, Option.bind_some, rt_pure, Option.bind_some, rt_bind, ih l' W k3, Option.bind_some]
                rfl
              · cases h
          rw [rt_bind, Array.mapM_eq_mapM_toList, map_eq_pure_bind, rt_bind, hm _ _ _ hl, Option.bind_some, rt_pure, Option.bind_some]
          simp only
          have hplace : (fun i => (List.toArray (List.map (fun p : Nat × Nat × Bool => (p.1, p.2.1)) fs))[i]?) = fun i => (getX fs i).map fun p => (p.1, p.2.1) := by
            funext i
            rw [getX_eq]
            simp
          rw [hplace, hparts, hf]
          rfl
        · cases h
      · rename_i sz ag n e z ht
        obtain ⟨i, d, h1, h2, h3, h4, h5, h6, h7⟩ := mkTI_some (htb.ty t _ ht)
        obtain ⟨et, i', rfl, e1, e2⟩ := kdI_ar h6
        split at h
        · rename_i cells hf
          cases h
          refine opT_pure hops (fun W => ?_) rfl (.inl (by show (zeroOk P t && _) = true; rw [h7, htd']; rfl))
          refine rt_v (s := Instr.build t (ps.map fun (i, x) => (i, ev f x))) ?_
          unfold Instr.build
          rw [rt_bind, rt_zero h1 h3, Option.bind_some]
          simp only
          rw [rt_bind, rt_underlying h2, Option.bind_some]
          simp only
          rw [rt_bind, rt_sizeOf e1, Option.bind_some, e2]
          simp only
          rw [hparts, hf]
          rfl
        · cases h
      · cases h
    · cases h
  case alloc t =>
    unfold alQ at h
    split at h
    · rename_i ti ht
      rw [fZ_eq, Tw.layK_eq] at h
      obtain ⟨n, W1, k1, k2⟩ := bind_some h
      cases k2
      obtain ⟨i, d, h1, h2, h3, h4, h5, h6, h7⟩ := mkTI_some (htb.ty t _ ht)
      rw [opT_mem (o := ⟨dst, .alloc t, type, pos, after, guard⟩) (fun y hy => by simp [Op.operands] at hy) (quietT_op rfl) rfl h7]
      refine rt_v (s := Instr.alloc t true (.tuple #[])) ?_
      unfold Instr.alloc
      rw [rt_bind, rt_zero h1 h3, Option.bind_some]
      simp only
      show runT P (Sem.bind (newVar t ti.z) _) W = _
      rw [runT_bind]
      have : runT P (newVar t ti.z) W = some (⟨n, 0, none⟩, W1) := by
        show Option.bind (newT (.cells ti.z.cells t (0, 0)) W) _ = _
        have hz : oneC ti.z.cells.toList = true := by
          have h7' := h7
          unfold zeroOk at h7'
          simp only [h1, h3, Bool.and_eq_true] at h7'
          exact plain_cells h7'.1
        simp only [newT, beq_self_eq_true, Bool.and_self, hz, if_true, k1]
        rfl
      rw [this]
      rfl
    · cases h
  case box t x =>
    unfold boQ at h
    split at h
    · rename_i hq
      rw [fW_eq, fZ_eq] at h
      split at h
      case h_2 => cases h
      rename_i hz
      rw [Tw.layK_eq] at h
      obtain ⟨n, W1, k1, k2⟩ := bind_some h
      cases k2
      rw [opT_mem (fun y hy => by simp only [Op.operands, List.mem_toArray, List.mem_singleton] at hy; rw [hy]; exact qd_ok hq) (quietT_op rfl) rfl rfl]
      refine rt_v (s := Instr.box t (ev f x)) ?_
      unfold Instr.box
      show runT P (Sem.bind (newVar t (ev f x)) _) W = _
      rw [runT_bind]
      have : runT P (newVar t (ev f x)) W = some (⟨n, 0, none⟩, W1) := by
        show Option.bind (newT (.cells (ev f x).cells t (0, 0)) W) _ = _
        simp only [newT, beq_self_eq_true, Bool.and_self, hz, if_true, k1]
        rfl
      rw [this]
      rfl
    · cases h
  case pick c x y =>
    unfold piQ at h
    split at h
    · rename_i hq
      simp only [Bool.and_eq_true] at hq
      have hops : ∀ z ∈ (Op.pick c x y).operands, opdOk z = true := fun z hz => by
        simp only [Op.operands, List.mem_toArray, List.mem_cons, List.not_mem_nil, or_false] at hz
        rcases hz with hz | hz | hz <;> rw [hz]
        · exact qd_ok hq.1.1
        · exact qd_ok hq.1.2
        · exact qd_ok hq.2
      split at h
      · rename_i hc
        cases h
        refine opT_pure hops (fun W => ?_) rfl (.inl rfl)
        show runT P (Sem.bind (asBool (ev f c)) _) W = _
        rw [hc]
        rfl
      · rename_i hc
        cases h
        refine opT_pure hops (fun W => ?_) rfl (.inl rfl)
        show runT P (Sem.bind (asBool (ev f c)) _) W = _
        rw [hc]
        rfl
      · cases h
    · cases h
  case nilCheck x =>
    unfold ncQ at h
    split at h
    · rename_i hq
      split at h
      · rename_i a hx
        cases h
        refine opT_pure (fun y hy => by simp only [Op.operands, List.mem_toArray, List.mem_singleton] at hy; rw [hy]; exact qd_ok hq) (fun W => ?_) rfl (.inl ?_)
        · simp only [execOp, hx]
          rfl
        · simp only [opOk, hx]
      · cases h
    · cases h
  case binOp b t x y z =>
    unfold biQ at h
    split at h
    · rename_i hq
      simp only [Bool.and_eq_true] at hq
      split at h
      · rename_i v hb
        cases h
        unfold binQ at hb
        split at hb
        · rename_i j m k n hx hy
          split at hb
          · rename_i u hu
            split at hb
            · rename_i hs
              cases hb
              have hr : ∀ W, runT P (execOp (ev f) ⟨dst, .binOp b t x y z, type, pos, after, guard⟩) W = some (.value v, W) := by
                intro W
                refine rt_v (s := do eqGuard b t x y (ev f x) (ev f y); binOp b t (ev f x) (ev f y)) ?_
                rw [hx, hy, rt_bind]
                have : runT P (eqGuard b t x y (.int j m) (.int k n)) W = some ((), W) := by
                  unfold eqGuard
                  cases b <;> rfl
                rw [this, Option.bind_some, hu]
                rfl
              refine opT_pure (fun w hw => by
                simp only [Op.operands, List.mem_toArray, List.mem_cons, List.not_mem_nil, or_false] at hw
                rcases hw with hw | hw <;> rw [hw]
                · exact qd_ok hq.1
                · exact qd_ok hq.2) hr rfl (.inr ?_)
              unfold quietT
              have hpl : (Op.binOp b t x y z).operands.all (fun w => plainD depth (ev f w)) = true := by
                rw [Array.all_eq_true_iff_forall_mem]
                intro w hw
                simp only [Op.operands, List.mem_toArray, List.mem_cons, List.not_mem_nil, or_false] at hw
                rcases hw with hw | hw <;> rw [hw]
                · rw [hx]; rfl
                · rw [hy]; rfl
              simp only [quietOp, hpl, Bool.and_self, if_true, quietB]
              rw [hr]
              simp only
              have : plainD depth v = true := by
                cases v <;> first | rfl | cases hs
              rw [if_pos this]
              simp
            · cases hb
          · cases hb
        · cases hb
      · cases h
    · cases h
  case convert s d x =>
    unfold cvQ at h
    split at h
    · rename_i hq
      split at h
      · rename_i q n ti sz ag k z hx hs hd
        cases h
        obtain ⟨i, ds, h1, h2, h3, h4, h5, h6, h7⟩ := mkTI_some (htb.ty s _ hs)
        obtain ⟨i', dd, g1, g2, g3, g4, g5, g6, g7⟩ := mkTI_some (htb.ty d _ hd)
        have hdd := kdI_int g6
        subst hdd
        have hr : ∀ W, runT P (execOp (ev f) ⟨dst, .convert s d x, type, pos, after, guard⟩) W = some (.value (.int k (k.wrap n)), W) := by
          intro W
          refine rt_v (s := convert s d (ev f x)) ?_
          rw [hx]
          unfold convert
          rw [rt_bind, rt_underlying h2, Option.bind_some]
          simp only
          rw [rt_bind, rt_underlying g2, Option.bind_some]
          rfl
        refine opT_pure (fun y hy => by simp only [Op.operands, List.mem_toArray, List.mem_singleton] at hy; rw [hy]; exact qd_ok hq) hr rfl (.inr ?_)
        unfold quietT
        have hpl : (Op.convert s d x).operands.all (fun w => plainD depth (ev f w)) = true := by
          rw [Array.all_eq_true_iff_forall_mem]
          intro w hw
          simp only [Op.operands, List.mem_toArray, List.mem_singleton] at hw
          rw [hw, hx]; rfl
        simp only [quietOp, hpl, Bool.and_self, if_true, quietB]
        rw [hr]
        simp only
        rw [if_pos (by rfl)]
        simp
      · cases h
    · cases h
  case extract x i =>
    unfold exQ at h
    split at h
    · rename_i hq
      split at h
      · rename_i vs hx
        split at h
        · rename_i v hv
          cases h
          rw [getX_eq, Array.getElem?_toList] at hv
          refine opT_pure (fun y hy => by simp only [Op.operands, List.mem_toArray, List.mem_singleton] at hy; rw [hy]; exact qd_ok hq) (fun W => ?_) rfl (.inl rfl)
          refine rt_v (s := Instr.extract (ev f x) i) ?_
          rw [hx]
          unfold Instr.extract
          simp only [hv]
          rfl
        · cases h
      · cases h
    · cases h
  case call c =>
    obtain ⟨cl, args, ats⟩ := c
    cases cl <;> dsimp only at h <;> try (cases h)
    case value x =>
      unfold clQQ at h
      split at h
      · rename_i hq
        simp only [Bool.and_eq_true] at hq
        split at h
        · rename_i g xs ys hx
          split at h
          · rename_i fn hg
            rw [fLi_eq (fun v k => fW_eq)] at h
            cases h
            obtain ⟨k1, k2⟩ := htb.fn g fn hg
            unfold okF at k2
            simp only [Bool.and_eq_true, Bool.not_eq_true'] at k2
            have hcall : callable P g = true := by
              unfold callable
              rw [k1]
              simp only [k2.1, k2.2, Bool.not_false, Bool.and_self]
            rw [opT_mem (fun y hy => by
              simp only [Op.operands, Call.operands, List.mem_toArray, Array.mem_append, List.mem_singleton] at hy
              rcases hy with hy | hy
              · rw [hy]; exact qd_ok hq.1
              · exact qdL_all hq.2 y (by simpa using hy)) (quietT_op rfl) rfl (by simp only [opOk, hx, calleeOk]; exact hcall)]
            have hrt : runT P (execOp (ev f) ⟨dst, .call ⟨.value x, args, ats⟩, type, pos, after, guard⟩) W = runT P (callFunc g ((xs ++ args.map (ev f)) ++ ys)) W := by
              show runT P (do let d ← resolve (ev f) ⟨.value x, args, ats⟩ type; invoke d.target d.args) W = _
              unfold resolve
              simp only [hx]
              rfl
            rw [hrt]
            unfold callFunc
            rw [rt_bind, rt_program, Option.bind_some]
            simp only [k1]
            rw [if_neg (by rw [k2.2]; exact Bool.false_ne_true), if_neg (by
              have := k2.1
              cases hb : fn.body <;> simp_all)]
            rw [rt_pure]
            have : (xs ++ args.map (ev f)) ++ ys = ⟨xs.toList ++ (evalL f args.toList ++ ys.toList)⟩ := by
              apply Array.ext'
              simp [evalL_eq]
            rw [this]
          · cases h
        · cases h
      · cases h
    case builtin b =>
      cases b <;> dsimp only at h <;> try (cases h)
      case append =>
        unfold apQ at h
        obtain ⟨l⟩ := args
        split at h
        · rename_i x y hl
          have hl' : l = [x, y] := hl
          subst hl'
          split at h
          · rename_i hq
            simp only [Bool.and_eq_true] at hq
            obtain ⟨v, W1, h1, h2⟩ := bind_some h
            cases h2
            obtain ⟨k1, k2⟩ := appR_eq htb h1
            have hq0 : quietT P f ⟨dst, .call ⟨.builtin .append, ⟨[x, y]⟩, ats⟩, type, pos, after, guard⟩ = none := by
              rcases k2 with k2 | k2
              · exact quietT_opd (x := x) (by simp [Op.operands, Call.operands]) (someSl_plain k2 _)
              · exact quietT_opd (x := y) (by simp [Op.operands, Call.operands]) (someSl_plain k2 _)
            unfold opT
            rw [if_pos (by
              rw [Array.all_eq_true_iff_forall_mem]
              intro z hz
              simp only [Op.operands, Call.operands, List.mem_toArray, Array.mem_append, List.mem_cons, List.not_mem_nil, false_or, or_false] at hz
              rcases hz with hz | hz <;> rw [hz]
              · exact qd_ok hq.1
              · exact qd_ok hq.2), hq0]
            have hns : hasSy (ev f) (.call ⟨.builtin .append, ⟨[x, y]⟩, ats⟩) = false := appT_sy k1
            rw [hns]
            simp only
            have e1 : exT P f ⟨dst, .call ⟨.builtin .append, ⟨[x, y]⟩, ats⟩, type, pos, after, guard⟩ = none := by
              unfold exT
              simp [exOp]
            have e2 : spT P (ev f) ⟨dst, .call ⟨.builtin .append, ⟨[x, y]⟩, ats⟩, type, pos, after, guard⟩ W = some (v, W1) := k1
            simp only [opOk, Bool.and_false, Bool.false_eq_true, if_false, e1, e2, Option.bind_some]
          · cases h
        · cases h
      unfold leQ at h
      split at h
      · rename_i x hl
        split at h
        · rename_i hq
          split at h
          · rename_i v hv
            cases h
            obtain ⟨l⟩ := args
            have hl' : l = [x] := hl
            subst hl'
            unfold lenQ at hv
            split at hv
            · rename_i t hts
              split at hv
              · rename_i a n c sz ag e z hx ht
                cases hv
                obtain ⟨i, d, h1, h2, h3, h4, h5, h6, h7⟩ := mkTI_some (htb.ty t _ ht)
                obtain ⟨et, i', rfl, e1, e2⟩ := kdI_sl h6
                have hats : ats[0]? = some t := by
                  rw [← Array.getElem?_toList, hts]; rfl
                refine opT_pure (fun y hy => by
                  simp only [Op.operands, Call.operands, List.mem_toArray, Array.mem_append, List.mem_singleton, List.not_mem_nil, false_or] at hy
                  rw [hy]; exact qd_ok hq) (fun W => ?_) rfl (.inl (by simp [opOk, hx, noSyV]))
                have e : Array.map (ev f) #[x] = #[ev f x] := by simp
                show runT P (do let d ← resolve (ev f) ⟨.builtin .len, #[x], ats⟩ type; invoke d.target d.args) W = _
                unfold resolve
                simp only [e]
                refine rt_v (s := Builtin.len_ ats type #[ev f x]) ?_
                unfold Builtin.len_
                simp only [hats, hx]
                show runT P (do let d ← Go.underlying t; _) W = _
                rw [rt_bind, rt_underlying h2, Option.bind_some]
                rfl
              · cases hv
            · cases hv
          · cases h
        · cases h
      · cases h
end
end Mo

namespace Mo
open Go

/-! ## The evaluator, quickly -/
noncomputable def opQT (P : Program) (sy : SyT) (tb : Tb) (f : Nat → Value) (o : Oper) (W : Tw) : Option (Next × Tw) := match opQ tb f o W with
  | some r => some r
  | none => match opT P sy f o W with
    | some (.value v, W') => fV 7 v fun v => some (.value v, W')
    | r => r
theorem opQT_eq {P : Program} {sy : SyT} {tb : Tb} (htb : TbOk P tb) : opQT P sy tb = opT P sy := by
  funext f o W
  unfold opQT
  cases h : opQ tb f o W with
  | none =>
    simp only [fV_eq]
    split
    · rename_i h2; rw [h2]
    · rfl
  | some r => exact (opQ_eq htb h).symm
noncomputable def resQL (tb : Tb) (sl : Nat → Value) : List ResultVar → Tw → Option (List Value × Tw)
  | [], W => some ([], W)
  | .tmp t :: r, W => (resQL tb sl r W).bind fun p => some (sl t :: p.1, p.2)
  | .cell a t :: r, W => match sl a with
    | .pointer (some ad) => match tb.ty.get t with
      | some ti => (loadR ti.ag ti.sz ad W).bind fun p => (resQL tb sl r p.2).bind fun q => some (p.1 :: q.1, q.2)
      | none => none
    | _ => none
noncomputable def resQ (P : Program) (tb : Tb) (fn : Func) (sl : Nat → Value) (W : Tw) : Option (Value × Tw) := match resQL tb sl fn.results.toList W with
  | some ([v], W') => some (v, W')
  | some (vs, W') => some (.tuple ⟨vs⟩, W')
  | none => runT P (resT fn sl) W
noncomputable def resF (sl : Nat → Value) : ResultVar → Sem Value
  | .tmp t => pure (sl t)
  | .cell a t => do loadVar t (← asAddr (sl a))
theorem resT_eq (fn : Func) (sl : Nat → Value) : resT fn sl = (do
    let vs ← fn.results.mapM (resF sl)
    pure (if h : vs.size = 1 then vs[0] else .tuple vs)) := by
  unfold resT
  congr 1
theorem resQL_eq {P : Program} {tb : Tb} (htb : TbOk P tb) {sl : Nat → Value} : ∀ (l : List ResultVar) (W : Tw) (r : List Value × Tw), resQL tb sl l W = some r →
    runT P (l.mapM (resF sl)) W = some r
  | [], W, r, h => by
    simp only [resQL] at h
    simp only [List.mapM_nil, rt_pure]
    exact h
  | .tmp t :: l, W, r, h => by
    unfold resQL at h
    obtain ⟨vs, W1, h1, h2⟩ := bind_some h
    cases h2
    simp only [List.mapM_cons]
    show runT P (Sem.bind (Pure.pure (sl t)) _) W = _
    rw [runT_bind, rt_pure, Option.bind_some, rt_bind, resQL_eq htb l W _ h1]
    rfl
  | .cell a t :: l, W, r, h => by
    unfold resQL at h
    split at h
    · rename_i ad ha
      split at h
      · rename_i ti ht
        obtain ⟨v, W1, h1, h2⟩ := bind_some h
        obtain ⟨vs, W2, h3, h4⟩ := bind_some h2
        cases h4
        simp only [List.mapM_cons]
        have e : runT P (resF sl (.cell a t)) W = some (v, W1) := by
          show runT P (do loadVar t (← asAddr (sl a)) : Sem Value) W = _
          rw [ha, rt_bind]
          show (runT P (Pure.pure ad) W).bind _ = _
          rw [rt_pure, Option.bind_some]
          exact loadQ_eq htb ht (loadR_eq h1)
        rw [rt_bind, e, Option.bind_some, rt_bind, resQL_eq htb l W1 _ h3]
        rfl
      · cases h
    · cases h
theorem resQ_eq {P : Program} {tb : Tb} (htb : TbOk P tb) {fn : Func} {sl : Nat → Value} {W : Tw} {r : Value × Tw} (h : resQ P tb fn sl W = some r) : runT P (resT fn sl) W = some r := by
  have key : ∀ vs W', resQL tb sl fn.results.toList W = some (vs, W') → runT P (resT fn sl) W = some ((if h : vs.length = 1 then vs[0] else .tuple ⟨vs⟩), W') := by
    intro vs W' hq
    rw [resT_eq, rt_bind, Array.mapM_eq_mapM_toList, map_eq_pure_bind, rt_bind, resQL_eq htb _ _ _ hq, Option.bind_some, rt_pure, Option.bind_some, rt_pure]
    simp only [List.size_toArray, List.getElem_toArray]
  unfold resQ at h
  split at h
  · rename_i v W' hq
    rw [key _ _ hq]
    cases h
    rfl
  · rename_i vs W' hn hq
    rw [key _ _ hq]
    cases h
    congr 1
    congr 1
    rw [dif_neg]
    intro h1
    obtain ⟨v, rfl⟩ := List.length_eq_one_iff.1 h1
    exact hn v rfl
  · exact h
noncomputable def clQ (tb : Tb) (f : FuncId) : Bool := (tb.fn.get f).isSome
noncomputable def callQ (P : Program) (sy : SyT) (tb : Tb) (L : Nat) (ih : CallT × RndT) : CallT := fun f args W => match tb.fn.get f with
    | some fn => match fn.body with
      | some c => if Nat.ble args.size fn.ntmps && Nat.blt fn.ntmps 1073741824 then
          (evC P (opQT P sy tb) ih.1 ih.2 (clQ tb) none (sy.lp f) fn.ntmps L c (putL args.toList 0 .lf, []) W).bind fun p => match p with
            | ((.normal, (sl, ms)), W') => (takeA P ms W').bind fun q => resQ P tb fn (getS sl) q.2
            | ((.ret, (sl, ms)), W') => (takeA P ms W').bind fun q => resQ P tb fn (getS sl) q.2
            | _ => none
        else none
      | none => none
    | none => none
noncomputable def evFRq (P : Program) (sy : SyT) (tb : Tb) (L : Nat) (n : Nat) : CallT × RndT :=
  Nat.rec (motive := fun _ => CallT × RndT) (fun _ _ _ => none, fun _ _ _ _ _ => none) (fun _ ih => (knT sy.kn (callQ P sy tb L ih), evR P (opQT P sy tb) ih.1 ih.2 (clQ tb) L)) n
noncomputable def evFq (P : Program) (sy : SyT) (tb : Tb) (L n : Nat) : CallT := (evFRq P sy tb L n).1

/-! ### It leads to the same place -/
noncomputable def Le {α : Type} (F G : Tw → Option (α × Tw)) : Prop := ∀ W r, F W = some r → G W = some r
noncomputable def CallLe (c d : CallT) : Prop := ∀ f args, Le (c f args) (d f args)
noncomputable def RndLe (c d : RndT) : Prop := ∀ l ts as bd, Le (c l ts as bd) (d l ts as bd)
section
variable {P : Program} {op : OpF} {c d : CallT} {e f : RndT}
theorem opV_le (h : CallLe c d) (h' : RndLe e f) (ops : Array Oper) (o : Oper) (g : Nat → Value) : Le (opV op c e ops o g) (opV op d f ops o g) := by
  intro W r hr
  unfold opV at hr ⊢
  obtain ⟨b, W0, h0, hr⟩ := bind_some hr
  rw [h0, Option.bind_some]
  cases b with
  | false => exact hr
  | true =>
    obtain ⟨n, W1, h1, h2⟩ := bind_some hr
    simp only
    rw [h1, Option.bind_some]
    unfold finT at h2 ⊢
    split at h2
    · exact h2
    · exact h2
    · exact h _ _ _ _ h2
    · exact h' _ _ _ _ _ _ h2
    · cases h2
theorem subT_le {α : Type} {F G : Tw → Option (α × Tw)} (h : Le F G) : Le (subT F) (subT G) := by
  intro W r hr
  rw [subT_eq] at hr ⊢
  cases hf : F { W with rd := [], wr := [] } with
  | none => rw [hf] at hr; cases hr
  | some p => rw [hf] at hr; rw [h _ _ hf]; exact hr
theorem evL_le (h : CallLe c d) (h' : RndLe e f) (N : Nat) (ops : Array Oper) : ∀ (l : List Oper) (sl : Tr Value), Le (evL op c e N ops l sl) (evL op d f N ops l sl)
  | [], sl => fun W r hr => hr
  | o :: l, sl => fun W r hr => by
    simp only [evL] at hr ⊢
    obtain ⟨v, W1, h1, h2⟩ := bind_some hr
    rw [opV_le h h' ops o _ _ _ h1, Option.bind_some]
    simp only [forV_eq] at h2 ⊢
    cases hp : putS N o.dst v sl with
    | none => rw [hp] at h2; cases h2
    | some sl' => rw [hp] at h2; exact evL_le h h' N ops l sl' _ _ h2
theorem evD_le (h : CallLe c d) (h' : RndLe e f) (N : Nat) (ops : Array Oper) : ∀ (l : List Oper) (sl : Tr Value), Le (evD op c e N ops l sl) (evD op d f N ops l sl)
  | [], sl => fun W r hr => hr
  | o :: l, sl => fun W r hr => by
    simp only [evD] at hr ⊢
    obtain ⟨⟨v, lg⟩, W1, h1, h2⟩ := bind_some hr
    rw [subT_le (opV_le h h' ops o _) _ _ h1, Option.bind_some]
    simp only [forV_eq] at h2 ⊢
    cases hp : putS N o.dst v sl with
    | none => rw [hp] at h2; cases h2
    | some sl' =>
      rw [hp] at h2
      obtain ⟨q, W2, h3, h4⟩ := bind_some h2
      simp only
      rw [evD_le h h' N ops l sl' _ _ h3, Option.bind_some]
      exact h4
theorem evC_le (h : CallLe c d) (h' : RndLe e f) {cl cl' : FuncId → Bool} (hcl : ∀ g, cl g = true → cl' g = true) (ro : Option Nat) (lp : Nat → Option LoopC) (N : Nat) : ∀ (n : Nat) (x : Code) (s : St), Le (evC P op c e cl ro lp N n x s) (evC P op d f cl' ro lp N n x s) := by
  intro n
  induction n with
  | zero => intro x s W r hr; cases hr
  | succ n ih =>
    intro x s W r hr
    cases x with
    | seq a b =>
      simp only [evC] at hr ⊢
      obtain ⟨⟨e, s⟩, W1, h1, h2⟩ := bind_some hr
      rw [ih a _ _ _ h1, Option.bind_some]
      cases e with
      | normal => exact ih b s _ _ h2
      | exit i => exact h2
      | ret => exact h2
    | cond y a b =>
      simp only [evC] at hr ⊢
      obtain ⟨q, W1, h1, h2⟩ := bind_some hr
      rw [h1, Option.bind_some]
      cases q <;> exact ih _ _ _ _ h2
    | block id b =>
      simp only [evC] at hr ⊢
      obtain ⟨⟨e, s⟩, W1, h1, h2⟩ := bind_some hr
      rw [ih b _ _ _ h1, Option.bind_some]
      exact h2
    | loop b =>
      simp only [evC] at hr ⊢
      cases hb : lpOf lp b with
      | some c => rw [hb] at hr; exact hr
      | none =>
        rw [hb] at hr
        simp only at hr ⊢
        obtain ⟨⟨e, s⟩, W1, h1, h2⟩ := bind_some hr
        rw [ih b _ _ _ h1, Option.bind_some]
        cases e with
        | normal => exact ih _ s _ _ h2
        | exit i => exact h2
        | ret => exact h2
    | region id ops dr =>
      cases dr with
      | false =>
        simp only [evC] at hr ⊢
        obtain ⟨s, W1, h1, h2⟩ := bind_some hr
        rw [evL_le h h' N ops _ _ _ _ h1]
        exact h2
      | true =>
        simp only [evC] at hr ⊢
        split at hr
        · rename_i hb
          obtain ⟨s, W1, h1, h2⟩ := bind_some hr
          rw [if_pos hb, evD_le h h' N ops _ _ _ _ h1]
          exact h2
        · cases hr
    | rangeFunc g ps as bd =>
      simp only [evC] at hr ⊢
      split at hr
      · rename_i gf xs ys hg
        split at hr
        · rename_i hc
          rw [Bool.and_eq_true] at hc
          rw [if_pos (by rw [Bool.and_eq_true]; exact ⟨hcl _ hc.1, hc.2⟩)]
          obtain ⟨⟨l, mk⟩, W1, h1, h2⟩ := bind_some hr
          rw [h1, Option.bind_some]
          simp only at h2 ⊢
          split at h2
          · obtain ⟨v, W2, h3, h4⟩ := bind_some h2
            rw [h _ _ _ _ h3, Option.bind_some]
            exact h4
          · cases h2
        · cases hr
      · cases hr
    | _ => exact hr
theorem evR0_le (h : CallLe c d) (h' : RndLe e f) {cl cl' : FuncId → Bool} (hcl : ∀ g, cl g = true → cl' g = true) (L : Nat) : RndLe (evR0 P op c e cl L) (evR0 P op d f cl' L) := by
  intro l ts as bd W r hr
  unfold evR0 at hr ⊢
  split at hr
  · rename_i hs
    rw [if_pos hs]
    obtain ⟨⟨x1, s1⟩, W1, h1, h2⟩ := bind_some hr
    rw [evC_le h h' hcl _ _ _ L as _ _ _ h1, Option.bind_some]
    simp only at h2 ⊢
    split at h2
    · obtain ⟨u, W2, h3, h4⟩ := bind_some h2
      rw [h3, Option.bind_some]
      obtain ⟨⟨x2, s2⟩, W3, h5, h6⟩ := bind_some h4
      rw [evC_le h h' hcl _ _ _ L bd _ _ _ h5, Option.bind_some]
      exact h6
    · cases h2
  · cases hr
theorem tidyT_le {α : Type} {F G : Tw → Option (α × Tw)} (h : Le F G) : Le (tidyT F) (tidyT G) := by
  intro W r hr
  rw [tidyT_eq] at hr ⊢
  cases hf : F { W with rd := [] } with
  | none => rw [hf] at hr; cases hr
  | some p =>
    rw [hf] at hr
    rw [h _ _ hf]
    exact hr
theorem evR_le (h : CallLe c d) (h' : RndLe e f) {cl cl' : FuncId → Bool} (hcl : ∀ g, cl g = true → cl' g = true) (L : Nat) : RndLe (evR P op c e cl L) (evR P op d f cl' L) :=
  fun l ts as bd => tidyT_le (evR0_le h h' hcl L l ts as bd)
end
theorem clQ_ok {P : Program} {tb : Tb} (htb : TbOk P tb) (f : FuncId) (h : clQ tb f = true) : callable P f = true := by
  unfold clQ at h
  cases hf : tb.fn.get f with
  | none => rw [hf] at h; cases h
  | some fn =>
    obtain ⟨h1, h2⟩ := htb.fn f fn hf
    unfold callable
    rw [h1]
    unfold okF at h2
    exact h2
theorem evFRq_le {P : Program} {sy : SyT} {tb : Tb} (htb : TbOk P tb) (L : Nat) : ∀ n, CallLe (evFRq P sy tb L n).1 (evFR P sy L n).1 ∧ RndLe (evFRq P sy tb L n).2 (evFR P sy L n).2 := by
  intro n
  induction n with
  | zero => exact ⟨fun f args W r hr => (by cases hr), fun l ts as bd W r hr => (by cases hr)⟩
  | succ n ih =>
    refine ⟨?_, ?_⟩
    · intro f args W r hr
      have hr0 : knT sy.kn (callQ P sy tb L (evFRq P sy tb L n)) f args W = some r := hr
      clear hr
      show knT sy.kn (callB P sy L (evFR P sy L n).1 (evFR P sy L n).2) f args W = some r
      have key : ∀ args, callQ P sy tb L (evFRq P sy tb L n) f args W = some r → callB P sy L (evFR P sy L n).1 (evFR P sy L n).2 f args W = some r := by
        intro args hr'
        unfold callB
        unfold callQ at hr'
        split at hr'
        · rename_i fn hf
          split at hr'
          · rename_i c hb
            split at hr'
            · rename_i hc
              obtain ⟨h1, h2⟩ := htb.fn f fn hf
              rw [opQT_eq htb] at hr'
              obtain ⟨⟨e, s⟩, W1, k1, k2⟩ := bind_some hr'
              simp only [h1, hb]
              rw [if_pos hc, evC_le ih.1 ih.2 (clQ_ok htb) none (sy.lp f) fn.ntmps L c _ _ _ k1, Option.bind_some]
              obtain ⟨sl, ms⟩ := s
              cases e with
              | normal =>
                simp only at k2 ⊢
                obtain ⟨u, W2, m1, m2⟩ := bind_some k2
                rw [m1, Option.bind_some]
                exact resQ_eq htb m2
              | ret =>
                simp only at k2 ⊢
                obtain ⟨u, W2, m1, m2⟩ := bind_some k2
                rw [m1, Option.bind_some]
                exact resQ_eq htb m2
              | exit i => cases k2
            · cases hr'
          · cases hr'
        · cases hr'
      unfold knT at hr0 ⊢
      split at hr0
      · exact hr0
      · exact key _ hr0
    · have := evR_le (P := P) (op := opT P sy) ih.1 ih.2 (clQ_ok htb) L
      show RndLe (evR P (opQT P sy tb) (evFRq P sy tb L n).1 (evFRq P sy tb L n).2 (clQ tb) L) _
      rw [opQT_eq htb]
      exact this
theorem evFq_sound {P : Program} {sy : SyT} {w0 : Bs} (hp : POk P w0 sy) {tb : Tb} (htb : TbOk P tb) (L n : Nat) : CallS P w0 (evFq P sy tb L n) :=
  fun ρ W w f args args' r W' hW hA h => evF_sound hp L n ρ W w f args args' r W' hW hA ((evFRq_le htb L n).1 f args W _ h)

/-! ### Tables, checked once -/
noncomputable def Tr.pairs {α : Type} : Tr α → Nat → Nat → List (Nat × α)
  | .lf, _, _ => []
  | .nd v l r, a, b => (match v with
    | some x => [(a, x)]
    | none => []) ++ (Tr.pairs l (a + b) (2 * b) ++ Tr.pairs r (a + 2 * b) (2 * b))
theorem Tr.mem_pairs {α : Type} : ∀ (t : Tr α) (n : Nat) (v : α) (a b : Nat), t.get n = some v → (a + b * n, v) ∈ Tr.pairs t a b
  | .lf, n, v, a, b, h => by cases h
  | .nd x l r, n, v, a, b, h => by
    unfold Tr.pairs
    cases n with
    | zero =>
      simp only [Tr.get_zero, Tr.get_succ] at h
      rw [h]
      simp
    | succ m =>
      simp only [Tr.get_zero, Tr.get_succ] at h
      rw [List.mem_append, List.mem_append]
      right
      split at h
      · rename_i h0
        left
        have := Tr.mem_pairs l (m / 2) v (a + b) (2 * b) h
        have e : a + b + 2 * b * (m / 2) = a + b * (m + 1) := by
          have : m = 2 * (m / 2) := by omega
          rw [Nat.mul_add, Nat.mul_one]
          conv => rhs; rw [this]
          rw [show b * (2 * (m / 2)) = 2 * b * (m / 2) by rw [Nat.mul_comm 2 b, Nat.mul_assoc]]
          omega
        rw [e] at this
        exact this
      · rename_i h0
        right
        have := Tr.mem_pairs r (m / 2) v (a + 2 * b) (2 * b) h
        have e : a + 2 * b + 2 * b * (m / 2) = a + b * (m + 1) := by
          have : m = 2 * (m / 2) + 1 := by omega
          rw [Nat.mul_add, Nat.mul_one]
          conv => rhs; rw [this]
          rw [Nat.mul_add, Nat.mul_one, show b * (2 * (m / 2)) = 2 * b * (m / 2) by rw [Nat.mul_comm 2 b, Nat.mul_assoc]]
          omega
        rw [e] at this
        exact this
theorem Tr.ok {α : Type} {t : Tr α} {f : Nat → Option α} (h : (Tr.pairs t 0 1).map (fun p => f p.1) = (Tr.pairs t 0 1).map (fun p => some p.2)) : ∀ n v, t.get n = some v → f n = some v := by
  intro n v hv
  have hm := Tr.mem_pairs t n v 0 1 hv
  rw [Nat.zero_add, Nat.one_mul] at hm
  have key : ∀ (l : List (Nat × α)), l.map (fun p => f p.1) = l.map (fun p => some p.2) → ∀ p ∈ l, f p.1 = some p.2 := by
    intro l
    induction l with
    | nil => intro _ p hp; cases hp
    | cons q l ih =>
      intro h p hp
      simp only [List.map_cons, List.cons.injEq] at h
      rcases List.mem_cons.1 hp with hp | hp
      · rw [hp]; exact h.1
      · exact ih h.2 p hp
  exact key _ h _ hm
theorem Tr.okB {α : Type} {t : Tr α} {f : α → Bool} (h : (Tr.pairs t 0 1).all (fun p => f p.2) = true) : ∀ (n : Nat) v, t.get n = some v → f v = true := by
  intro n v hv
  have hm := Tr.mem_pairs t n v 0 1 hv
  rw [List.all_eq_true] at h
  exact h _ hm
end Mo

namespace Mo
open Go

/-! # A machine for the kernel: what is known of the code is reckoned once -/
/-! ## Paths in trees -/
inductive Ps where
  | o
  | l (p : Ps)
  | r (p : Ps)
noncomputable def Ps.code : Ps → Nat
  | .o => 0
  | .l p => 2 * p.code + 1
  | .r p => 2 * p.code + 2
noncomputable def Ps.depth : Ps → Nat
  | .o => 0
  | .l p => p.depth + 1
  | .r p => p.depth + 1
theorem Ps.depth_le : ∀ p : Ps, 2 ^ p.depth ≤ p.code + 1
  | .o => Nat.le_refl _
  | .l p => by
    have := Ps.depth_le p
    simp only [Ps.depth, Ps.code, Nat.pow_succ]; omega
  | .r p => by
    have := Ps.depth_le p
    simp only [Ps.depth, Ps.code, Nat.pow_succ]; omega
noncomputable def pthF : Nat → Nat → Ps
  | 0, _ => .o
  | f + 1, n => match n with
    | 0 => .o
    | m + 1 => if m % 2 = 0 then .l (pthF f (m / 2)) else .r (pthF f (m / 2))
theorem pthF_code : ∀ (f n : Nat), n < 2 ^ f → (pthF f n).code = n
  | 0, n, h => by
    have : n = 0 := by simpa using h
    rw [this]; rfl
  | f + 1, 0, _ => rfl
  | f + 1, m + 1, h => by
    have hm : m / 2 < 2 ^ f := by rw [Nat.pow_succ] at h; omega
    unfold pthF
    simp only
    split
    · simp only [Ps.code, pthF_code f _ hm]; omega
    · simp only [Ps.code, pthF_code f _ hm]; omega
/-- A slot's path. -/
noncomputable def pth (n : Nat) : Ps := pthF 30 n
theorem pth_code {n : Nat} (h : n < 1073741824) : (pth n).code = n := pthF_code 30 n h
section
variable {β : Type}
noncomputable def getP (p : Ps) : Tr Value → Value :=
  Ps.rec (motive := fun _ => Tr Value → Value)
    (fun t => Tr.rec (motive := fun _ => Value) undef (fun v _ _ _ _ => Option.rec (motive := fun _ => Value) undef (fun x => x) v) t)
    (fun _ ih t => Tr.rec (motive := fun _ => Value) undef (fun _ l _ _ _ => ih l) t)
    (fun _ ih t => Tr.rec (motive := fun _ => Value) undef (fun _ _ r _ _ => ih r) t) p
theorem getP_eq : ∀ (p : Ps) (t : Tr Value), getP p t = getS t p.code
  | .o, .lf => rfl
  | .o, .nd v l r => by cases v <;> rfl
  | .l p, .lf => rfl
  | .l p, .nd v l r => by
    show getP p l = _
    rw [getP_eq p l]
    unfold getS
    simp only [Ps.code, Tr.get_succ]
    rw [if_pos (by omega)]
    congr 2; omega
  | .r p, .lf => rfl
  | .r p, .nd v l r => by
    show getP p r = _
    rw [getP_eq p r]
    unfold getS
    simp only [Ps.code, Tr.get_succ]
    rw [if_neg (by omega)]
    congr 2; omega
noncomputable def putP (p : Ps) : Tr Value → Value → (Tr Value → Option β) → Option β :=
  Ps.rec (motive := fun _ => Tr Value → Value → (Tr Value → Option β) → Option β)
    (fun t x k => Tr.rec (motive := fun _ => Option β) (k (.nd (some x) .lf .lf)) (fun _ l r _ _ => k (.nd (some x) l r)) t)
    (fun _ ih t x k => Tr.rec (motive := fun _ => Option β) (ih .lf x fun l => k (.nd none l .lf)) (fun v l r _ _ => ih l x fun l => k (.nd v l r)) t)
    (fun _ ih t x k => Tr.rec (motive := fun _ => Option β) (ih .lf x fun r => k (.nd none .lf r)) (fun v l r _ _ => ih r x fun r => k (.nd v l r)) t) p
theorem putP_eq (x : Value) : ∀ (p : Ps) (t : Tr Value) (f : Nat) (k : Tr Value → Option β), p.depth < f → putP p t x k = k (Tr.put (some x) f t p.code)
  | .o, t, f + 1, k, _ => by cases t <;> rfl
  | .l p, t, f + 1, k, h => by
    have h' : p.depth < f := by simp only [Ps.depth] at h; omega
    cases t with
    | lf =>
      show putP p .lf x (fun l => k (.nd none l .lf)) = _
      rw [putP_eq x p .lf f _ h', Ps.code]
      simp only [Tr.put]
      rw [if_pos (by omega), show 2 * p.code / 2 = p.code by omega]
    | nd v l r =>
      show putP p l x (fun l => k (.nd v l r)) = _
      rw [putP_eq x p l f _ h', Ps.code]
      simp only [Tr.put]
      rw [if_pos (by omega), show 2 * p.code / 2 = p.code by omega]
  | .r p, t, f + 1, k, h => by
    have h' : p.depth < f := by simp only [Ps.depth] at h; omega
    cases t with
    | lf =>
      show putP p .lf x (fun r => k (.nd none .lf r)) = _
      rw [putP_eq x p .lf f _ h', show Ps.code (.r p) = (2 * p.code + 1) + 1 from rfl]
      simp only [Tr.put]
      rw [if_neg (by omega), show (2 * p.code + 1) / 2 = p.code by omega]
    | nd v l r =>
      show putP p r x (fun r => k (.nd v l r)) = _
      rw [putP_eq x p r f _ h', show Ps.code (.r p) = (2 * p.code + 1) + 1 from rfl]
      simp only [Tr.put]
      rw [if_neg (by omega), show (2 * p.code + 1) / 2 = p.code by omega]
theorem putP_pth {x : Value} {t : Nat} {sl : Tr Value} {k : Tr Value → Option β} (h : t < 1073741824) : putP (pth t) sl x k = k (Tr.put (some x) 31 sl t) := by
  have hc := pth_code h
  have hd := Ps.depth_le (pth t)
  rw [hc] at hd
  have : (pth t).depth < 31 := by
    apply Nat.lt_of_not_le
    intro h31
    have := Nat.pow_le_pow_right (n := 2) (by decide) h31
    omega
  rw [putP_eq x (pth t) sl 31 k this, hc]
end

/-! ## Operands -/
inductive CO where
  | t (p : Ps)
  | c (v : Value)
noncomputable def cO : Operand → Option CO
  | .tmp t => if Nat.blt t 1073741824 then some (.t (pth t)) else none
  | .const v => if qc v then some (.c v) else none
  | .func f => some (.c (.func (.func f) #[] #[]))
  | .global _ => none
noncomputable def evO (x : CO) : Tr Value → Value := CO.rec (motive := fun _ => Tr Value → Value) (fun p => getP p) (fun v _ => v) x
theorem cO_ok {x : Operand} {c : CO} (h : cO x = some c) (sl : Tr Value) : evO c sl = ev (getS sl) x ∧ qd x = true := by
  unfold cO at h
  split at h
  · rename_i t
    split at h
    · rename_i ht
      rw [Nat.blt_eq] at ht
      cases h
      refine ⟨?_, rfl⟩
      show getP (pth t) sl = _
      rw [getP_eq, pth_code ht]
      rfl
    · cases h
  · split at h
    · rename_i hq
      cases h
      exact ⟨rfl, hq⟩
    · cases h
  · cases h; exact ⟨rfl, rfl⟩
  · cases h
noncomputable def cOL : List Operand → Option (List CO)
  | [] => some []
  | x :: r => match cO x, cOL r with
    | some c, some l => some (c :: l)
    | _, _ => none

/-! ## What is at hand -/
section
variable {β : Type}
noncomputable def asP (v : Value) (k : Nat → Nat → Option β) : Option β := match v with
  | .pointer a => Option.rec (motive := fun _ => Option β) none (fun a => Addr.rec (motive := fun _ => Option β) (fun b o s => Option.rec (motive := fun _ => Option β) (k b o) (fun _ => none) s) a) a
  | _ => none
theorem asP_some {v : Value} {k : Nat → Nat → Option β} {r : β} (h : asP v k = some r) : ∃ b o, v = .pointer (some ⟨b, o, none⟩) ∧ k b o = some r := by
  unfold asP at h
  split at h
  · rename_i a
    cases a with
    | none => cases h
    | some a =>
      obtain ⟨b, o, s⟩ := a
      cases s with
      | none => exact ⟨b, o, rfl, h⟩
      | some s => cases h
  · cases h
noncomputable def asS (v : Value) (k : Nat → Nat → Nat → Nat → Option β) : Option β := match v with
  | .slice a l c => Option.rec (motive := fun _ => Option β) none (fun a => Addr.rec (motive := fun _ => Option β) (fun b o s => Option.rec (motive := fun _ => Option β) (k b o l c) (fun _ => none) s) a) a
  | _ => none
theorem asS_some {v : Value} {k : Nat → Nat → Nat → Nat → Option β} {r : β} (h : asS v k = some r) : ∃ b o l c, v = .slice (some ⟨b, o, none⟩) l c ∧ k b o l c = some r := by
  unfold asS at h
  split at h
  · rename_i a l c
    cases a with
    | none => cases h
    | some a =>
      obtain ⟨b, o, s⟩ := a
      cases s with
      | none => exact ⟨b, o, l, c, rfl, h⟩
      | some s => cases h
  · cases h
noncomputable def asN (v : Value) (k : IntKind → Nat → Option β) : Option β := match v with
  | .int q n => Int.rec (motive := fun _ => Option β) (fun n => k q n) (fun _ => none) n
  | _ => none
theorem asN_some {v : Value} {k : IntKind → Nat → Option β} {r : β} (h : asN v k = some r) : ∃ q n, v = .int q (.ofNat n) ∧ k q n = some r := by
  unfold asN at h
  split at h
  · rename_i q n
    cases n with
    | ofNat n => exact ⟨q, n, rfl, h⟩
    | negSucc n => cases h
  · cases h
noncomputable def rowK (W : Tw) (b : Nat) (k : List Value → TypeId → Bool → Nat → Option β) : Option β :=
  Tw.rec (motive := fun _ => Option β) (fun t _ _ _ _ => Bool.rec (motive := fun _ => Option β) none
    (Option.rec (motive := fun _ => Option β) none (fun r => Row.rec (motive := fun _ => Option β) (fun cs e op z ob => Option.rec (motive := fun _ => Option β) (k cs e op z) (fun _ => none) ob) r) (t.get b))
    (Nat.ble b 9223372036854775807)) W
theorem rowK_some {W : Tw} {b : Nat} {k : List Value → TypeId → Bool → Nat → Option β} {r : β} (h : rowK W b k = some r) : ∃ cs e op z, W.get b = some ⟨cs, e, op, z, none⟩ ∧ k cs e op z = some r := by
  obtain ⟨t, nx, lim, rd, wr⟩ := W
  unfold rowK at h
  simp only at h
  unfold Tw.get
  cases hb : Nat.ble b 9223372036854775807 with
  | false => rw [hb] at h; cases h
  | true =>
    rw [hb] at h
    simp only at h ⊢
    cases hg : t.get b with
    | none => rw [hg] at h; cases h
    | some q =>
      rw [hg] at h
      obtain ⟨cs, e, op, z, ob⟩ := q
      cases ob with
      | none => exact ⟨cs, e, op, z, rfl, h⟩
      | some o => cases h
/-- A row that may be read. -/
noncomputable def rowRK (W : Tw) (b : Nat) (k : List Value → Option β) : Option β :=
  Tw.rec (motive := fun _ => Option β) (fun t _ _ _ _ => Bool.rec (motive := fun _ => Option β) none
    (Option.rec (motive := fun _ => Option β) none (fun r => Row.rec (motive := fun _ => Option β) (fun cs _ _ _ ob => Bool.rec (motive := fun _ => Option β) none (k cs) (rdOb ob)) r) (t.get b))
    (Nat.ble b 9223372036854775807)) W
theorem rowRK_some {W : Tw} {b : Nat} {k : List Value → Option β} {r : β} (h : rowRK W b k = some r) : ∃ cs e op z ob, W.get b = some ⟨cs, e, op, z, ob⟩ ∧ rdOb ob = true ∧ k cs = some r := by
  obtain ⟨t, nx, lim, rd, wr⟩ := W
  unfold rowRK at h
  simp only at h
  unfold Tw.get
  cases hb : Nat.ble b 9223372036854775807 with
  | false => rw [hb] at h; cases h
  | true =>
    rw [hb] at h
    simp only at h ⊢
    cases hg : t.get b with
    | none => rw [hg] at h; cases h
    | some q =>
      rw [hg] at h
      obtain ⟨cs, e, op, z, ob⟩ := q
      simp only at h
      cases ho : rdOb ob with
      | true => rw [ho] at h; exact ⟨cs, e, op, z, ob, rfl, ho, h⟩
      | false => rw [ho] at h; cases h
noncomputable def opb {α : Type} (x : Option (α × Tw)) (k : α → Tw → Option β) : Option β :=
  Option.rec (motive := fun _ => Option β) none (fun p => Prod.rec (motive := fun _ => Option β) (fun v W => k v W) p) x
theorem opb_some {α : Type} {x : Option (α × Tw)} {k : α → Tw → Option β} {r : β} (h : opb x k = some r) : ∃ v W, x = some (v, W) ∧ k v W = some r := by
  cases x with
  | none => cases h
  | some p => exact ⟨p.1, p.2, rfl, h⟩
/-- Cells to be stored. -/
noncomputable def celK (v : Value) (k : List Value → Option β) : Option β := match v with
  | .agg a => Array.rec (motive := fun _ => Option β) (fun l => List.rec (motive := fun _ => Option β) none (fun c r _ => k (c :: r)) l) a
  | .tuple _ => none
  | v => k [v]

/-! ## Operations -/
noncomputable def zLd (ag : Bool) (sz : Nat) (v : Value) (W : Tw) (k : Value → Tw → Option β) : Option β :=
  asP v fun b off => rowRK W b fun cs => Bool.rec (motive := fun _ => Option β)
    (Option.rec (motive := fun _ => Option β) none (fun v => W.readK b fun W => k v W) (getR off cs))
    (Bool.rec (motive := fun _ => Option β) (fTake [] sz (drp off cs) fun vs => W.readK b fun W => k (.agg ⟨vs⟩) W) none (Nat.beq sz 0)) ag
theorem zLd_some {ag : Bool} {sz : Nat} {v : Value} {W : Tw} {k : Value → Tw → Option β} {r : β} (h : zLd ag sz v W k = some r) : ∃ a u W', v = .pointer (some a) ∧ loadR ag sz a W = some (u, W') ∧ k u W' = some r := by
  unfold zLd at h
  obtain ⟨b, off, rfl, h1⟩ := asP_some h
  clear h
  obtain ⟨cs, e, op, z, ob, hg, hro, h⟩ := rowRK_some h1
  clear h1
  cases ag with
  | false =>
    simp only at h
    cases hv : getR off cs with
    | none => rw [hv] at h; cases h
    | some u =>
      rw [hv] at h
      simp only [Tw.readK_eq] at h
      refine ⟨_, u, W.read b, rfl, ?_, h⟩
      simp only [loadR, hg, hro, hv, Tw.readK_eq]
  | true =>
    simp only at h
    cases hz : Nat.beq sz 0 with
    | true => rw [hz] at h; cases h
    | false =>
      rw [hz] at h
      simp only [fTake_eq] at h
      cases ht : takeL (drp off cs) sz with
      | none => rw [ht] at h; cases h
      | some vs =>
        rw [ht, Option.bind_some, Tw.readK_eq] at h
        refine ⟨_, _, W.read b, rfl, ?_, h⟩
        simp only [loadR, hg, hro, hz, fTake_eq, ht, Option.bind_some, Tw.readK_eq]
noncomputable def zSt (sz : Nat) (v u : Value) (W : Tw) (k : Value → Tw → Option β) : Option β :=
  asP v fun b off => rowK W b fun cs e op z => celK u fun l => Bool.rec (motive := fun _ => Option β) none
    (fSet l off cs fun cs => W.setK b (some ⟨cs, e, op, z, none⟩) fun W => k undef W) (chk l sz)
theorem celK_some {v : Value} {k : List Value → Option β} {r : β} (h : celK v k = some r) : ∃ l, k l = some r ∧ ((∃ c s, v = .agg ⟨c :: s⟩ ∧ l = c :: s) ∨ ((∀ a, v ≠ .agg a) ∧ (∀ a, v ≠ .tuple a) ∧ l = [v])) := by
  cases v
  case agg xs =>
    obtain ⟨l⟩ := xs
    cases l with
    | nil => cases h
    | cons c s => exact ⟨_, h, .inl ⟨c, s, rfl, rfl⟩⟩
  case tuple xs => cases h
  all_goals exact ⟨_, h, .inr ⟨nofun, nofun, rfl⟩⟩
theorem zSt_some {sz : Nat} {v u : Value} {W : Tw} {k : Value → Tw → Option β} {r : β} (h : zSt sz v u W k = some r) : ∃ a W', v = .pointer (some a) ∧ storeR sz a u W = some ((), W') ∧ k undef W' = some r := by
  unfold zSt at h
  obtain ⟨b, off, rfl, h1⟩ := asP_some h
  clear h
  obtain ⟨cs, e, op, z, hg, h⟩ := rowK_some h1
  clear h1
  obtain ⟨l, h2, hl⟩ := celK_some h
  clear h
  have h := h2
  clear h2
  cases hc : chk l sz with
  | false => rw [hc] at h; cases h
  | true =>
    rw [hc] at h
    simp only [fSet_eq] at h
    split at h
    · rename_i hle
      rw [Tw.setK_eq] at h
      refine ⟨_, _, rfl, ?_, h⟩
      unfold storeR
      simp only [hg]
      rcases hl with ⟨c, s, rfl, rfl⟩ | ⟨h1, h2, rfl⟩
      · simp only [hc, fSet_eq, if_pos hle, Tw.setK_eq]
      · obtain ⟨k1, k2⟩ := chk_eq hc
        have ho : one u = true := by simpa using k2
        have hsz : Nat.beq sz 1 = true := by rw [Nat.beq_eq]; simpa using k1.symm
        cases u
        case agg xs => exact absurd rfl (h1 _)
        case tuple xs => exact absurd rfl (h2 _)
        all_goals simp only [hsz, ho, Bool.and_self, fSet_eq, if_pos hle, Tw.setK_eq]
    · cases h
end
end Mo

namespace Mo
open Go

/-! ## Numbers, quickly -/
def kMax : IntKind → Nat
  | .i8 => 127 | .i16 => 32767 | .i32 => 2147483647 | .i64 => 9223372036854775807 | .u8 => 255 | .u16 => 65535 | .u32 => 4294967295 | .u64 => 18446744073709551615
def kBits : IntKind → Nat
  | .i8 => 8 | .i16 => 16 | .i32 => 32 | .i64 => 64 | .u8 => 8 | .u16 => 16 | .u32 => 32 | .u64 => 64
theorem kBits_eq (q : IntKind) : kBits q = q.bits := by cases q <;> rfl
theorem wrap_small {q : IntKind} {s : Nat} (h : Nat.ble s (kMax q) = true) : q.wrap (.ofNat s) = .ofNat s := by
  rw [Nat.ble_eq] at h
  cases q <;> simp [kMax] at h <;> simp [IntKind.wrap, IntKind.bits, IntKind.signed] <;> omega
theorem kMax_lt (q : IntKind) : kMax q < 2 ^ q.bits := by cases q <;> decide
section
noncomputable def okN (q : IntKind) (s : Nat) : Option Value := fN s fun s => Bool.rec (motive := fun _ => Option Value) none (some (.int q (.ofNat s))) (Nat.ble s (kMax q))
theorem okN_some {q : IntKind} {s : Nat} {v : Value} (h : okN q s = some v) : v = .int q (.ofNat s) ∧ Nat.ble s (kMax q) = true := by
  unfold okN at h
  rw [fN_eq] at h
  cases hb : Nat.ble s (kMax q) with
  | false => rw [hb] at h; cases h
  | true => rw [hb] at h; cases h; exact ⟨rfl, rfl⟩
noncomputable def okB (b : Bool) : Option Value := Bool.rec (motive := fun _ => Option Value) (some (.bool false)) (some (.bool true)) b
theorem okB_some {b : Bool} {v : Value} (h : okB b = some v) : v = .bool b := by cases b <;> cases h <;> rfl
/-- Two numbers of a kind. -/
noncomputable def bz (b : BinOp) (q : IntKind) (m n : Nat) : Option Value := match b with
  | .add => okN q (Nat.add m n)
  | .sub => Bool.rec (motive := fun _ => Option Value) none (okN q (Nat.sub m n)) (Nat.ble n m)
  | .mul => okN q (Nat.mul m n)
  | .quo => Bool.rec (motive := fun _ => Option Value) (okN q (Nat.div m n)) none (Nat.beq n 0)
  | .rem => Bool.rec (motive := fun _ => Option Value) (okN q (Nat.mod m n)) none (Nat.beq n 0)
  | .eql => okB (Nat.beq m n)
  | .neq => Bool.rec (motive := fun _ => Option Value) (some (.bool true)) (some (.bool false)) (Nat.beq m n)
  | .lss => okB (Nat.blt m n)
  | .leq => okB (Nat.ble m n)
  | .gtr => okB (Nat.blt n m)
  | .geq => okB (Nat.ble n m)
  | .and => Bool.rec (motive := fun _ => Option Value) none (Bool.rec (motive := fun _ => Option Value) none (okN q (Nat.land m n)) (Nat.ble n (kMax q))) (Nat.ble m (kMax q))
  | .or => Bool.rec (motive := fun _ => Option Value) none (Bool.rec (motive := fun _ => Option Value) none (okN q (Nat.lor m n)) (Nat.ble n (kMax q))) (Nat.ble m (kMax q))
  | .xor => Bool.rec (motive := fun _ => Option Value) none (Bool.rec (motive := fun _ => Option Value) none (okN q (Nat.xor m n)) (Nat.ble n (kMax q))) (Nat.ble m (kMax q))
  | .shl => none
  | .shr => none
  | .andNot => none
theorem ofInt_nat {q : IntKind} {m : Nat} (h : Nat.ble m (kMax q) = true) : (BitVec.ofInt q.bits (.ofNat m)).toNat = m := by
  rw [Nat.ble_eq] at h
  have := kMax_lt q
  show (BitVec.ofInt q.bits (m : Int)).toNat = m
  rw [BitVec.ofInt_natCast, BitVec.toNat_ofNat]
  exact Nat.mod_eq_of_lt (by omega)
theorem bz_eq {b : BinOp} {t : TypeId} {q : IntKind} {m n : Nat} {v : Value} (h : bz b q m n = some v) : binOp b t (.int q (.ofNat m)) (.int q (.ofNat n)) = pure v := by
  have two : ∀ {x : Option Value}, (Bool.rec (motive := fun _ => Option Value) none (Bool.rec (motive := fun _ => Option Value) none x (Nat.ble n (kMax q))) (Nat.ble m (kMax q))) = some v → x = some v ∧ Nat.ble n (kMax q) = true ∧ Nat.ble m (kMax q) = true := by
    intro x hx
    cases h1 : Nat.ble m (kMax q) <;> rw [h1] at hx
    · cases hx
    · cases h2 : Nat.ble n (kMax q) <;> rw [h2] at hx
      · cases hx
      · exact ⟨hx, rfl, rfl⟩
  cases b <;> simp only [bz] at h
  case add =>
    obtain ⟨rfl, h1⟩ := okN_some h
    simp only [binOp, Op.intArith, ne_eq, not_true, if_false]
    rw [show (Int.ofNat m + Int.ofNat n) = Int.ofNat (Nat.add m n) from rfl, wrap_small h1]
  case sub =>
    cases hb : Nat.ble n m <;> rw [hb] at h
    · cases h
    · obtain ⟨rfl, h1⟩ := okN_some h
      rw [Nat.ble_eq] at hb
      simp only [binOp, Op.intArith, ne_eq, not_true, if_false]
      rw [show (Int.ofNat m - Int.ofNat n) = Int.ofNat (Nat.sub m n) by
        show (m : Int) - (n : Int) = ((m - n : Nat) : Int)
        omega, wrap_small h1]
  case mul =>
    obtain ⟨rfl, h1⟩ := okN_some h
    simp only [binOp, Op.intArith, ne_eq, not_true, if_false]
    rw [show (Int.ofNat m * Int.ofNat n) = Int.ofNat (Nat.mul m n) from rfl, wrap_small h1]
  case quo =>
    cases hb : Nat.beq n 0 <;> rw [hb] at h
    · obtain ⟨rfl, h1⟩ := okN_some h
      have hn : Int.ofNat n ≠ 0 := fun hc => by
        have : n = 0 := by exact Int.ofNat.inj hc
        rw [this] at hb; cases hb
      simp only [binOp, Op.intDiv, ne_eq, not_true, if_false, hn]
      rw [show (Int.ofNat m).tdiv (Int.ofNat n) = Int.ofNat (Nat.div m n) from rfl, wrap_small h1]
    · cases h
  case rem =>
    cases hb : Nat.beq n 0 <;> rw [hb] at h
    · obtain ⟨rfl, h1⟩ := okN_some h
      have hn : Int.ofNat n ≠ 0 := fun hc => by
        have : n = 0 := by exact Int.ofNat.inj hc
        rw [this] at hb; cases hb
      simp only [binOp, Op.intDiv, ne_eq, not_true, if_false, hn]
      rfl
    · cases h
  case eql =>
    have := okB_some h; subst this
    simp only [binOp, Op.intCmp, ne_eq, not_true, if_false]
    congr 2
    rw [Bool.eq_iff_iff]
    simp only [beq_iff_eq, Nat.beq_eq]
    exact ⟨fun h => Int.ofNat.inj h, fun h => by rw [h]⟩
  case neq =>
    have hv : v = .bool (!(Nat.beq m n)) := by
      cases hb : Nat.beq m n <;> rw [hb] at h <;> cases h <;> rfl
    subst hv
    simp only [binOp, Op.intCmp, ne_eq, not_true, if_false]
    congr 2
    unfold bne
    congr 1
    rw [Bool.eq_iff_iff]
    simp only [beq_iff_eq, Nat.beq_eq]
    exact ⟨fun h => Int.ofNat.inj h, fun h => by rw [h]⟩
  case lss =>
    have := okB_some h; subst this
    simp only [binOp, Op.intCmp, ne_eq, not_true, if_false]
    congr 2
    rw [Bool.eq_iff_iff]
    simp only [decide_eq_true_eq, Nat.blt_eq]
    exact Int.ofNat_lt
  case leq =>
    have := okB_some h; subst this
    simp only [binOp, Op.intCmp, ne_eq, not_true, if_false]
    congr 2
    rw [Bool.eq_iff_iff]
    simp only [decide_eq_true_eq, Nat.ble_eq]
    exact Int.ofNat_le
  case gtr =>
    have := okB_some h; subst this
    simp only [binOp, Op.intCmp, ne_eq, not_true, if_false]
    congr 2
    rw [Bool.eq_iff_iff]
    simp only [decide_eq_true_eq, Nat.blt_eq]
    exact Int.ofNat_lt
  case geq =>
    have := okB_some h; subst this
    simp only [binOp, Op.intCmp, ne_eq, not_true, if_false]
    congr 2
    rw [Bool.eq_iff_iff]
    simp only [decide_eq_true_eq, Nat.ble_eq]
    exact Int.ofNat_le
  case and =>
    obtain ⟨h1, h2, h3⟩ := two h
    obtain ⟨rfl, h4⟩ := okN_some h1
    simp only [binOp, Op.intBits, ne_eq, not_true, if_false]
    rw [BitVec.toNat_and, ofInt_nat h3, ofInt_nat h2]
    have e : ((m &&& n : Nat) : Int) = .ofNat (Nat.land m n) := rfl
    rw [e, wrap_small h4]
  case or =>
    obtain ⟨h1, h2, h3⟩ := two h
    obtain ⟨rfl, h4⟩ := okN_some h1
    simp only [binOp, Op.intBits, ne_eq, not_true, if_false]
    rw [BitVec.toNat_or, ofInt_nat h3, ofInt_nat h2]
    have e : ((m ||| n : Nat) : Int) = .ofNat (Nat.lor m n) := rfl
    rw [e, wrap_small h4]
  case xor =>
    obtain ⟨h1, h2, h3⟩ := two h
    obtain ⟨rfl, h4⟩ := okN_some h1
    simp only [binOp, Op.intBits, ne_eq, not_true, if_false]
    rw [BitVec.toNat_xor, ofInt_nat h3, ofInt_nat h2]
    have e : ((m ^^^ n : Nat) : Int) = .ofNat (Nat.xor m n) := rfl
    rw [e, wrap_small h4]
  all_goals cases h
/-- A number moved. -/
noncomputable def bzs (b : BinOp) (q : IntKind) (m n : Nat) : Option Value := Bool.rec (motive := fun _ => Option Value) none (match b with
  | .shl => okN q (Nat.mul m (Nat.pow 2 n))
  | .shr => okN q (Nat.div m (Nat.pow 2 n))
  | _ => none) (Nat.ble n (kBits q))
theorem bzs_eq {b : BinOp} {t : TypeId} {q j : IntKind} {m n : Nat} {v : Value} (h : bzs b q m n = some v) : binOp b t (.int q (.ofNat m)) (.int j (.ofNat n)) = pure v := by
  unfold bzs at h
  cases hb : Nat.ble n (kBits q) <;> rw [hb] at h
  · cases h
  · rw [Nat.ble_eq, kBits_eq] at hb
    have hn : ¬ Int.ofNat n < 0 := by
      have : (0 : Int) ≤ Int.ofNat n := Int.natCast_nonneg n
      omega
    have hmin : min (Int.ofNat n).toNat q.bits = n := by
      show min n q.bits = n
      omega
    cases b <;> simp only at h
    case shl =>
      obtain ⟨rfl, h1⟩ := okN_some h
      simp only [binOp, Op.shift, hn, if_false, hmin]
      have e : (Int.ofNat m * 2 ^ n) = Int.ofNat (Nat.mul m (Nat.pow 2 n)) := by
        show (m : Int) * 2 ^ n = ((m * 2 ^ n : Nat) : Int)
        simp
      rw [e, wrap_small h1]
    case shr =>
      obtain ⟨rfl, h1⟩ := okN_some h
      simp only [binOp, Op.shift, hn, if_false, hmin]
      have e : (Int.ofNat m).fdiv (2 ^ n) = Int.ofNat (Nat.div m (Nat.pow 2 n)) := by
        have : ((2 : Int) ^ n) = ((2 ^ n : Nat) : Int) := by simp
        rw [this]
        show (m : Int).fdiv ((2 ^ n : Nat) : Int) = ((m / 2 ^ n : Nat) : Int)
        rw [Int.fdiv_eq_ediv_of_nonneg _ (Int.natCast_nonneg _)]
        simp
      rw [e]
    all_goals cases h
noncomputable def isSh : BinOp → Bool
  | .shl | .shr => true
  | _ => false
theorem brT {α : Type} {x : Option α} {b : Bool} {v : α} (h : Bool.rec (motive := fun _ => Option α) none x b = some v) : x = some v := by
  cases b
  · cases h
  · exact h
theorem brF {α : Type} {x : Option α} {b : Bool} {v : α} (h : Bool.rec (motive := fun _ => Option α) x none b = some v) : x = some v := by
  cases b
  · exact h
  · cases h
def kQ : IntKind → Nat
  | .i8 => 0 | .i16 => 1 | .i32 => 2 | .i64 => 3 | .u8 => 4 | .u16 => 5 | .u32 => 6 | .u64 => 7
theorem kQ_inj {a b : IntKind} (h : Nat.beq (kQ a) (kQ b) = true) : a = b := by
  rw [Nat.beq_eq] at h
  cases a <;> cases b <;> first | rfl | cases h
/-- Numbers of two kinds. -/
noncomputable def bzz (b : BinOp) (x y : Value) : Option Value :=
  asN x fun q m => asN y fun j n => Bool.rec (motive := fun _ => Option Value)
    (Bool.rec (motive := fun _ => Option Value) none (bz b q m n) (Nat.beq (kQ q) (kQ j))) (bzs b q m n) (isSh b)
theorem bzz_eq {b : BinOp} {t : TypeId} {x y v : Value} (h : bzz b x y = some v) : binQ b t x y = some v := by
  unfold bzz at h
  obtain ⟨q, m, rfl, h1⟩ := asN_some h
  obtain ⟨j, n, rfl, h2⟩ := asN_some h1
  clear h h1
  have sc : ∀ {v : Value}, bz b q m n = some v ∨ bzs b q m n = some v → scal v = true := by
    intro v hv
    rcases hv with hv | hv
    · cases b <;> simp only [bz] at hv
      all_goals first
        | (obtain ⟨rfl, -⟩ := okN_some hv; rfl)
        | (have := okB_some hv; subst this; rfl)
        | (cases hv; done)
        | skip
      case neq => cases hb : Nat.beq m n <;> rw [hb] at hv <;> cases hv <;> rfl
      case sub => obtain ⟨rfl, -⟩ := okN_some (brT hv); rfl
      case quo => obtain ⟨rfl, -⟩ := okN_some (brF hv); rfl
      case rem => obtain ⟨rfl, -⟩ := okN_some (brF hv); rfl
      all_goals (obtain ⟨rfl, -⟩ := okN_some (brT (brT hv)); rfl)
    · unfold bzs at hv
      cases hb : Nat.ble n (kBits q) <;> rw [hb] at hv
      · cases hv
      · cases b <;> simp only at hv
        all_goals first
          | (obtain ⟨rfl, -⟩ := okN_some hv; rfl)
          | cases hv
  have fin : binOp b t (.int q (.ofNat m)) (.int j (.ofNat n)) = pure v → scal v = true → binQ b t (.int q (.ofNat m)) (.int j (.ofNat n)) = some v := by
    intro e1 e2
    unfold binQ
    simp only
    rw [e1]
    show (if scal v then some v else none) = _
    rw [if_pos e2]
  cases hs : isSh b <;> rw [hs] at h2
  · cases hk : Nat.beq (kQ q) (kQ j) <;> rw [hk] at h2
    · cases h2
    · have := kQ_inj hk
      subst this
      exact fin (bz_eq h2) (sc (.inl h2))
  · exact fin (bzs_eq h2) (sc (.inr h2))
/-- A number as one of another kind. -/
noncomputable def cvz (k : IntKind) (n : Int) : Int := Int.rec (motive := fun _ => Int) (fun m => Bool.rec (motive := fun _ => Int) (k.wrap (.ofNat m)) (.ofNat m) (Nat.ble m (kMax k))) (fun m => k.wrap (.negSucc m)) n
theorem cvz_eq (k : IntKind) (n : Int) : cvz k n = k.wrap n := by
  cases n with
  | ofNat m =>
    show Bool.rec (motive := fun _ => Int) (k.wrap (.ofNat m)) (.ofNat m) (Nat.ble m (kMax k)) = _
    cases h : Nat.ble m (kMax k) with
    | false => rfl
    | true => exact (wrap_small h).symm
  | negSucc m => rfl
end
end Mo

