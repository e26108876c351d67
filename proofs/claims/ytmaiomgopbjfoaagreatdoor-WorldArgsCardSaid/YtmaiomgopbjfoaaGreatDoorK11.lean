import Derived.Test.YtmaiomgopbjfoaaGreatDoorK9
set_option linter.all false
namespace Mir
open Go

/-! ## More operations, quickly -/
section
variable {β : Type}
/-- Parts are laid into cells. -/
noncomputable def lenQ' (l : List Value) (n : Nat) : Bool :=
  List.rec (motive := fun _ => Nat → Bool) (fun n => Nat.beq n 0) (fun _ _ ih n => Nat.rec (motive := fun _ => Bool) false (fun m _ => ih m) n) l n
theorem lenQ'_eq : ∀ {l : List Value} {n : Nat}, lenQ' l n = true → l.length = n
  | [], n, h => by
    have h' : Nat.beq n 0 = true := h
    rw [Nat.beq_eq] at h'; simp [h']
  | v :: l, 0, h => by cases h
  | v :: l, n + 1, h => by
    have h' : lenQ' l n = true := h
    simp [lenQ'_eq h']
noncomputable def fillR (place : Nat → Option (Nat × Nat)) (ps : List (Nat × Value)) : List Value → (List Value → Option β) → Option β :=
  List.rec (motive := fun _ => List Value → (List Value → Option β) → Option β) (fun cs k => k cs) (fun p _ ih cs k => Prod.rec (motive := fun _ => Option β) (fun i v =>
    Option.rec (motive := fun _ => Option β) none (fun q => Prod.rec (motive := fun _ => Option β) (fun off sz => fW v fun v => fZ v fun l =>
      Bool.rec (motive := fun _ => Option β) none (fSet l off cs fun cs => ih cs k) (lenQ' l sz)) q) (place i)) p) ps
theorem setL_set (v : Value) : ∀ (l : List Value) (o : Nat), setL v l o = l.set o v
  | [], o => by simp [setL]
  | x :: l, 0 => by simp [setL]
  | x :: l, o + 1 => by simp [setL, setL_set v l o]
theorem foldl_set (off : Nat) : ∀ (l : List Value) (n : Nat) (A : Array Value), off + n + l.length ≤ A.size →
    ((l.zipIdx n).foldl (fun (cs : Array Value) (p : Value × Nat) => cs.setIfInBounds (off + p.2) p.1) A).toList = setLs A.toList (off + n) l
  | [], n, A, _ => by simp [setLs]
  | v :: l, n, A, h => by
    simp only [List.length_cons] at h
    simp only [List.zipIdx_cons, List.foldl_cons]
    rw [foldl_set off l (n + 1) _ (by simp; omega), Array.toList_setIfInBounds, ← setL_set, ← Nat.add_assoc]
    exact setLs_cons (by simp; omega)
theorem fillR_ok {place : Nat → Option (Nat × Nat)} {r : β} : ∀ (ps : List (Nat × Value)) (cs : List Value) (k : List Value → Option β), fillR place ps cs k = some r →
    ∃ cs', Instr.fill place ⟨cs⟩ ps = some ⟨cs'⟩ ∧ k cs' = some r
  | [], cs, k, h => ⟨cs, rfl, h⟩
  | (i, v) :: ps, cs, k, h => by
    have h' : Option.rec (motive := fun _ => Option β) none (fun q => Prod.rec (motive := fun _ => Option β) (fun off sz => fW v fun v => fZ v fun l =>
      Bool.rec (motive := fun _ => Option β) none (fSet l off cs fun cs => fillR place ps cs k) (lenQ' l sz)) q) (place i) = some r := h
    clear h
    cases hp : place i with
    | none => rw [hp] at h'; cases h'
    | some q =>
      obtain ⟨off, sz⟩ := q
      rw [hp] at h'
      simp only [fW_eq, fZ_eq] at h'
      cases hl : lenQ' v.cells.toList sz with
      | false => rw [hl] at h'; cases h'
      | true =>
        rw [hl] at h'
        simp only [fSet_eq] at h'
        split at h'
        · rename_i hle
          obtain ⟨cs', h1, h2⟩ := fillR_ok ps _ k h'
          refine ⟨cs', ?_, h2⟩
          have hlen := lenQ'_eq hl
          have hsz : v.cells.size = sz := by rw [← hlen]; simp
          unfold Instr.fill
          simp only [hp]
          have hle' : off + v.cells.size ≤ cs.length := by
            have : v.cells.toList.length = v.cells.size := by simp
            omega
          rw [if_neg (by simp [hsz]; rw [hsz] at hle'; omega)]
          rw [← h1]
          congr 1
          apply Array.ext'
          rw [← Array.foldl_toList, Array.toList_zipIdx]
          have := foldl_set off v.cells.toList 0 ⟨cs⟩ (by simpa using hle')
          simpa using this
        · cases h'
noncomputable def fApp (zs : List Value) (r : List Value) : (List Value → Option β) → Option β :=
  List.rec (motive := fun _ => (List Value → Option β) → Option β) (fun k => k r) (fun x _ ih k => ih fun r => k (x :: r)) zs
theorem fApp_eq (r : List Value) : ∀ (zs : List Value) (k : List Value → Option β), fApp zs r k = k (zs ++ r)
  | [], k => rfl
  | x :: zs, k => by
    show fApp zs r (fun r => k (x :: r)) = _
    rw [fApp_eq r zs]; rfl
noncomputable def fMade (zs : List Value) (n : Nat) : (List Value → Option β) → Option β :=
  Nat.rec (motive := fun _ => (List Value → Option β) → Option β) (fun k => k []) (fun _ ih k => ih fun r => fApp zs r k) n
theorem fMade_eq (zs : List Value) : ∀ (n : Nat) (k : List Value → Option β), fMade zs n k = k (madeL zs n)
  | 0, k => rfl
  | n + 1, k => by
    show fMade zs n (fun r => fApp zs r k) = _
    rw [fMade_eq zs n, fApp_eq]; rfl
end

/-! ### What each of them is -/
noncomputable def eqR (tb : Tb) (b : BinOp) (t : TypeId) (x y : Value) : Option Value := match tb.ty.get t with
  | some ⟨_, _, .sl _, _⟩ => match x, y with
    | .slice a _ _, .slice none _ _ => match b with
      | .eql => Option.rec (motive := fun _ => Option Value) (some (.bool true)) (fun _ => some (.bool false)) a
      | .neq => Option.rec (motive := fun _ => Option Value) (some (.bool false)) (fun _ => some (.bool true)) a
      | _ => none
    | _, _ => none
  | _ => none
noncomputable def lnR (tb : Tb) (t : TypeId) (x : Value) : Option Value := match tb.ty.get t with
  | some ⟨_, _, .sl _, _⟩ => match x with
    | .slice _ n _ => some (.int .i64 (.ofNat n))
    | _ => none
  | some ⟨_, _, .str, _⟩ => match x with
    | .string s => fN s.size fun n => some (.int .i64 (.ofNat n))
    | _ => none
  | _ => none
noncomputable def mmR (mx : Bool) (x y : Value) : Option Value :=
  asN x fun q m => asN y fun _ n => match mx with
    | false => Bool.rec (motive := fun _ => Option Value) (some (.int q (.ofNat m))) (some (.int q (.ofNat n))) (Nat.blt n m)
    | true => Bool.rec (motive := fun _ => Option Value) (some (.int q (.ofNat m))) (some (.int q (.ofNat n))) (Nat.blt m n)
noncomputable def buR (tb : Tb) (f : Nat → Value) (t : TypeId) (ps : List (Nat × Operand)) (W : Tw) : Option (Next × Tw) := match qdP ps with
  | true => match tb.ty.get t with
    | some ⟨_, _, .st fs, z⟩ => fZ z fun l => fillR (fun i => (getX fs i).map fun p => (p.1, p.2.1)) (evalP f ps) l fun cs => some (.value (.agg ⟨cs⟩), W)
    | some ⟨_, _, .ar _ e, z⟩ => fZ z fun l => fillR (fun i => some (i * e, e)) (evalP f ps) l fun cs => some (.value (.agg ⟨cs⟩), W)
    | _ => none
  | false => none
noncomputable def bsR (tb : Tb) (f : Nat → Value) (t n : Nat) (ps : List (Nat × Operand)) (W : Tw) : Option (Next × Tw) := match qdP ps with
  | true => match tb.ap.get t with
    | some (e, z, _) => match tb.ty.get e with
      | some ti => match Nat.blt 0 (Nat.mul n z), Nat.ble (Nat.mul n z) 16777216 with
        | true, true => fZ ti.z fun l => fMade l n fun c0 => fillR (fun i => some (i * z, z)) (evalP f ps) c0 fun cs => W.layK ⟨cs, e, false, 0, none⟩ fun m W => some (.value (.slice (some ⟨m, 0, none⟩) n n), W)
        | _, _ => none
      | none => none
    | none => none
  | false => none
noncomputable def mkR (tb : Tb) (t : TypeId) (x y : Value) (W : Tw) : Option (Value × Tw) := match tb.ap.get t with
  | some (e, z, b) => match tb.ty.get e with
    | some ti => asN x fun _ l => asN y fun _ c => match Nat.ble l c, Nat.ble (Nat.mul c (Nat.add b 1)) 1099511627776, Nat.blt 0 z with
      | true, true, true => fZ ti.z fun zs => fMade zs c fun cs => W.layK ⟨cs, e, false, 0, none⟩ fun m W => some (.slice (some ⟨m, 0, none⟩) l c, W)
      | _, _, _ => none
    | none => none
  | none => none
noncomputable def opR (tb : Tb) (f : Nat → Value) (o : Oper) (W : Tw) : Option (Next × Tw) := match o.op with
  | .binOp b t x y _ => match qd x && qd y with
    | true => (eqR tb b t (ev f x) (ev f y)).map fun v => (.value v, W)
    | false => none
  | .unOp u _ x => match u with
    | .not => match qd x with
      | true => match ev f x with
        | .bool b => Bool.rec (motive := fun _ => Option (Next × Tw)) (some (.value (.bool true), W)) (some (.value (.bool false), W)) b
        | _ => none
      | false => none
    | _ => none
  | .build t ps => buR tb f t ps.toList W
  | .buildSlice t n ps => bsR tb f t n ps.toList W
  | .makeSlice t x y => match qd x && qd y with
    | true => (mkR tb t (ev f x) (ev f y) W).bind fun p => some (.value p.1, p.2)
    | false => none
  | .call c => match c.callee with
    | .builtin .len => match c.args.toList, c.argTypes.toList with
      | [x], [t] => match qd x with
        | true => (lnR tb t (ev f x)).map fun v => (.value v, W)
        | false => none
      | _, _ => none
    | .builtin .min => match c.args.toList with
      | [x, y] => match qd x && qd y with
        | true => (mmR false (ev f x) (ev f y)).map fun v => (.value v, W)
        | false => none
      | _ => none
    | .builtin .max => match c.args.toList with
      | [x, y] => match qd x && qd y with
        | true => (mmR true (ev f x) (ev f y)).map fun v => (.value v, W)
        | false => none
      | _ => none
    | _ => none
  | _ => none

section
variable {P : Program} {sy : SyT} {tb : Tb}
theorem rt_equal_sl {t : TypeId} {e : TypeId} (ht : P.underlying t = some (.slice e)) (d : Nat) (a : Option Addr) (l c l' c' : Nat) (W : Tw) :
    runT P (Op.equalIn (d + 1) t (.slice a l c) (.slice none l' c')) W = some (a.isNone, W) := by
  unfold Op.equalIn
  rw [rt_bind, rt_underlying ht, Option.bind_some]
  cases a <;> rfl
theorem equal_depth (t : TypeId) (x y : Value) : Op.equal t x y = Op.equalIn (9999 + 1) t x y := rfl
theorem quiet_plain {f : Nat → Value} {o : Oper} {v : Value} (hq : quietOp o.op = true) (hp : o.op.operands.all (fun x => plainD depth (ev f x)) = true) (hv : plainD depth v = true)
    (hr : ∀ W, runT P (execOp (ev f) o) W = some (.value v, W)) : quietT P f o ≠ none := by
  unfold quietT
  rw [hq, hp]
  simp only [Bool.and_self, if_true, quietB]
  rw [hr]
  simp only [hv, if_true]
  exact fun h => nomatch h
theorem ops2 {p : Operand → Bool} {x y : Operand} {o : Op} (ho : o.operands = #[x, y]) (hx : p x = true) (hy : p y = true) : o.operands.all p = true := by
  rw [ho]; simp [hx, hy]
theorem eqR_ok (htb : TbOk P tb) {b : BinOp} {t : TypeId} {x y v : Value} (h : eqR tb b t x y = some v) :
    (∃ a l c l' c', x = .slice a l c ∧ y = .slice none l' c') ∧ (b = .eql ∨ b = .neq) ∧ (∃ q, v = .bool q) ∧ ∀ ox oy W, runT P (do eqGuard b t ox oy x y; binOp b t x y) W = some (v, W) := by
  unfold eqR at h
  split at h
  · rename_i sz ag e z ht
    obtain ⟨i, d, h1, h2, h3, h4, h5, h6, h7⟩ := mkTI_some (htb.ty t _ ht)
    obtain ⟨el, ei, rfl, k1, k2⟩ := kdI_sl h6
    split at h
    · rename_i a l c l' c'
      split at h
      · have h0 : v = .bool a.isNone := by cases a <;> cases h <;> rfl
        subst h0
        refine ⟨⟨a, l, c, l', c', rfl, rfl⟩, .inl rfl, ⟨_, rfl⟩, fun ox oy W => ?_⟩
        rw [rt_bind]
        have hg : runT P (eqGuard .eql t ox oy (.slice a l c) (.slice none l' c')) W = some ((), W) := by
          unfold eqGuard; rfl
        rw [hg, Option.bind_some]
        show runT P (do Pure.pure (.bool (← Op.equal t (.slice a l c) (.slice none l' c'))) : Sem Value) W = _
        rw [rt_bind, equal_depth, rt_equal_sl h2, Option.bind_some, rt_pure]
      · have h0 : v = .bool (!a.isNone) := by cases a <;> cases h <;> rfl
        subst h0
        refine ⟨⟨a, l, c, l', c', rfl, rfl⟩, .inr rfl, ⟨_, rfl⟩, fun ox oy W => ?_⟩
        rw [rt_bind]
        have hg : runT P (eqGuard .neq t ox oy (.slice a l c) (.slice none l' c')) W = some ((), W) := by
          unfold eqGuard; rfl
        rw [hg, Option.bind_some]
        show runT P (do Pure.pure (.bool (!(← Op.equal t (.slice a l c) (.slice none l' c')))) : Sem Value) W = _
        rw [rt_bind, equal_depth, rt_equal_sl h2, Option.bind_some, rt_pure]
      · cases h
    · cases h
  · cases h
theorem mkAp_some {t e z b : Nat} (h : mkAp P t = some (e, z, b)) : ∃ i zv, P.underlying t = some (.slice e) ∧ P.info? e = some i ∧ i.zero = some zv ∧ zv.cells.size = i.size ∧ i.size = z ∧ i.bytes = b := by
  unfold mkAp at h
  split at h
  · rename_i e' i hi
    cases h
    obtain ⟨t', tx, zv, h1, h2, h3, h4, h5, -⟩ := appInfo_some hi
    have : t = t' := by
      have := congrArg (fun a : Array Nat => a[0]?) h1
      simpa using this
    subst this
    exact ⟨i, zv, h2, h3, h4, h5, rfl, rfl⟩
  · cases h
theorem madeL_zero {z : Array Value} (hz : 0 < z.size) (n : Nat) : (Array.range (n * z.size)).map (fun j => z[j % z.size]!) = ⟨madeL z.toList n⟩ := by
  apply Array.ext'
  rw [← madeL_eq z hz n]
theorem rt_newRow {e : TypeId} {cs : List Value} {W W' : Tw} {n : Nat} (h : W.lay ⟨cs, e, false, 0, none⟩ = some (n, W')) : runT P (newRow e ⟨cs⟩) W = some (⟨n, 0, none⟩, W') := by
  show Option.bind (newT (.cells ⟨cs⟩ e (0, 0)) W) _ = _
  simp only [newT, beq_self_eq_true, Bool.and_self, if_true, h]
  rfl
theorem bsR_ok (htb : TbOk P tb) {f : Nat → Value} {t n : Nat} {ps : Array (Nat × Operand)} {o : Oper} (ho : o.op = .buildSlice t n ps) {W : Tw} {r : Next × Tw} (h : bsR tb f t n ps.toList W = some r) : opT P sy f o W = some r := by
  obtain ⟨dst, op, type, pos, after, guard⟩ := o
  simp only at ho
  subst ho
  unfold bsR at h
  split at h
  · rename_i hq
    split at h
    · rename_i e z b ha
      split at h
      · rename_i ti ht
        split at h
        · rename_i hc1 hc2
          rw [Nat.blt_eq] at hc1
          rw [Nat.ble_eq] at hc2
          obtain ⟨i, zv, a1, a2, a3, a4, a5, a6⟩ := mkAp_some (htb.ap _ _ ha)
          obtain ⟨i', d, h1, h2, h3, h4, h5, h6, h7⟩ := mkTI_some (htb.ty e _ ht)
          rw [a2] at h1
          cases h1
          rw [a3] at h3
          cases h3
          rw [fZ_eq, fMade_eq] at h
          obtain ⟨cs, g1, g2⟩ := fillR_ok _ _ _ h
          rw [Tw.layK_eq] at g2
          obtain ⟨m, W', g3, g4⟩ := bind_some g2
          cases g4
          have hparts : (ps.map fun (i, x) => (i, ev f x)).toList = evalP f ps.toList := by
            rw [evalP_eq]; simp
          have hpos : 0 < n * z := hc1
          have hle : n * z ≤ 16777216 := hc2
          have hz : 0 < ti.z.cells.size := by
            rw [a4, a5]
            exact Nat.pos_of_ne_zero fun h0 => by rw [h0] at hpos; simp at hpos
          rw [opT_mem (fun y hy => by
            simp only [Op.operands, List.mem_toArray, List.mem_map] at hy
            obtain ⟨p, hp, rfl⟩ := hy
            exact qdP_all hq p hp) (quietT_op rfl) rfl (by
              have hn : n < big := by
                have : n ≤ n * z := Nat.le_mul_of_pos_right n (by omega)
                unfold big; omega
              simp only [opOk, elemZ, a1, h7, hn, decide_true, Bool.and_self])]
          have hx : execOp (ev f) ⟨dst, .buildSlice t n ps, type, pos, after, guard⟩ = (do Pure.pure (.value (← Instr.buildSlice t n (ps.map fun (i, x) => (i, ev f x))))) := rfl
          rw [hx]
          generalize hps : (ps.map fun (i, x) => (i, ev f x)) = pv at hparts ⊢
          refine rt_v (s := Instr.buildSlice t n pv) ?_
          unfold Instr.buildSlice
          rw [rt_bind, rt_underlying a1, Option.bind_some]
          simp only
          rw [rt_bind, rt_sizeOf a2, Option.bind_some, a5]
          dsimp only
          rw [if_neg (show ¬ n * z > 2 ^ 24 by omega)]
          rw [if_neg (show ¬ n * z = 0 by omega)]
          simp only [rt_bind, rt_zero a2 a3, Option.bind_some, rt_pure]
          have hm : (Array.range (n * z)).map (fun j => ti.z.cells[j % ti.z.cells.size]!) = ⟨madeL ti.z.cells.toList n⟩ := by
            rw [← madeL_zero hz n, a4, a5]
          rw [hm, hparts, g1]
          simp only [rt_bind, rt_newRow g3, Option.bind_some, rt_pure]
        · cases h
      · cases h
    · cases h
  · cases h
theorem mkR_ok (htb : TbOk P tb) {t : TypeId} {x y : Value} {W : Tw} {r : Value × Tw} (h : mkR tb t x y W = some r) : makeT P t x y W = some r := by
  unfold mkR at h
  split at h
  · rename_i e z b ha
    split at h
    · rename_i ti ht
      obtain ⟨q, l, rfl, k1⟩ := asN_some h
      obtain ⟨q', c, rfl, k2⟩ := asN_some k1
      clear h k1
      split at k2
      · rename_i hc1 hc2 hc3
        rw [Nat.ble_eq] at hc1 hc2
        rw [Nat.blt_eq] at hc3
        obtain ⟨i, zv, a1, a2, a3, a4, a5, a6⟩ := mkAp_some (htb.ap _ _ ha)
        obtain ⟨i', d, h1, h2, h3, h4, h5, h6, h7⟩ := mkTI_some (htb.ty e _ ht)
        rw [a2] at h1
        cases h1
        rw [a3] at h3
        cases h3
        rw [fZ_eq, fMade_eq, Tw.layK_eq] at k2
        unfold makeT
        simp only [a1, a2, a3]
        have e1 : (Int.ofNat c).toNat = c := rfl
        have e2 : (Int.ofNat l).toNat = l := rfl
        rw [if_pos]
        · rw [e1, e2]; exact k2
        · have c1 : (0 : Int) ≤ Int.ofNat l := Int.natCast_nonneg l
          have c2 : Int.ofNat l ≤ Int.ofNat c := Int.ofNat_le.2 hc1
          have c3 : Int.ofNat c * ((i.bytes : Int) + 1) ≤ 1099511627776 := by
            have : c * (b + 1) ≤ 1099511627776 := hc2
            rw [a6]
            have h3 : ((c * (b + 1) : Nat) : Int) ≤ ((1099511627776 : Nat) : Int) := Int.ofNat_le.2 this
            rw [Int.natCast_mul, Int.natCast_add] at h3
            exact h3
          have c4 : ti.z.cells.size = i.size := a4
          have c5 : 0 < i.size := by omega
          rw [decide_eq_true c1, decide_eq_true c2, decide_eq_true c3, decide_eq_true c4, decide_eq_true c5, h7]
          rfl
      · cases k2
    · cases h
  · cases h
theorem opR_ok (htb : TbOk P tb) {f : Nat → Value} {o : Oper} {W : Tw} {r : Next × Tw} (h : opR tb f o W = some r) : opT P sy f o W = some r := by
  obtain ⟨dst, op, type, pos, after, guard⟩ := o
  unfold opR at h
  cases op <;> dsimp only at h <;> try (cases h)
  case binOp b t x y z =>
    split at h
    · rename_i hq
      simp only [Bool.and_eq_true] at hq
      cases hv : eqR tb b t (ev f x) (ev f y) with
      | none => rw [hv] at h; cases h
      | some v =>
        rw [hv] at h
        cases h
        obtain ⟨⟨a, l, c, l', c', e1, e2⟩, hb, ⟨q, rfl⟩, e3⟩ := eqR_ok htb hv
        have hr : ∀ W, runT P (execOp (ev f) ⟨dst, .binOp b t x y z, type, pos, after, guard⟩) W = some (.value (.bool q), W) := fun W => rt_v (e3 x y W)
        refine opT_pure (fun w hw => by
          simp only [Op.operands, List.mem_toArray, List.mem_cons, List.not_mem_nil, or_false] at hw
          rcases hw with hw | hw <;> rw [hw]
          · exact qd_ok hq.1
          · exact qd_ok hq.2) hr rfl ?_
        cases a with
        | some a =>
          left
          simp only [opOk, e1, e2]
          rcases hb with rfl | rfl <;> rfl
        | none =>
          right
          refine quiet_plain rfl ?_ rfl hr
          refine ops2 (p := fun x => plainD depth (ev f x)) (x := x) (y := y) rfl ?_ ?_
          · show plainD depth (ev f x) = true
            rw [e1]; rfl
          · show plainD depth (ev f y) = true
            rw [e2]; rfl
    · cases h
  case unOp u t x =>
    split at h
    · split at h
      · rename_i hq
        split at h
        · rename_i b hb
          have h0 : r = (.value (.bool (!b)), W) := by cases b <;> cases h <;> rfl
          subst h0
          have hr : ∀ W, runT P (execOp (ev f) ⟨dst, .unOp .not t x, type, pos, after, guard⟩) W = some (.value (.bool (!b)), W) := fun W => rt_v (s := Op.unary .not (ev f x)) (by rw [hb]; rfl)
          refine opT_pure (fun w hw => by
            simp only [Op.operands, List.mem_toArray, List.mem_singleton] at hw
            rw [hw]; exact qd_ok hq) hr rfl (.inr (quiet_plain rfl ?_ rfl hr))
          simp [Op.operands, hb, plainD, depth]
        · cases h
      · cases h
    · cases h
  case build t ps =>
    refine opQ_eq htb ?_
    show buQ tb f t ps W = some r
    unfold buR at h
    unfold buQ
    split at h
    · rename_i hq
      rw [if_pos hq]
      split at h
      · rename_i sz ag fs z ht
        rw [fZ_eq] at h
        obtain ⟨cs, g1, g2⟩ := fillR_ok _ _ _ h
        simp only [ht]
        have g1' : Instr.fill (fun i => (getX fs i).map fun p => (p.1, p.2.1)) z.cells (evalP f ps.toList) = some ⟨cs⟩ := g1
        rw [g1']
        exact g2
      · rename_i sz ag n e z ht
        rw [fZ_eq] at h
        obtain ⟨cs, g1, g2⟩ := fillR_ok _ _ _ h
        simp only [ht]
        have g1' : Instr.fill (fun i => some (i * e, e)) z.cells (evalP f ps.toList) = some ⟨cs⟩ := g1
        rw [g1']
        exact g2
      · cases h
    · cases h
  case buildSlice t n ps => exact bsR_ok htb rfl h
  case makeSlice t x y =>
    split at h
    · rename_i hq
      simp only [Bool.and_eq_true] at hq
      obtain ⟨v, W1, h1, h2⟩ := bind_some h
      cases h2
      have hm := mkR_ok htb h1
      unfold opT
      rw [if_pos (by
        rw [Array.all_eq_true_iff_forall_mem]
        intro w hw
        simp only [Op.operands, List.mem_toArray, List.mem_cons, List.not_mem_nil, or_false] at hw
        rcases hw with hw | hw <;> rw [hw]
        · exact qd_ok hq.1
        · exact qd_ok hq.2), quietT_op rfl]
      have e1 : exT P f ⟨dst, .makeSlice t x y, type, pos, after, guard⟩ = none := by
        unfold exT
        simp [exOp]
      have e2 : spT P (ev f) ⟨dst, .makeSlice t x y, type, pos, after, guard⟩ W = some (v, W1) := hm
      simp only [spFirst, Bool.not_true, Bool.false_and, Bool.false_eq_true, if_false, e1, syOp, havK, e2, Option.bind_some]
    · cases h
  case call c =>
    obtain ⟨cl, args, ats⟩ := c
    cases cl <;> dsimp only at h <;> try (cases h)
    case builtin b =>
      have two : ∀ (bi : Builtin) (x y : Operand) (v : Value), args = #[x, y] → qd x = true → qd y = true → (∃ q m, ev f x = .int q m) → (∃ q m, ev f y = .int q m) → (∃ q m, v = .int q m) →
          (∀ W, runT P (execOp (ev f) ⟨dst, .call ⟨.builtin bi, args, ats⟩, type, pos, after, guard⟩) W = some (.value v, W)) → opT P sy f ⟨dst, .call ⟨.builtin bi, args, ats⟩, type, pos, after, guard⟩ W = some (.value v, W) := by
        rintro bi x y v rfl hx hy ⟨q, m, ex⟩ ⟨q', m', ey⟩ ⟨q2, m2, rfl⟩ hr
        refine opT_pure (fun w hw => by
          simp only [Op.operands, Call.operands, List.mem_toArray, Array.mem_append, List.mem_cons, List.not_mem_nil, false_or, or_false] at hw
          rcases hw with hw | hw <;> rw [hw]
          · exact qd_ok hx
          · exact qd_ok hy) hr rfl (.inr (quiet_plain rfl ?_ rfl hr))
        refine ops2 (p := fun x => plainD depth (ev f x)) (x := x) (y := y) (by simp [Op.operands, Call.operands]) ?_ ?_
        · show plainD depth (ev f x) = true
          rw [ex]; rfl
        · show plainD depth (ev f y) = true
          rw [ey]; rfl
      have mm : ∀ {mx : Bool} {x y v : Value}, mmR mx x y = some v → ∃ q m q' n, x = .int q (.ofNat m) ∧ y = .int q' (.ofNat n) ∧ v = .int q (if (if mx then Nat.blt m n else Nat.blt n m) then .ofNat n else .ofNat m) := by
        intro mx x y v hv
        unfold mmR at hv
        obtain ⟨q, m, rfl, k1⟩ := asN_some hv
        obtain ⟨q', n, rfl, k2⟩ := asN_some k1
        refine ⟨q, m, q', n, rfl, rfl, ?_⟩
        cases mx with
        | false =>
          simp only at k2
          cases hb : Nat.blt n m <;> rw [hb] at k2 <;> cases k2 <;> simp
        | true =>
          simp only at k2
          cases hb : Nat.blt m n <;> rw [hb] at k2 <;> cases k2 <;> simp
      cases b <;> dsimp only at h <;> try (cases h)
      case len =>
        split at h
        · rename_i x t hl hts
          split at h
          · rename_i hq
            cases hv : lnR tb t (ev f x) with
            | none => rw [hv] at h; cases h
            | some v =>
              rw [hv] at h
              cases h
              obtain ⟨l⟩ := args
              have hl' : l = [x] := hl
              subst hl'
              have hats : ats[0]? = some t := by
                rw [← Array.getElem?_toList, hts]; rfl
              refine opT_pure (fun y hy => by
                simp only [Op.operands, Call.operands, List.mem_toArray, Array.mem_append, List.mem_singleton, List.not_mem_nil, false_or] at hy
                rw [hy]; exact qd_ok hq) (fun W => ?_) rfl (.inl (by
                  have hn : noSyV (ev f x) = true := by
                    unfold lnR at hv
                    split at hv
                    · split at hv
                      · rename_i hx; rw [hx]; rfl
                      · cases hv
                    · split at hv
                      · rename_i hx; rw [hx]; rfl
                      · cases hv
                    · cases hv
                  simp [opOk, hn]))
              have e : Array.map (ev f) #[x] = #[ev f x] := by simp
              show runT P (do let d ← resolve (ev f) ⟨.builtin .len, #[x], ats⟩ type; invoke d.target d.args) W = _
              unfold resolve
              simp only [e]
              refine rt_v (s := Builtin.len_ ats type #[ev f x]) ?_
              unfold Builtin.len_
              unfold lnR at hv
              split at hv
              · rename_i sz ag e' z ht
                obtain ⟨i, d, h1, h2, h3, h4, h5, h6, h7⟩ := mkTI_some (htb.ty t _ ht)
                obtain ⟨et, i', rfl, e1, e2⟩ := kdI_sl h6
                split at hv
                · rename_i a n c hx
                  cases hv
                  simp only [hats, hx]
                  show runT P (do let d ← Go.underlying t; _) W = _
                  rw [rt_bind, rt_underlying h2, Option.bind_some]
                  rfl
                · cases hv
              · rename_i sz ag z ht
                obtain ⟨i, d, h1, h2, h3, h4, h5, h6, h7⟩ := mkTI_some (htb.ty t _ ht)
                have hd : d = .string := by
                  unfold kdI at h6
                  split at h6
                  all_goals first | rfl | (split at h6 <;> cases h6) | cases h6
                subst hd
                split at hv
                · rename_i s hx
                  rw [fN_eq] at hv
                  cases hv
                  simp only [hats, hx]
                  show runT P (do let d ← Go.underlying t; _) W = _
                  rw [rt_bind, rt_underlying h2, Option.bind_some]
                  rfl
                · cases hv
              · cases hv
          · cases h
        · cases h
      case max =>
        split at h
        · rename_i x y hl
          split at h
          · rename_i hq
            simp only [Bool.and_eq_true] at hq
            cases hv : mmR true (ev f x) (ev f y) with
            | none => rw [hv] at h; cases h
            | some v =>
              rw [hv] at h
              cases h
              obtain ⟨q, m, q', n, ex, ey, rfl⟩ := mm hv
              obtain ⟨l⟩ := args
              have hl' : l = [x, y] := hl
              subst hl'
              refine two .max x y _ rfl hq.1 hq.2 ⟨_, _, ex⟩ ⟨_, _, ey⟩ ⟨_, _, rfl⟩ fun W => ?_
              have e : Array.map (ev f) #[x, y] = #[ev f x, ev f y] := by simp
              show runT P (do let d ← resolve (ev f) ⟨.builtin .max, #[x, y], ats⟩ type; invoke d.target d.args) W = _
              unfold resolve
              simp only [e]
              refine rt_v (s := Builtin.max_ ats type #[ev f x, ev f y]) ?_
              unfold Builtin.max_
              simp only [ex, ey, List.foldlM_cons, List.foldlM_nil, rt_bind]
              have : runT P (Builtin.max2 (.int q (.ofNat m)) (.int q' (.ofNat n))) W = some (.int q (if (if true = true then Nat.blt m n else Nat.blt n m) then .ofNat n else .ofNat m), W) := by
                unfold Builtin.max2
                rw [rt_pure]
                congr 3
                simp only [if_true, Nat.blt_eq]
                by_cases hlt : m < n
                · have h2 : Int.ofNat n > Int.ofNat m := Int.ofNat_lt.2 hlt
                  rw [if_pos hlt, if_pos h2]
                · have h2 : ¬ Int.ofNat n > Int.ofNat m := fun hc => hlt (Int.ofNat_lt.1 hc)
                  rw [if_neg hlt, if_neg h2]
              rw [this]
              rfl
          · cases h
        · cases h
      case min =>
        split at h
        · rename_i x y hl
          split at h
          · rename_i hq
            simp only [Bool.and_eq_true] at hq
            cases hv : mmR false (ev f x) (ev f y) with
            | none => rw [hv] at h; cases h
            | some v =>
              rw [hv] at h
              cases h
              obtain ⟨q, m, q', n, ex, ey, rfl⟩ := mm hv
              obtain ⟨l⟩ := args
              have hl' : l = [x, y] := hl
              subst hl'
              refine two .min x y _ rfl hq.1 hq.2 ⟨_, _, ex⟩ ⟨_, _, ey⟩ ⟨_, _, rfl⟩ fun W => ?_
              have e : Array.map (ev f) #[x, y] = #[ev f x, ev f y] := by simp
              show runT P (do let d ← resolve (ev f) ⟨.builtin .min, #[x, y], ats⟩ type; invoke d.target d.args) W = _
              unfold resolve
              simp only [e]
              refine rt_v (s := Builtin.min_ ats type #[ev f x, ev f y]) ?_
              unfold Builtin.min_
              simp only [ex, ey, List.foldlM_cons, List.foldlM_nil, rt_bind]
              have : runT P (Builtin.min2 (.int q (.ofNat m)) (.int q' (.ofNat n))) W = some (.int q (if (if false = true then Nat.blt m n else Nat.blt n m) then .ofNat n else .ofNat m), W) := by
                unfold Builtin.min2
                rw [rt_pure]
                congr 3
                simp only [Bool.false_eq_true, if_false, Nat.blt_eq]
                by_cases hlt : n < m
                · have h2 : Int.ofNat n < Int.ofNat m := Int.ofNat_lt.2 hlt
                  rw [if_pos hlt, if_pos h2]
                · have h2 : ¬ Int.ofNat n < Int.ofNat m := fun hc => hlt (Int.ofNat_lt.1 hc)
                  rw [if_neg hlt, if_neg h2]
              rw [this]
              rfl
          · cases h
        · cases h
end
end Mir

