import Derived.Test.YtmaiomgopbjfoaaGreatDoorK2
import Derived.Laws.MakeOwn
import Derived.Orders
import Derived.Below
import Derived.Deep.LoopGhost
set_option linter.all false
namespace Mir
open Go

/-! ## Operations with rules of their own -/
/-- A string's bytes in a row. -/
noncomputable def strT (e : TypeId) (s : ByteArray) (W : Tw) : Option (Value × Tw) :=
  (W.lay ⟨byteCells s, e, true, 1, none⟩).bind fun p => some (.slice (some ⟨p.1, 0, none⟩) s.size (big + s.size), p.2)
theorem Local.strT (e : TypeId) (s : ByteArray) : Local (Mir.strT e s) := Local.bind (Local.lay _) fun n => Local.ret (Value.slice (some ⟨n, 0, none⟩) s.size (big + s.size))
/-- Bytes as bytes of the same type. -/
noncomputable def markT (a : Addr) (x : Value) (W : Tw) : Option (Value × Tw) := (W.look a.block).bind fun p => (match p.1.ob with
  | none => some x
  | some _ => none).map fun v => (v, p.2)
theorem Local.markT (a : Addr) (x : Value) : Local (Mir.markT a x) := Local.map (Local.look a.block) fun r => match r.ob with
  | none => some x
  | some _ => none
noncomputable def idxT (d : Nat) : Option Value → Option Nat
  | none => some d
  | some (.int _ i) => if 0 ≤ i then some i.toNat else none
  | some _ => none
/-- A part of an open slice. -/
noncomputable def partV (a : Addr) (z l c : Nat) (lo hi mx : Option Value) : Option Value :=
  match mx with
  | none => match idxT l hi, idxT 0 lo with
    | some h, some k => if k ≤ h && decide (h ≤ c) && decide (k < c) then some (.slice (some (a.add (k * z))) (h - k) (big + (c - k))) else none
    | _, _ => none
  | some m => match hi, idxT c (some m), idxT l hi, idxT 0 lo with
    | some _, some m, some h, some k => if k ≤ h && decide (h ≤ m) && decide (m ≤ c) && decide (m < big) then some (.slice (some (if m = k then a else a.add (k * z))) (h - k) (m - k)) else none
    | _, _, _, _ => none
noncomputable def partT (a : Addr) (z l c : Nat) (lo hi mx : Option Value) (W : Tw) : Option (Value × Tw) := (W.look a.block).bind fun p => (match p.1.ob with
  | none => if p.1.op && decide (p.1.z = z) then partV a z l c lo hi mx else none
  | some _ => none).map fun v => (v, p.2)
theorem Local.partT (a : Addr) (z l c : Nat) (lo hi mx : Option Value) : Local (Mir.partT a z l c lo hi mx) := Local.map (Local.look a.block) fun r => match r.ob with
  | none => if r.op && decide (r.z = z) then partV a z l c lo hi mx else none
  | some _ => none
/-- A row of zero values. -/
noncomputable def madeL (zs : List Value) : Nat → List Value
  | 0 => []
  | n + 1 => zs ++ madeL zs n
noncomputable def makeT (P : Program) (t : TypeId) (x y : Value) (W : Tw) : Option (Value × Tw) := match P.underlying t with
  | some (.slice e) => match P.info? e with
    | some i => match i.zero, x, y with
      | some z, .int _ l, .int _ c => if decide (0 ≤ l) && decide (l ≤ c) && decide (c * (i.bytes + 1) ≤ 1099511627776) && decide (z.cells.size = i.size) && decide (0 < i.size) && zeroOk P e then
          (W.lay ⟨madeL z.cells.toList c.toNat, e, false, 0, none⟩).bind fun p => some (.slice (some ⟨p.1, 0, none⟩) l.toNat c.toNat, p.2)
        else none
      | _, _, _ => none
    | none => none
  | _ => none
theorem Local.makeT (P : Program) (t : TypeId) (x y : Value) : Local (Mir.makeT P t x y) := by
  unfold Mir.makeT
  repeat' split
  all_goals first | exact Local.fails | exact Local.bind (Local.lay _) fun n => Local.ret (Value.slice (some ⟨n, 0, none⟩) _ _)
noncomputable def spT (P : Program) (ev : Operand → Value) (o : Oper) (W : Tw) : Option (Value × Tw) := match o.op with
  | .call c => match c.callee with
    | .builtin .append => match c.args.toList with
      | [x, y] => appT P c.argTypes (ev x) (ev y) W
      | _ => none
    | _ => none
  | .convert s d x => match P.underlying d with
    | some (.slice e) => match P.underlying e with
      | some (.int .u8) => match ev x with
        | .string b => match P.underlying s with
          | some _ => strT e b W
          | none => none
        | .slice (some a) l c => match P.underlying s with
          | some (.slice _) => if s == d then markT a (.slice (some a) l c) W else none
          | _ => none
        | _ => none
      | _ => none
    | _ => none
  | .makeSlice t x y => makeT P t (ev x) (ev y) W
  | .slice t x lo hi mx => match ev x with
    | .slice (some a) l c => if c < big then none else match P.underlying t with
      | some (.slice e) => match P.info? e with
        | some i => partT a i.size l (c - big) (lo.map ev) (hi.map ev) (mx.map ev) W
        | none => none
      | _ => none
    | _ => none
  | _ => none
theorem Local.spT (P : Program) (ev : Operand → Value) (o : Oper) : Local (Mir.spT P ev o) := by
  unfold Mir.spT
  repeat' split
  all_goals first | exact Local.fails | exact Local.appT _ _ _ _ | exact Local.strT _ _ | exact Local.markT _ _ | exact Local.makeT _ _ _ _ | exact Local.partT _ _ _ _ _ _ _

section
variable {P : Program} {w0 : Bs} {ρ : Ren}
/-- What a rule of its own says. -/
noncomputable def SpS (P : Program) (w0 : Bs) (ρ : Ren) (W : Tw) (w : World) (v : Value) (W' : Tw) (t : Sem Value) : Prop :=
  ∃ ρ2 y w', ρ.le ρ2 ∧ (∀ n, ρ2.dom n → ρ.dom n ∨ (W.nx ≤ n ∧ n < W'.nx)) ∧ WR w0 ρ2 W' w' ∧ t.run P w = .ok y w' ∧ VR ρ2 v y ∧ W.nx ≤ W'.nx ∧ W'.lim = W.lim

/-- One name's block changes where no cell is. -/
theorem WR.touch {W : Tw} {w w' : World} (h : WR w0 ρ W w) {n : Nat} {r : Row} (hg : W.get n = some r) (hq : RR ρ n r w') (hh : ∀ b, b ≠ ρ.b n → w'.heap[b]? = w.heap[b]?) (hsz : w'.heap.size = w.heap.size)
    (hos : w'.os = w.os) (ht : w'.tape = w.tape) (ho : w'.output = w.output) : WR w0 ρ W w' := by
  refine (h.upd hg hq hh hsz hos ht ho).same ⟨fun m => ?_, rfl, rfl⟩
  rw [Tw.get_set W (Tw.get_lt hg)]
  split
  · rename_i hm; rw [hm, hg]
  · rfl
theorem freeze_far {w : World} {b : Nat} {c : Array Value} {e : TypeId} {lo hi : Nat} (hg : w.heap[b]? = some (.cells c e (lo, hi))) (hf : lo = hi ∨ c.size ≤ lo) :
    ∃ lo' hi', (w.freeze ⟨b, c.size, none⟩ 1).heap[b]? = some (.cells c e (lo', hi')) ∧ (lo' = hi' ∨ c.size ≤ lo') := by
  unfold World.freeze
  rw [if_neg (by omega)]
  simp only [Array.getElem?_modify, hg, if_true, Option.map_some]
  by_cases hl : lo == hi
  · rw [if_pos hl]; exact ⟨_, _, rfl, .inr (Nat.le_refl _)⟩
  · rw [if_neg hl]
    refine ⟨_, _, rfl, .inr ?_⟩
    rcases hf with hf | hf
    · exact absurd (by simpa using hf) hl
    · omega
theorem run_markStringish {w : World} {a : Addr} {c : Array Value} {e : TypeId} {f : Nat × Nat} (hg : w.heap[a.block]? = some (.cells c e f)) : (markStringish a).run P w = .ok () (w.freeze ⟨a.block, c.size, none⟩ 1) := by
  unfold markStringish
  show (Sem.bind _ _).run P w = _
  simp only [Go.shape, Sem.bind, Sem.run, World.shape?, hg]
  rfl
theorem mark_sound {a : Addr} {x y : Value} {W W' : Tw} {w : World} {v : Value} (h : WR w0 ρ W w) (hd : ρ.dom a.block) (hx : VR ρ x y) (hr : markT a x W = some (v, W')) : SpS P w0 ρ W w v W' (do markStringish (ρ.adr a); pure y) := by
  obtain ⟨r, W1, h1, h2⟩ := bind_some hr
  obtain ⟨hg, rfl⟩ := look_some h1
  simp only at h2
  split at h2
  · rename_i ho
    cases h2
    obtain ⟨c, lo, hi, m1, m2, m3, m4⟩ := (h.row _ _ hg).row ho
    obtain ⟨lo', hi', f1, f2⟩ := freeze_far m1 m3
    obtain ⟨e1, e2, e3, e4, e5⟩ := freeze_heap (w := w) (a := ⟨ρ.b a.block, c.size, none⟩) (n := 1)
    refine ⟨ρ, y, w.freeze ⟨ρ.b a.block, c.size, none⟩ 1, .rfl', fun n hn => .inl hn, ?_, ?_, hx, Nat.le_refl _, rfl⟩
    · exact (h.touch hg ⟨fun _ => ⟨c, lo', hi', f1, m2, f2, m4⟩, fun o h => by rw [ho] at h; cases h⟩ e5 e4 e1 e2 e3).read _
    · have hm := run_markStringish (P := P) (w := w) (a := ρ.adr a) (c := c) m1
      show (Sem.bind _ _).run P w = _
      rw [run_bind, hm]
      rfl
  · cases h2
theorem str_sound {e : TypeId} {s : ByteArray} {W W' : Tw} {w : World} {v : Value} (h : WR w0 ρ W w) (hr : strT e s W = some (v, W')) : SpS P w0 ρ W w v W' (Conv.stringToBytes e s) := by
  obtain ⟨n, W1, h1, h2⟩ := bind_some hr
  obtain ⟨hx, rfl, rfl⟩ := lay_some h1
  cases h2
  have hd := h.drew
  have hle := ρ.le_exs (n := W.nx) (b := w.heap.size) (s := 0) (L := s.size) (x := grownCap w s.size 0 e - s.size) (z := 1) (h.free W.nx (Nat.le_refl _) hx)
  have hcap : s.size ≤ grownCap w s.size 0 e := grownCap_le w
  generalize hC : (s.data.map fun b => Value.int .u8 b.toNat) ++ Array.replicate (grownCap w s.size 0 e - s.size) (Value.int .u8 0) = C
  have hCs : C.size = grownCap w s.size 0 e := by
    rw [← hC]; simp; show s.size + _ = _; omega
  have hG : (w.drew.alloc (.cells C e (0, 0))).heap[w.heap.size]? = some (.cells C e (0, 0)) := by show (w.heap.push _)[_]? = _; simp
  obtain ⟨lo', hi', f1, f2⟩ := freeze_far hG (.inl rfl)
  obtain ⟨e1, e2, e3, e4, e5⟩ := freeze_heap (w := w.drew.alloc (.cells C e (0, 0))) (a := ⟨w.heap.size, C.size, none⟩) (n := 1)
  refine ⟨ρ.exs W.nx w.heap.size 0 s.size (grownCap w s.size 0 e - s.size) 1, .slice (some ⟨w.heap.size, 0, none⟩) s.size (grownCap w s.size 0 e), (w.drew.alloc (.cells C e (0, 0))).freeze ⟨w.heap.size, C.size, none⟩ 1, hle, fun k hk => ?_, ?_, ?_, ?_, Nat.le_succ _, rfl⟩
  · rcases hk with hk | hk
    · exact .inl hk
    · exact .inr ⟨by omega, by show k < W.nx + 1; omega⟩
  · refine WR.wrote ?_ _
    refine hd.name (fun m r hm => h.fresh m r hm) h.size ⟨fun _ => ⟨C, lo', hi', ?_, ?_, f2, ?_, ?_, ?_⟩, fun o h => by cases h⟩ (fun b hb hne => ?_) (by rw [e4]; show w.heap.size ≤ (w.heap.push _).size; simp) (by rw [e1]; rfl) (by rw [e2]; rfl) (by rw [e3]; rfl) hx
    · simpa [Ren.exs] using f1
    · simp only [Ren.exs, if_true, hCs, byteCells_length]; omega
    · intro j hj
      have hj2 : j < s.size := by rw [← byteCells_length s]; exact hj
      have hj3 : j < s.data.size := hj2
      have : C.getD ((ρ.exs W.nx w.heap.size 0 s.size (grownCap w s.size 0 e - s.size) 1).s W.nx + j) undef = (byteCells s)[j] := by
        simp only [Ren.exs, if_true, Nat.zero_add]
        rw [← hC, Array.getD_eq_getD_getElem?, Array.getElem?_append_left (by simpa using hj3)]
        simp [byteCells]
        rw [Array.getElem?_eq_getElem hj3]; rfl
      rw [this]
      obtain ⟨q, _, hq⟩ := List.mem_map.1 (List.getElem_mem hj)
      dsimp only
      rw [← hq]
      exact .int _ _
    · simp [Ren.exs, byteCells_length]
    · exact ⟨fun h => by (cases h), fun _ => by simp [Ren.exs]⟩
    · rw [e5 b (by show b ≠ w.heap.size; omega)]
      show (w.heap.push _)[_]? = _
      rw [Array.getElem?_push, if_neg (by have : b < w.heap.size := hb; omega)]
      rfl
  · unfold Conv.stringToBytes
    show (Sem.bind _ _).run P w = _
    rw [run_bind]
    have hch : (Go.choose (.appendCap s.size 0 e)).run P w = .ok (grownCap w s.size 0 e) w.drew := by
      simp [Go.choose, Sem.run, Question.forced, grownCap]
    rw [hch]
    dsimp only
    show (Sem.bind _ _).run P _ = _
    rw [run_bind]
    have hnw : (newRow e ((s.data.map fun b => Value.int .u8 b.toNat) ++ Array.replicate (grownCap w s.size 0 e - s.size) (Value.int .u8 0))).run P w.drew = .ok ⟨w.heap.size, 0, none⟩ (w.drew.alloc (.cells C e (0, 0))) := by
      rw [hC]; rfl
    rw [hnw]
    dsimp only
    show (Sem.bind _ _).run P _ = _
    rw [run_bind, run_markStringish hG]
    rfl
  · have hv := VR.slo (ρ := ρ.exs W.nx w.heap.size 0 s.size (grownCap w s.size 0 e - s.size) 1) ⟨W.nx, 0, none⟩ s.size s.size (.inr rfl) (by simp [Ren.exs])
    have f1 : (ρ.exs W.nx w.heap.size 0 s.size (grownCap w s.size 0 e - s.size) 1).adr ⟨W.nx, 0, none⟩ = ⟨w.heap.size, 0, none⟩ := by simp [Ren.adr, Ren.exs]
    have f2 : s.size + (ρ.exs W.nx w.heap.size 0 s.size (grownCap w s.size 0 e - s.size) 1).x W.nx = grownCap w s.size 0 e := by simp only [Ren.exs, if_true]; omega
    rw [f1] at hv
    simp only [f2] at hv
    exact hv

theorem idx_run {d n : Nat} {v v' : Option Value} {k : Nat} (c : BoundsCode) (hv : OV ρ v v') (h : idxT d v = some k) (hk : k ≤ n) (hd : v = none → d = k → True) :
    (match v' with
      | some v => Instr.sliceBound v n c
      | none => (pure d : Sem Nat)) = pure k := by
  cases hv with
  | none => simp only [idxT, Option.some.injEq] at h; subst h; rfl
  | some hv =>
    cases hv <;> simp only [idxT] at h <;> try cases h
    split at h
    · rename_i k' i hi
      cases h
      show (Sem.bind _ _) = _
      simp only [asIntOf]
      show (if 0 ≤ i ∧ i ≤ n then (pure i.toNat : Sem Nat) else _) = _
      rw [if_pos ⟨hi, by omega⟩]
    · cases h
theorem slice_run {b : Bool} {l cap k h m : Nat} {lo hi mx lo' hi' mx' : Option Value} (h1 : OV ρ lo lo') (h2 : OV ρ hi hi') (h3 : OV ρ mx mx') (hm : (mx = none ∧ m = cap) ∨ (∃ v, mx = some v ∧ idxT cap (some v) = some m ∧ m ≤ cap ∧ ∃ u, hi = some u))
    (hh : idxT l hi = some h) (hk : idxT 0 lo = some k) (hkh : k ≤ h) (hhm : h ≤ m) : Instr.sliceBounds b l cap lo' hi' mx' = pure (k, h, m) := by
  have low : ∀ c : BoundsCode,
      (do let l ← match lo' with
            | some v => Instr.sliceBound v h c
            | none => pure 0
          pure (l, h, m)) = (Pure.pure (k, h, m) : Sem (Nat × Nat × Nat)) := by
    intro c
    have e := idx_run c h1 hk hkh fun _ _ => trivial
    cases h1 with
    | none => simp only [idxT, Option.some.injEq] at hk; subst hk; rfl
    | some hv =>
      simp only at e
      show (Sem.bind (Instr.sliceBound _ h c) _) = _
      rw [e]; rfl
  unfold Instr.sliceBounds
  rcases hm with ⟨rfl, rfl⟩ | ⟨v, rfl, hv, hmc, u, rfl⟩
  · cases h3
    cases h2 with
    | none =>
      simp only [idxT, Option.some.injEq] at hh
      subst hh
      exact low _
    | some hu =>
      have e := idx_run (ρ := ρ) (n := m) (if b = true then BoundsCode.sliceAcap else BoundsCode.sliceAlen) (OV.some hu) hh hhm fun _ _ => trivial
      simp only at e
      show (Sem.bind (Instr.sliceBound _ m (if b = true then BoundsCode.sliceAcap else BoundsCode.sliceAlen)) _) = _
      rw [e]
      exact low _
  · cases h3 with
    | some hv' =>
      cases h2 with
      | some hu =>
        have e := idx_run (ρ := ρ) (n := m) .slice3B (OV.some hu) hh hhm fun _ _ => trivial
        have e2 := idx_run (ρ := ρ) (n := cap) (if b = true then BoundsCode.slice3Acap else BoundsCode.slice3Alen) (OV.some hv') hv hmc fun _ _ => trivial
        simp only at e e2
        show (Sem.bind _ _) = _
        rw [e2]
        show (Sem.bind (Instr.sliceBound _ m BoundsCode.slice3B) _) = _
        rw [e]
        exact low _

theorem part_sound {t elem : TypeId} {i : TypeInfo} {a : Addr} {l c : Nat} {lo hi mx lo' hi' mx' : Option Value} {W W' : Tw} {w : World} {v : Value} (h : WR w0 ρ W w) (hd : ρ.dom a.block) (he : a.off + c * ρ.z a.block = ρ.L a.block)
    (ht : P.underlying t = some (.slice elem)) (hi0 : P.info? elem = some i) (h1 : OV ρ lo lo') (h2 : OV ρ hi hi') (h3 : OV ρ mx mx') (hr : partT a i.size l c lo hi mx W = some (v, W')) :
    SpS P w0 ρ W w v W' (Instr.sliceAt t (.slice (some (ρ.adr a)) l (c + ρ.x a.block)) lo' hi' mx') := by
  obtain ⟨r, W1, g1, g2⟩ := bind_some hr
  obtain ⟨hg, rfl⟩ := look_some g1
  simp only at g2
  have hsize : (Go.sizeOf elem : Sem Nat).run P w = .ok i.size w := by
    show ((Go.typeInfo elem).bind _).run P w = _
    rw [run_bind]
    have : (Go.typeInfo elem).run P w = .ok i w := by
      show (Sem.bind _ _).run P w = _
      simp only [Go.program, Sem.bind, Sem.run, hi0]
      rfl
    rw [this]; rfl
  have hund : (Go.underlying t : Sem TypeDesc).run P w = .ok (.slice elem) w := by
    show (Sem.bind _ _).run P w = _
    simp only [Go.program, Sem.bind, Sem.run, ht]
    rfl
  have fin : ∀ k h m, Instr.sliceBounds true l (c + ρ.x a.block) lo' hi' mx' = pure (k, h, m) →
      (Instr.sliceAt t (.slice (some (ρ.adr a)) l (c + ρ.x a.block)) lo' hi' mx').run P w = .ok (.slice (if m = k then some (ρ.adr a) else some ((ρ.adr a).add (k * i.size))) (h - k) (m - k)) w := by
    intro k h m hb
    unfold Instr.sliceAt
    show (Sem.bind _ _).run P w = _
    rw [run_bind, hund]
    simp only
    unfold Instr.slice
    show (Sem.bind _ _).run P w = _
    rw [run_bind, hund]
    simp only
    show (Sem.bind _ _).run P w = _
    rw [hb]
    show ((Go.sizeOf elem).bind _).run P w = _
    rw [run_bind, hsize]
    rfl
  cases hro : r.ob with
  | some o => rw [hro] at g2; cases g2
  | none =>
    rw [hro] at g2
    simp only at g2
    split at g2
    · rename_i hc
      simp only [Bool.and_eq_true, decide_eq_true_eq] at hc
      obtain ⟨_, _, _, _, _, _, _, _, _, hz⟩ := (h.row _ _ hg).row hro
      have hz := hz hc.1
      have hzz : ρ.z a.block = i.size := by rw [hz]; exact hc.2
      unfold partV at g2
      cases h3 with
      | none =>
        simp only at g2
        split at g2
        · rename_i hh k e1 e2
          split at g2
          · rename_i hc2
            simp only [Bool.and_eq_true, decide_eq_true_eq] at hc2
            cases g2
            refine ⟨ρ, _, w, .rfl', fun n hn => .inl hn, h.read _, fin k hh (c + ρ.x a.block) (slice_run h1 h2 .none (.inl ⟨rfl, rfl⟩) e1 e2 hc2.1.1 (by omega)), ?_, Nat.le_refl _, rfl⟩
            rw [if_neg (by omega), ← Ren.adr_add]
            have e3 : (a.add (k * i.size)).block = a.block := add_block _ _
            have hv := VR.slo (ρ := ρ) (a.add (k * i.size)) (hh - k) (c - k) (by rw [e3]; exact hd) (by
              rw [e3, hzz]
              rw [hzz] at he
              have : (a.add (k * i.size)).off = a.off + k * i.size := by
                unfold Addr.add
                split
                · rename_i h0; rw [h0]; rfl
                · rfl
              rw [this, Nat.add_assoc, ← Nat.add_mul, show k + (c - k) = c by omega]
              exact he)
            rw [e3] at hv
            rw [show c + ρ.x a.block - k = c - k + ρ.x a.block by omega]
            exact hv
          · cases g2
        · cases g2
      | some hm =>
        cases h2 with
        | none => cases g2
        | some hu =>
          simp only at g2
          split at g2
          · rename_i u0 m hh k e0 e1 e2 e3
            have e1' : ∀ d v, idxT d (some v) = idxT c (some v) := fun d v => by cases v <;> rfl
            split at g2
            · rename_i hc2
              simp only [Bool.and_eq_true, decide_eq_true_eq] at hc2
              cases g2
              refine ⟨ρ, _, w, .rfl', fun n hn => .inl hn, h.read _, fin k hh m (slice_run h1 (.some hu) (.some hm) (.inr ⟨_, rfl, by rw [e1']; exact e1, by omega, _, rfl⟩) e2 e3 hc2.1.1.1 hc2.1.1.2), ?_, Nat.le_refl _, rfl⟩
              split
              · exact .sl a _ _ hd (by omega)
              · rw [← Ren.adr_add]
                exact .sl _ _ _ (by rw [add_block]; exact hd) (by omega)
            · cases g2
          · cases g2
    · cases g2

theorem madeL_eq (z : Array Value) (hz : 0 < z.size) : ∀ n : Nat, madeL z.toList n = ((Array.range (n * z.size)).map fun j => z[j % z.size]!).toList := by
  have hlen : ∀ n, (madeL z.toList n).length = n * z.size := by
    intro n
    induction n with
    | zero => simp [madeL]
    | succ n ih => simp [madeL, ih, Nat.add_mul, Nat.add_comm]
  have key : ∀ n k, k < n * z.size → (madeL z.toList n)[k]? = some z[k % z.size]! := by
    intro n
    induction n with
    | zero => intro k hk; simp at hk
    | succ n ih =>
      intro k hk
      simp only [madeL]
      by_cases h : k < z.size
      · rw [List.getElem?_append_left (by simpa using h)]
        have : k % z.size = k := Nat.mod_eq_of_lt h
        rw [this]
        simp [h]
      · rw [List.getElem?_append_right (by simpa using Nat.le_of_not_lt h)]
        simp only [Array.length_toList]
        rw [ih (k - z.size) (by rw [Nat.add_mul, Nat.one_mul] at hk; omega)]
        congr 2
        rw [Nat.mod_eq_sub_mod (Nat.le_of_not_lt h)]
  intro n
  apply List.ext_getElem?
  intro k
  by_cases hk : k < n * z.size
  · rw [key n k hk]
    simp [hk]
  · rw [List.getElem?_eq_none (by rw [hlen]; omega), List.getElem?_eq_none (by simp; omega)]
theorem madeL_mem {zs : List Value} : ∀ {n : Nat} {v : Value}, v ∈ madeL zs n → v ∈ zs
  | 0, _, h => by simp [madeL] at h
  | n + 1, v, h => by
    simp only [madeL, List.mem_append] at h
    rcases h with h | h
    · exact h
    · exact madeL_mem h
theorem make_sound {t : TypeId} {x y x' y' : Value} {W W' : Tw} {w : World} {v : Value} (h : WR w0 ρ W w) (hx : VR ρ x x') (hy : VR ρ y y') (hr : makeT P t x y W = some (v, W')) : SpS P w0 ρ W w v W' (Instr.makeSlice t x' y') := by
  unfold makeT at hr
  split at hr
  · rename_i e ht
    split at hr
    · rename_i i hi
      split at hr
      · rename_i z kl l kc c hzero
        split at hr
        · rename_i hc
          simp only [Bool.and_eq_true, decide_eq_true_eq] at hc
          obtain ⟨⟨⟨⟨⟨c1, c2⟩, c3⟩, c4⟩, c5⟩, c6⟩ := hc
          obtain ⟨n, W1, h1, h2⟩ := bind_some hr
          obtain ⟨hlim, rfl, rfl⟩ := lay_some h1
          cases h2
          cases hx
          cases hy
          have hcb : c * (i.bytes : Int) ≤ 1099511627776 ∧ c ≤ 1099511627776 := by
            rw [Int.mul_add, Int.mul_one] at c3
            have : 0 ≤ c * (i.bytes : Int) := Int.mul_nonneg (by omega) (by omega)
            omega
          have hcells : (Array.range (c.toNat * i.size)).map (fun j => z.cells[j % z.cells.size]!) = (madeL z.cells.toList c.toNat).toArray := by
            rw [← c4, madeL_eq _ (by omega)]
          have hself : ∀ u ∈ z.cells.toList, VR ρ u u := by
            intro u hu
            have := ((zeroOk_spec c6 hi hzero).1 ρ).cells
            obtain ⟨k, hk, rfl⟩ := List.mem_iff_getElem.1 hu
            have := this.at' k (by simpa using hk)
            have hk' : k < z.cells.size := by simpa using hk
            simpa [Array.getD, hk'] using this
          have hAR : AR ρ (madeL z.cells.toList c.toNat).toArray (madeL z.cells.toList c.toNat).toArray := by
            refine ⟨rfl, fun k hk => ?_⟩
            have hk' : k < (madeL z.cells.toList c.toNat).length := by simpa using hk
            have := hself _ (madeL_mem (List.getElem_mem hk'))
            simpa [Array.getD, hk'] using this
          have hW := (h.new (e := e) hAR hlim).wrote W.nx
          have hle := ρ.le_exs (n := W.nx) (b := w.heap.size) (s := 0) (L := (madeL z.cells.toList c.toNat).toArray.size) (x := 0) (z := 0) (h.free W.nx (Nat.le_refl _) hlim)
          refine ⟨_, .slice (some ⟨w.heap.size, 0, none⟩) l.toNat c.toNat, _, hle, fun k hk => ?_, hW, ?_, ?_, Nat.le_succ _, rfl⟩
          · rcases hk with hk | hk
            · exact .inl hk
            · exact .inr ⟨by omega, by show k < W.nx + 1; omega⟩
          · have hm := run_make (P := P) w t e i z ht hi hzero kl kc l c c1 c2 (by rw [Int.mul_comm]; omega) (by omega)
            unfold madeCells at hm
            rw [hcells] at hm
            exact hm
          · have hv := VR.sl (ρ := ρ.exs W.nx w.heap.size 0 (madeL z.cells.toList c.toNat).toArray.size 0 0) ⟨W.nx, 0, none⟩ l.toNat c.toNat (.inr rfl) (by have : big = 2 ^ 70 := rfl; omega)
            have f1 : (ρ.exs W.nx w.heap.size 0 (madeL z.cells.toList c.toNat).toArray.size 0 0).adr ⟨W.nx, 0, none⟩ = ⟨w.heap.size, 0, none⟩ := by simp [Ren.adr, Ren.exs]
            rw [f1] at hv
            exact hv
        · cases hr
      · cases hr
    · cases hr
  · cases hr
end
end Mir

namespace Mir
open Go

section
variable {P : Program} {w0 : Bs} {ρ : Ren}
theorem SpS.op {W W' : Tw} {w : World} {v : Value} {t : Sem Value} (h : SpS P w0 ρ W w v W' t) :
    ∃ ρ2 y w', ρ.le ρ2 ∧ (∀ n, ρ2.dom n → ρ.dom n ∨ (W.nx ≤ n ∧ n < W'.nx)) ∧ WR w0 ρ2 W' w' ∧ ((do pure (.value (← t))) : Sem Next).run P w = .ok (.value y) w' ∧ VR ρ2 v y ∧ W.nx ≤ W'.nx ∧ W'.lim = W.lim := by
  obtain ⟨ρ2, y, w', h1, h2, h3, h4, h5⟩ := h
  refine ⟨ρ2, y, w', h1, h2, h3, ?_, h5⟩
  show (Sem.bind _ _).run P w = _
  rw [run_bind, h4]
  rfl
theorem run_und {w : World} {t : TypeId} {d : TypeDesc} (h : P.underlying t = some d) : (Go.underlying t : Sem TypeDesc).run P w = .ok d w := by
  show (Sem.bind _ _).run P w = _
  simp only [Go.program, Sem.bind, Sem.run, h]
  rfl
theorem sp_sound {ev ev' : Operand → Value} {o : Oper} {W W' : Tw} {w : World} {v : Value} (hv : ∀ x ∈ o.op.operands, VR ρ (ev x) (ev' x)) (h : WR w0 ρ W w) (hr : spT P ev o W = some (v, W')) :
    ∃ ρ2 y w', ρ.le ρ2 ∧ (∀ n, ρ2.dom n → ρ.dom n ∨ (W.nx ≤ n ∧ n < W'.nx)) ∧ WR w0 ρ2 W' w' ∧ (execOp ev' o).run P w = .ok (.value y) w' ∧ VR ρ2 v y ∧ W.nx ≤ W'.nx ∧ W'.lim = W.lim := by
  obtain ⟨dst, op, type, pos, after, guard⟩ := o
  simp only at hv
  have opt : ∀ x : Option Operand, (∀ y, x = some y → VR ρ (ev y) (ev' y)) → OV ρ (x.map ev) (x.map ev') := by
    intro x hx
    cases x with
    | none => exact .none
    | some y => exact .some (hx y rfl)
  unfold spT at hr
  cases op <;> dsimp only at hr <;> try (cases hr)
  case call c =>
    obtain ⟨cl, args, ats⟩ := c
    cases cl <;> dsimp only at hr <;> try (cases hr)
    rename_i b
    cases b <;> dsimp only at hr <;> try (cases hr)
    split at hr
    · rename_i x y hl
      obtain ⟨l⟩ := args
      have hl' : l = [x, y] := hl
      subst hl'
      have ha := app_sound h (hv x (by simp [Op.operands, Call.operands])) (hv y (by simp [Op.operands, Call.operands])) hr type
      have e : ∀ f : Operand → Value, Array.map f #[x, y] = #[f x, f y] := fun f => by simp
      have k := SpS.op ha
      rw [← e ev'] at k
      exact k
    · cases hr
  case convert s d x =>
    have hx := hv x (by simp [Op.operands])
    split at hr
    · rename_i e hd
      split at hr
      · rename_i he
        have main : ∀ (ds : TypeDesc) (v' : Value) (t : Sem Value), P.underlying s = some ds → SpS P w0 ρ W w v W' t → ev' x = v' → (∀ w, (convert s d v').run P w = t.run P w) → 
            ∃ ρ2 y w', ρ.le ρ2 ∧ (∀ n, ρ2.dom n → ρ.dom n ∨ (W.nx ≤ n ∧ n < W'.nx)) ∧ WR w0 ρ2 W' w' ∧ (execOp ev' ⟨dst, .convert s d x, type, pos, after, guard⟩).run P w = .ok (.value y) w' ∧ VR ρ2 v y ∧ W.nx ≤ W'.nx ∧ W'.lim = W.lim := by
          intro ds v' t _ hS he2 hrun
          refine SpS.op (t := convert s d (ev' x)) ?_
          obtain ⟨ρ2, y, w', h1, h2, h3, h4, h5⟩ := hS
          exact ⟨ρ2, y, w', h1, h2, h3, by rw [he2, hrun]; exact h4, h5⟩
        split at hr
        · rename_i b hb
          rw [hb] at hx
          split at hr
          · rename_i ds hds
            generalize hx' : ev' x = v' at hx
            cases hx
            refine main ds _ _ hds (str_sound h hr) hx' fun w => ?_
            unfold convert
            show (Sem.bind _ _).run P w = _
            rw [run_bind, run_und hds]
            simp only
            show (Sem.bind _ _).run P w = _
            rw [run_bind, run_und hd]
            simp only
            show (Sem.bind _ _).run P w = _
            rw [run_bind, run_und he]
          · cases hr
        · rename_i a l c hb
          rw [hb] at hx
          split at hr
          · rename_i es hds
            split at hr
            · rename_i hsd
              have hsd' : s = d := by simpa using hsd
              generalize hx' : ev' x = v' at hx
              have hx2 := hx
              have go : ∀ l' c', v' = .slice (some (ρ.adr a)) l' c' → ρ.dom a.block → ∃ ρ2 y w', ρ.le ρ2 ∧ (∀ n, ρ2.dom n → ρ.dom n ∨ (W.nx ≤ n ∧ n < W'.nx)) ∧ WR w0 ρ2 W' w' ∧ (execOp ev' ⟨dst, .convert s d x, type, pos, after, guard⟩).run P w = .ok (.value y) w' ∧ VR ρ2 v y ∧ W.nx ≤ W'.nx ∧ W'.lim = W.lim := by
                intro l' c' hv' hdm
                subst hv'
                refine main _ _ _ hds (mark_sound h hdm hx hr) hx' fun w => ?_
                unfold convert
                show (Sem.bind _ _).run P w = _
                rw [run_bind, run_und hds]
                simp only
                show (Sem.bind _ _).run P w = _
                rw [run_bind, run_und hd]
                simp only
                show (Sem.bind _ _).run P w = _
                rw [run_bind, run_und he]
                simp only [hsd]
              cases hx2 with
              | sl a l c hdm hb => exact go _ _ rfl hdm
              | slo a l c hdm he => exact go _ _ rfl hdm
            · cases hr
          · cases hr
        · cases hr
      · cases hr
    · cases hr
  case makeSlice t x y =>
    exact SpS.op (make_sound h (hv x (by simp [Op.operands])) (hv y (by simp [Op.operands])) hr)
  case slice t x lo hi mx =>
    have hx := hv x (by simp [Op.operands])
    split at hr
    · rename_i a l c hb
      rw [hb] at hx
      split at hr
      · cases hr
      · rename_i hbig
        split at hr
        · rename_i e ht
          split at hr
          · rename_i i hi0
            generalize hx' : ev' x = v' at hx
            cases hx with
            | sl a l c hdm hb => exact absurd hb hbig
            | slo a l c hdm he =>
              rw [show big + c - big = c by omega] at hr
              have k := SpS.op (part_sound h hdm he ht hi0 (opt lo fun y hy => hv y (by simp [Op.operands, hy])) (opt hi fun y hy => hv y (by simp [Op.operands, hy])) (opt mx fun y hy => hv y (by simp [Op.operands, hy])) hr)
              rw [← hx'] at k
              exact k
          · cases hr
        · cases hr
    · cases hr
end
end Mir

namespace Mir
open Go

/-! ## Symbols that mean what they mean -/
def kIdx : IntKind → Nat
  | .i8 => 0 | .i16 => 1 | .i32 => 2 | .i64 => 3 | .u8 => 4 | .u16 => 5 | .u32 => 6 | .u64 => 7
theorem kindN_kIdx (q : IntKind) : kindN (kIdx q) = q := by cases q <;> rfl
theorem kIdx_lt (q : IntKind) : kIdx q < 8 := by cases q <;> decide
theorem dcd_at (q : IntKind) (z : Int) : ∃ c, dcd c = .int q z ∧ c % 16 = kIdx q := by
  have ha := kIdx_lt q
  cases z with
  | ofNat m =>
    refine ⟨kIdx q + 32 * m, ?_, by omega⟩
    unfold dcd
    rw [show (kIdx q + 32 * m) % 16 = kIdx q by omega, if_pos ha, if_pos (by omega), show (kIdx q + 32 * m) / 32 = m by omega, kindN_kIdx]
  | negSucc m =>
    refine ⟨kIdx q + 16 + 32 * m, ?_, by omega⟩
    unfold dcd
    rw [show (kIdx q + 16 + 32 * m) % 16 = kIdx q by omega, if_pos ha, if_neg (by omega), show (kIdx q + 16 + 32 * m) / 32 = m by omega, kindN_kIdx]
theorem dcd_str (k : Nat) (h8 : ¬ k % 16 < 8) (s : ByteArray) : ∃ c, dcd c = .string s ∧ c % 16 = k % 16 := by
  obtain ⟨m, hm⟩ := bytesOf_ex s
  refine ⟨k % 16 + 16 * m, ?_, by omega⟩
  unfold dcd
  rw [show (k % 16 + 16 * m) % 16 = k % 16 by omega, if_neg h8, show (k % 16 + 16 * m) / 16 = m by omega, hm]
/-- The next name of a kind. -/
noncomputable def symN (q : IntKind) (nx : Nat) : Nat := Nat.add nx (Nat.mod (Nat.sub (Nat.add (kIdx q) 16) (Nat.mod nx 16)) 16)
theorem symN_spec (q : IntKind) (nx : Nat) : nx ≤ symN q nx ∧ symN q nx % 16 = kIdx q := by
  have ha := kIdx_lt q
  have e : symN q nx = nx + (kIdx q + 16 - nx % 16) % 16 := rfl
  rw [e]
  omega
noncomputable def symT' (q : IntKind) (W : Tw) : Option (Value × Tw) := match W with
  | ⟨t, nx, lim, rd, wr⟩ => fN (symN q nx) fun n => match Nat.blt n lim && Nat.ble n 9223372036854775807 with
    | true => fN (Nat.add n 1) fun m => some (.chan (some n), ⟨t, m, lim, rd, wr⟩)
    | false => none
theorem symT'_some {q : IntKind} {W W' : Tw} {v : Value} (h : symT' q W = some (v, W')) : ∃ n, n = symN q W.nx ∧ n < W.lim ∧ n < 2 ^ 63 ∧ v = .chan (some n) ∧ W' = { W with nx := n + 1 } := by
  obtain ⟨t, nx, lim, rd, wr⟩ := W
  unfold symT' at h
  simp only [fN_eq] at h
  split at h
  · rename_i hb
    simp only [Bool.and_eq_true, Nat.blt_eq] at hb
    cases h
    exact ⟨_, rfl, hb.1, ble_top.1 hb.2, rfl, rfl⟩
  · cases h
theorem Local.symT' (q : IntKind) : Local (Mir.symT' q) := by
  refine ⟨fun {W W' a} h => ?_, fun {W W' V a} h hl => ?_⟩
  · obtain ⟨n, h1, h2, h3, -, rfl⟩ := symT'_some h
    have := (symN_spec q W.nx).1
    exact ⟨by show W.nx ≤ n + 1; omega, rfl, fun _ h => h, fun _ h => h, fun _ => by show n + 1 ≤ W.lim; omega⟩
  · obtain ⟨n, h1, h2, h3, rfl, rfl⟩ := symT'_some h
    have hroom : n + 1 ≤ V.lim := hl.room
    refine ⟨{ V with nx := n + 1 }, ?_, ⟨rfl, rfl, hl.rd, hl.wr, fun i hc => hl.atw i hc, fun _ _ => rfl, fun _ _ => rfl⟩⟩
    have e : V = ⟨V.t, V.nx, V.lim, V.rd, V.wr⟩ := rfl
    rw [e]
    unfold Mir.symT'
    simp only [fN_eq, hl.nx]
    rw [← h1]
    have hb : (Nat.blt n V.lim && Nat.ble n 9223372036854775807) = true := by
      rw [Bool.and_eq_true, Nat.blt_eq]
      exact ⟨by omega, ble_top.2 h3⟩
    rw [hb]
section
variable {P : Program} {w0 : Bs} {ρ : Ren}
theorem sym_sound {q : IntKind} {W W' : Tw} {w : World} {v : Value} (hW : WR w0 ρ W w) (h : symT' q W = some (v, W')) (z : Int) :
    ∃ ρ2, ρ.le ρ2 ∧ (∀ k, ρ2.dom k → ρ.dom k ∨ (W.nx ≤ k ∧ k < W'.nx)) ∧ WR w0 ρ2 W' w ∧ VR ρ2 v (.int q z) ∧ W.nx ≤ W'.nx ∧ W'.lim = W.lim := by
  obtain ⟨n, h1, h2, h3, rfl, rfl⟩ := symT'_some h
  obtain ⟨c, hc, hc8⟩ := dcd_at q z
  have hn := symN_spec q W.nx
  rw [← h1] at hn
  have hfree := hW.free n hn.1 h2
  have hle := ρ.le_exs (n := n) (b := c) (s := 0) (L := 0) (x := 0) (z := 0) hfree
  refine ⟨ρ.exs n c 0 0 0 0, hle, fun k hk => ?_, ?_, ?_, by show W.nx ≤ n + 1; omega, rfl⟩
  · rcases hk with hk | hk
    · exact .inl hk
    · exact .inr ⟨by omega, by show k < n + 1; omega⟩
  · refine { row := fun m r hm => (hW.row m r hm).keep hle (hW.dom m r hm) rfl, dom := fun m r hm => .inl (hW.dom m r hm), mine := fun m r hm => ?_, sep := fun m k r p hm hk hne => ?_, free := fun m m1 m2 => ?_, lim := hW.lim, small := fun m hm => ?_, os := hW.os, tape := hW.tape, output := hW.output, size := hW.size, old := hW.old, r0 := hW.r0.trans hle }
    · rw [hle.b _ (hW.dom m r hm)]; exact hW.mine m r hm
    · rw [hle.b _ (hW.dom m r hm), hle.b _ (hW.dom k p hk)]; exact hW.sep m k r p hm hk hne
    · rintro (h4 | h4)
      · exact hW.free m (by have : n + 1 ≤ m := m1; omega) m2 h4
      · have : n + 1 ≤ m := m1
        omega
    · rcases hm with h4 | h4
      · exact hW.small m h4
      · omega
  · have hb : (ρ.exs n c 0 0 0 0).b n = c := by simp [Ren.exs]
    have := VR.sym (ρ := ρ.exs n c 0 0 0 0) n (.inr rfl) (by rw [hb, hc8, hn.2])
    rw [hb, hc] at this
    exact this
end
/-! ### Operations whose outcome is a number, whichever -/
/-- What kind of number a value is; a symbol tells it by its name. -/
noncomputable def kOf : Value → Option IntKind
  | .int q _ => some q
  | .chan (some n) => if n % 16 < 8 then some (kindN (n % 16)) else none
  | _ => none
/-- Numbers that one may divide by, or move by. -/
noncomputable def posV : Value → Bool
  | .int _ (.ofNat n) => Nat.blt 0 n
  | _ => false
noncomputable def natV : Value → Bool
  | .int _ (.ofNat _) => true
  | _ => false
noncomputable def isSy : Value → Bool
  | .chan (some _) => true
  | _ => false
noncomputable def havK (P : Program) (ev : Operand → Value) (o : Op) : Option IntKind := match o with
  | .binOp b _ x y _ => if isSy (ev x) || isSy (ev y) then match b with
    | .add | .sub | .mul | .and | .or | .xor | .andNot => match kOf (ev x), kOf (ev y) with
      | some q, some j => if q = j then some q else none
      | _, _ => none
    | .quo | .rem => match kOf (ev x), kOf (ev y) with
      | some q, some j => if q = j && posV (ev y) then some q else none
      | _, _ => none
    | .shl | .shr => if natV (ev y) then kOf (ev x) else none
    | _ => none else none
  | .unOp u _ x => if isSy (ev x) then match u with
    | .neg | .xor => kOf (ev x)
    | _ => none else none
  | .convert s d x => if isSy (ev x) then match kOf (ev x), P.underlying s, P.underlying d with
    | some _, some (.int _), some (.int k) => some k
    | _, _, _ => none else none
  | _ => none
section
variable {P : Program} {w0 : Bs} {ρ : Ren}
theorem kOf_VR {x y : Value} {q : IntKind} (h : VR ρ x y) (hk : kOf x = some q) : ∃ z, y = .int q z := by
  cases h <;> simp only [kOf] at hk <;> try (cases hk)
  case int => exact ⟨_, rfl⟩
  case sym n hd h8 =>
    split at hk
    · rename_i hlt
      cases hk
      unfold dcd
      rw [h8, if_pos hlt]
      exact ⟨_, rfl⟩
    · cases hk
theorem posV_VR {x y : Value} (h : VR ρ x y) (hk : posV x = true) : x = y ∧ ∃ q n, y = .int q n ∧ n ≠ 0 := by
  cases h <;> simp only [posV] at hk <;> try (cases hk; done)
  case int k n =>
    refine ⟨rfl, k, n, rfl, ?_⟩
    cases n with
    | ofNat n =>
      simp only [Nat.blt_eq] at hk
      exact fun h0 => by
        have : n = 0 := Int.ofNat.inj h0
        omega
    | negSucc n => cases hk
theorem natV_VR {x y : Value} (h : VR ρ x y) (hk : natV x = true) : ∃ q n, y = .int q (.ofNat n) := by
  cases h <;> simp only [natV] at hk <;> try (cases hk; done)
  case int k n =>
    cases n with
    | ofNat n => exact ⟨k, n, rfl⟩
    | negSucc n => cases hk
theorem havK_run {ev ev' : Operand → Value} {o : Oper} {q : IntKind} (h : ∀ x ∈ o.op.operands, VR ρ (ev x) (ev' x)) (hk : havK P ev o.op = some q) (w : World) :
    ∃ z, (execOp ev' o).run P w = .ok (.value (.int q z)) w := by
  obtain ⟨dst, op, type, pos, after, guard⟩ := o
  simp only at h hk
  unfold havK at hk
  split at hk
  · rename_i b t x y t'
    split at hk
    · have hx := h x (by simp [Op.operands])
      have hy := h y (by simp [Op.operands])
      have go : ∀ {k j : IntKind} {m n : Int} {z : Int}, ev' x = .int k m → ev' y = .int j n → binOp b t (.int k m) (.int j n) = pure (.int q z) → ∃ z, (execOp ev' ⟨dst, .binOp b t x y t', type, pos, after, guard⟩).run P w = .ok (.value (.int q z)) w := by
        intro k j m n z e1 e2 e3
        refine ⟨z, ?_⟩
        simp only [execOp, e1, e2]
        have hg : eqGuard b t x y (.int k m) (.int j n) = pure () := by
          unfold eqGuard
          cases b <;> rfl
        rw [hg, e3]
        rfl
      cases b <;> dsimp only at hk <;> try (cases hk; done)
      case add | sub | mul =>
        split at hk
        · rename_i k j k1 k2
          split at hk
          · rename_i hkj
            cases hk
            subst hkj
            obtain ⟨m, e1⟩ := kOf_VR hx k1
            obtain ⟨n, e2⟩ := kOf_VR hy k2
            exact go e1 e2 (by simp only [binOp, Op.intArith, ne_eq, not_true, if_false]; rfl)
          · cases hk
        · cases hk
      case and | or | xor | andNot =>
        split at hk
        · rename_i k j k1 k2
          split at hk
          · rename_i hkj
            cases hk
            subst hkj
            obtain ⟨m, e1⟩ := kOf_VR hx k1
            obtain ⟨n, e2⟩ := kOf_VR hy k2
            exact go e1 e2 (by simp only [binOp, Op.intBits, ne_eq, not_true, if_false]; rfl)
          · cases hk
        · cases hk
      case quo | rem =>
        split at hk
        · rename_i k j k1 k2
          split at hk
          · rename_i hkj
            rw [Bool.and_eq_true, decide_eq_true_eq] at hkj
            cases hk
            obtain ⟨rfl, hp⟩ := hkj
            obtain ⟨m, e1⟩ := kOf_VR hx k1
            obtain ⟨n, e2⟩ := kOf_VR hy k2
            obtain ⟨-, q', n', e3, e4⟩ := posV_VR hy hp
            rw [e2] at e3
            cases e3
            exact go e1 e2 (by simp only [binOp, Op.intDiv, ne_eq, not_true, if_false, e4]; rfl)
          · cases hk
        · cases hk
      case shl | shr =>
        split at hk
        · rename_i hn
          obtain ⟨m, e1⟩ := kOf_VR hx hk
          obtain ⟨j, n, e2⟩ := natV_VR hy hn
          have hneg : ¬ Int.ofNat n < 0 := by
            have : (0 : Int) ≤ Int.ofNat n := Int.natCast_nonneg n
            omega
          exact go e1 e2 (by simp only [binOp, Op.shift, hneg, if_false]; rfl)
        · cases hk
    · cases hk
  · rename_i u t x
    split at hk
    · have hx := h x (by simp [Op.operands])
      cases u <;> dsimp only at hk <;> try (cases hk; done)
      case neg =>
        obtain ⟨m, e1⟩ := kOf_VR hx hk
        exact ⟨_, by simp only [execOp, e1, Op.unary, Op.intArith]; rfl⟩
      case xor =>
        obtain ⟨m, e1⟩ := kOf_VR hx hk
        exact ⟨_, by simp only [execOp, e1, Op.unary, Op.intBits]; rfl⟩
    · cases hk
  · rename_i s d x
    split at hk
    · rename_i hs
      split at hk
      · rename_i q0 k k' e0 e1 e2
        cases hk
        have hx := h x (by simp [Op.operands])
        obtain ⟨m, e3⟩ := kOf_VR hx e0
        refine ⟨q.wrap m, ?_⟩
        simp only [execOp, e3]
        have : (convert s d (.int q0 m)).run P w = .ok (.int q (q.wrap m)) w := by
          unfold convert
          have u1 : (Go.underlying s).run P w = .ok (.int k) w := by
            unfold Go.underlying
            show (Sem.bind _ _).run P w = _
            rw [run_bind]
            show ((match P.underlying s with | some d => _ | none => _ : Sem _)).run P w = _
            rw [e1]; rfl
          have u2 : (Go.underlying d).run P w = .ok (.int q) w := by
            unfold Go.underlying
            show (Sem.bind _ _).run P w = _
            rw [run_bind]
            show ((match P.underlying d with | some d => _ | none => _ : Sem _)).run P w = _
            rw [e2]; rfl
          show (Sem.bind _ _).run P w = _
          rw [run_bind, u1]
          dsimp only
          show (Sem.bind _ _).run P w = _
          rw [run_bind, u2]
          rfl
        show (Sem.bind _ _).run P w = _
        rw [run_bind, this]
        rfl
      · cases hk
    · cases hk
  · cases hk
theorem hav_sound {ev ev' : Operand → Value} {o : Oper} {q : IntKind} {W W' : Tw} {w : World} {v : Value} (h : ∀ x ∈ o.op.operands, VR ρ (ev x) (ev' x)) (hW : WR w0 ρ W w) (hk : havK P ev o.op = some q) (hr : symT' q W = some (v, W')) :
    ∃ ρ2 y, ρ.le ρ2 ∧ (∀ k, ρ2.dom k → ρ.dom k ∨ (W.nx ≤ k ∧ k < W'.nx)) ∧ WR w0 ρ2 W' w ∧ (execOp ev' o).run P w = .ok (.value y) w ∧ VR ρ2 v y ∧ W.nx ≤ W'.nx ∧ W'.lim = W.lim := by
  obtain ⟨z, e1⟩ := havK_run h hk w
  obtain ⟨ρ2, k1, k2, k3, k4, k5, k6⟩ := sym_sound hW hr z
  exact ⟨ρ2, _, k1, k2, k3, e1, k4, k5, k6⟩
end
end Mir

namespace Mir
open Go

/-! ## One operation on the twin -/
theorem VR_plain {ρ : Ren} : ∀ (f : Nat) {x y : Value}, plainD f x = true → VR ρ x y → x = y := by
  intro f
  have ext : ∀ {xs ys : Array Value}, xs.size = ys.size → (∀ i, i < xs.size → xs.getD i undef = ys.getD i undef) → xs = ys := by
    intro xs ys hs h
    apply Array.ext hs
    intro i h1 h2
    have := h i h1
    simpa [Array.getD, h1, h2] using this
  induction f with
  | zero => intro x y h; cases h
  | succ f ih =>
    intro x y h hv
    cases hv with
    | ptr a hd => cases h
    | sl a l c hd hb => cases h
    | slo a l c hd e => cases h
    | map r hd => cases h
    | yld n hd => cases h
    | sym n hd hk => cases h
    | func fn hf h1 h2 h3 h4 =>
      simp only [plainD, Bool.and_eq_true] at h
      rw [ext h1 fun i hi => ih (all_getD h.1.2 i hi) (h3 i hi), ext h2 fun i hi => ih (all_getD h.2 i hi) (h4 i hi)]
    | iface t hv => rw [ih h hv]
    | agg h1 h3 => rw [ext h1 fun i hi => ih (all_getD h i hi) (h3 i hi)]
    | tuple h1 h3 => rw [ext h1 fun i hi => ih (all_getD h i hi) (h3 i hi)]
    | _ => rfl

noncomputable def depth : Nat := 6
/-- What an operand is in the twin. -/
noncomputable def ev (sl : Nat → Value) : Operand → Value
  | .tmp t => sl t
  | .const v => v
  | .func f => .func (.func f) #[] #[]
  | .global _ => undef
noncomputable def opdOk : Operand → Bool
  | .tmp _ | .func _ => true
  | .const v => plainD depth v
  | .global _ => false
/-- Operations that look at no memory where their operands name nothing. -/
noncomputable def quietOp : Op → Bool
  | .alloc _ | .box _ _ | .buildSlice _ _ _ | .load _ _ | .store _ _ _ | .makeSlice _ _ _ | .makeMap _ _ | .select _ _ => false
  | .call c => match c.callee with
    | .builtin _ => true
    | _ => false
  | _ => true
/-- What is reckoned with no memory. -/
noncomputable def quietB (P : Program) (f : Nat → Value) (o : Oper) : Option Value := match runT P (execOp (ev f) o) Tw.emp with
    | some (.value v, _) => if plainD depth v then some v else none
    | _ => none
noncomputable def quietT (P : Program) (f : Nat → Value) (o : Oper) : Option Value :=
  if quietOp o.op && o.op.operands.all (fun x => plainD depth (ev f x)) then quietB P f o else none
/-- Calls of what the model answers of itself. -/
noncomputable def exOp : Op → Bool
  | .call c => match c.callee with
    | .value _ => true
    | _ => false
  | _ => false
noncomputable def exT (P : Program) (f : Nat → Value) (o : Oper) : Option Value :=
  if exOp o.op && o.op.operands.all (fun x => plainD depth (ev f x)) then quietB P f o else none
/-- Operations whose own rule is the quicker one. -/
noncomputable def spFirst : Op → Bool
  | .makeSlice _ _ _ => true
  | _ => false
/-- What is told of operations over symbols. -/
structure SyT where
  op : (Operand → Value) → Oper → Option Value
  /-- Calls whose answer is known. -/
  kn : FuncId → List Value → Option Value
/-- Operations that may be over symbols. -/
noncomputable def syOp : Op → Bool
  | .binOp _ _ _ _ _ | .unOp _ _ _ | .convert _ _ _ | .index _ _ _ => true
  | .call c => match c.callee with
    | .builtin .len => true
    | _ => false
  | _ => false
def noSy : SyT := ⟨fun _ _ => none, fun _ _ => none⟩
/-- It is right. -/
structure SOk (P : Program) (w0 : Bs) (sy : SyT) : Prop where
  op : ∀ (ρ : Ren) (f f' : Operand → Value) (o : Oper) (v : Value), w0.r0.le ρ → (∀ x ∈ o.op.operands, VR ρ (f x) (f' x)) → sy.op f o = some v →
    ∀ w, ∃ y, (execOp f' o).run P w = .ok (.value y) w ∧ VR ρ v y
  kn : ∀ (ρ : Ren) (f : FuncId) (args args' : Array Value) (v : Value), w0.r0.le ρ → AR ρ args args' → sy.kn f args.toList = some v → ∀ w, Calls P f args' w fun e w' => ∃ y, e = .returned y ∧ VR ρ v y ∧ RowKit.Below w.heap.size w w'
theorem SOk.none (P : Program) (w0 : Bs) : SOk P w0 noSy := ⟨fun _ _ _ _ _ _ _ h => (nomatch h), fun _ _ _ _ _ _ _ h => (nomatch h)⟩
noncomputable def opT (P : Program) (sy : SyT) (f : Nat → Value) (o : Oper) (W : Tw) : Option (Next × Tw) :=
  if o.op.operands.all opdOk then
    match quietT P f o with
    | some v => some (.value v, W)
    | none => if !spFirst o.op && opOk P (ev f) o then runT P (execOp (ev f) o) W else match exT P f o with
      | some v => some (.value v, W)
      | none => match (match syOp o.op with | true => sy.op (ev f) o | false => none) with
        | some v => some (.value v, W)
        | none => match havK P (ev f) o.op with
          | some q => (symT' q W).bind fun p => some (.value p.1, p.2)
          | none => (spT P (ev f) o W).bind fun p => some (.value p.1, p.2)
  else none
theorem Local.opT (P : Program) (sy : SyT) (f : Nat → Value) (o : Oper) : Local (Mir.opT P sy f o) := by
  unfold Mir.opT
  split
  · split
    · exact Local.ret _
    · split
      · exact runT_local _
      · split
        · exact Local.ret _
        · split
          · exact Local.ret _
          · split
            · exact Local.bind (Local.symT' _) fun v => Local.ret (Next.value v)
            · exact Local.bind (Local.spT P (ev f) o) fun v => Local.ret (Next.value v)
  · exact Local.fails

structure SR (ρ : Ren) (sl : Nat → Value) (a : Act) : Prop where
  at' : ∀ t, VR ρ (sl t) (a.tmps.getD t undef)

section
variable {P : Program} {w0 : Bs} {ρ : Ren}
theorem ev_VR {sl : Nat → Value} {a : Act} {x : Operand} (h : ∀ t, x = .tmp t → VR ρ (sl t) (a.tmps.getD t undef)) (hx : opdOk x = true) : VR ρ (ev sl x) (a.eval x) := by
  cases x with
  | tmp t => exact h t rfl
  | const v => exact plain_VR ρ _ v hx
  | func f => exact .func _ rfl rfl rfl (fun i hi => absurd hi (by simp)) (fun i hi => absurd hi (by simp))
  | global g => cases hx

theorem op_sound {sy : SyT} (hz : SOk P w0 sy) (hzs : ZSz P) {W W' : Tw} {w : World} {sl : Nat → Value} {a : Act} {o : Oper} {n : Next} (hW : WR w0 ρ W w) (hs : ∀ t, .tmp t ∈ o.op.operands → VR ρ (sl t) (a.tmps.getD t undef)) (h : opT P sy sl o W = some (n, W')) :
    ∃ ρ2 m w', ρ.le ρ2 ∧ (∀ k, ρ2.dom k → ρ.dom k ∨ (W.nx ≤ k ∧ k < W'.nx)) ∧ WR w0 ρ2 W' w' ∧ (execOp a.eval o).run P w = .ok m w' ∧ NR ρ2 n m ∧ W.nx ≤ W'.nx ∧ W'.lim = W.lim := by
  unfold opT at h
  split at h
  · rename_i hop
    rw [Array.all_eq_true_iff_forall_mem] at hop
    have hv : ∀ x ∈ o.op.operands, VR ρ (ev sl x) (a.eval x) := fun x hx => ev_VR (fun t ht => hs t (ht ▸ hx)) (hop x hx)
    have qB : ∀ v, (∀ cs b, o.op ≠ .select cs b) → (o.op.operands.all (fun x => plainD depth (ev sl x))) = true → quietB P sl o = some v →
        ∃ ρ2 m w', ρ.le ρ2 ∧ (∀ k, ρ2.dom k → ρ.dom k ∨ (W.nx ≤ k ∧ k < W.nx)) ∧ WR w0 ρ2 W w' ∧ (execOp a.eval o).run P w = .ok m w' ∧ NR ρ2 (.value v) m ∧ W.nx ≤ W.nx ∧ W.lim = W.lim := by
      intro v hsel hpl hq0
      rw [Array.all_eq_true_iff_forall_mem] at hpl
      have he : ∀ x ∈ o.op.operands, ev sl x = a.eval x := fun x hx => VR_plain _ (hpl x hx) (hv x hx)
      unfold quietB at hq0
      split at hq0
      · rename_i v' T hr
        split at hq0
        · rename_i hp
          cases hq0
          obtain ⟨-, h2⟩ := quiet _ rfl rfl hr
          refine ⟨ρ, .value v, w, .rfl', fun k hk => .inl hk, hW, ?_, .value (plain_VR ρ _ v hp), Nat.le_refl _, rfl⟩
          rw [← execOp_congr o hsel he]
          exact h2 w
        · cases hq0
      · cases hq0
    split at h
    · rename_i v hq0
      cases h
      unfold quietT at hq0
      split at hq0
      · rename_i hq
        simp only [Bool.and_eq_true] at hq
        exact qB _ (fun cs b hc => by rw [hc] at hq; exact absurd hq.1 Bool.false_ne_true) hq.2 hq0
      · cases hq0
    · split at h
      · rename_i hok
        simp only [Bool.and_eq_true] at hok
        have hok := hok.2
        obtain ⟨ρ2, m, w', e1, e2, e3, e4, e5, e6, e7⟩ := sim_op trivial hzs hv hok ρ W w n W' .rfl' hW h
        exact ⟨ρ2, m, w', e1, e2, e3, e4, e5, e6, e7⟩
      · split at h
        · rename_i v hq0
          cases h
          unfold exT at hq0
          split at hq0
          · rename_i hq
            simp only [Bool.and_eq_true] at hq
            exact qB _ (fun cs b hc => by rw [hc] at hq; exact absurd hq.1 Bool.false_ne_true) hq.2 hq0
          · cases hq0
        · split at h
          · rename_i v hq0
            cases h
            have hq1 : sy.op (ev sl) o = some v := by
              cases hs : syOp o.op with
              | true => rw [hs] at hq0; exact hq0
              | false => rw [hs] at hq0; cases hq0
            obtain ⟨y, e1, e2⟩ := hz.op ρ (ev sl) a.eval o v hW.r0 hv hq1 w
            exact ⟨ρ, _, w, .rfl', fun k hk => .inl hk, hW, e1, .value e2, Nat.le_refl _, rfl⟩
          · split at h
            · rename_i q hk
              obtain ⟨v, W1, h1, h2⟩ := bind_some h
              cases h2
              obtain ⟨ρ2, y, e1, e2, e3, e4, e5, e6, e7⟩ := hav_sound hv hW hk h1
              exact ⟨ρ2, _, w, e1, e2, e3, e4, .value e5, e6, e7⟩
            · obtain ⟨v, W1, h1, h2⟩ := bind_some h
              cases h2
              obtain ⟨ρ2, y, w', e1, e2, e3, e4, e5, e6, e7⟩ := sp_sound hv hW h1
              exact ⟨ρ2, _, w', e1, e2, e3, e4, .value e5, e6, e7⟩
  · cases h
end
end Mir

namespace Mir
open Go

/-! ## Code on the twin -/
noncomputable def getS (sl : Tr Value) (t : Nat) : Value := (sl.get t).getD undef
noncomputable def putS (N : Nat) (d : Option Nat) (v : Value) (sl : Tr Value) : Option (Tr Value) := match d with
  | none => some sl
  | some t => if Nat.blt t N && Nat.blt t 1073741824 then fT (some v) 31 sl t fun t => some t else none
inductive Ex where
  | normal
  | exit (id : Nat)
  | ret
abbrev CallT := FuncId → Array Value → Tw → Option (Value × Tw)
abbrev RndT := Nat → Array Value → Code → Code → Tw → Option (Value × Tw)
abbrev OpF := (Nat → Value) → Oper → Tw → Option (Next × Tw)
/-- Whether a guarded operation is wanted. -/
noncomputable def wantT (ops : Array Oper) (f : Nat → Value) (o : Oper) : Option Bool := match o.guard with
  | none => some true
  | some (j, b) => match (ops[j]?).bind (·.dst) with
    | some d => match f d with
      | .bool c => some (c == b)
      | .tuple _ => some false
      | _ => none
    | none => none
noncomputable def finT (call : CallT) (rnd : RndT) : Next → Tw → Option (Value × Tw)
  | .value v, W => some (v, W)
  | .skip, W => some (undef, W)
  | .enter g args, W => call g args W
  | .round l _ ts as bd, W => rnd l ts as bd W
  | _, _ => none
/-- What an operation yields is reckoned out: as far as it isn't already. -/
noncomputable def forV {α : Type} (o : Oper) (v : Value) (k : Value → α) : α := match o.op with
  | .move _ => fW v k
  | .assign _ => fW v k
  | .pick _ _ _ => fW v k
  | .extract _ _ => fW v k
  | .nilCheck _ => fW v k
  | .store _ _ _ => k v
  | .load _ _ => fW v k
  | .call c => match c.callee with
    | .value _ => fW v k
    | _ => fV 7 v k
  | _ => fV 7 v k
theorem forV_eq {α : Type} {o : Oper} {v : Value} {k : Value → α} : forV o v k = k v := by
  unfold forV; repeat' split
  all_goals simp only [fV_eq, fW_eq]
noncomputable def opV (op : OpF) (call : CallT) (rnd : RndT) (ops : Array Oper) (o : Oper) (f : Nat → Value) (W : Tw) : Option (Value × Tw) := match wantT ops f o with
  | some true => (op f o W).bind fun p => finT call rnd p.1 p.2
  | some false => some (undef, W)
  | none => none
/-- With a log of its own. -/
noncomputable def subT {α : Type} (F : Tw → Option (α × Tw)) (W : Tw) : Option ((α × Lg × Lg) × Tw) := match W with
  | ⟨t, nx, lim, rd0, wr0⟩ => (F ⟨t, nx, lim, [], []⟩).bind fun p => match p with
    | (a, ⟨t, nx, lim, rd, wr⟩) => Lg.fjoin rd0 rd fun rd1 => Lg.fjoin wr0 wr fun wr1 => some ((a, rd, wr), ⟨t, nx, lim, rd1, wr1⟩)
theorem subT_eq {α : Type} (F : Tw → Option (α × Tw)) (W : Tw) : subT F W =
    (F { W with rd := [], wr := [] }).map fun p => ((p.1, p.2.rd, p.2.wr), { p.2 with rd := Lg.join W.rd p.2.rd, wr := Lg.join W.wr p.2.wr }) := by
  obtain ⟨t, nx, lim, rd, wr⟩ := W
  unfold subT
  simp only
  cases F ⟨t, nx, lim, [], []⟩ with
  | none => rfl
  | some p => simp only [Option.bind_some, Lg.fjoin_eq, Option.map_some]
noncomputable def evL (op : OpF) (call : CallT) (rnd : RndT) (N : Nat) (ops : Array Oper) : List Oper → Tr Value → Tw → Option (Tr Value × Tw)
  | [], sl, W => some (sl, W)
  | o :: r, sl, W => (opV op call rnd ops o (getS sl) W).bind fun p => match p with
    | (v, W') => forV o v fun v => match putS N o.dst v sl with
      | some sl' => evL op call rnd N ops r sl' W'
      | none => none
noncomputable def evD (op : OpF) (call : CallT) (rnd : RndT) (N : Nat) (ops : Array Oper) : List Oper → Tr Value → Tw → Option ((Tr Value × List (Lg × Lg)) × Tw)
  | [], sl, W => some ((sl, []), W)
  | o :: r, sl, W => (subT (opV op call rnd ops o (getS sl)) W).bind fun p => match p with
    | ((v, lg), W') => forV o v fun v => match putS N o.dst v sl with
      | some sl' => (evD op call rnd N ops r sl' W').bind fun q => match q with
        | ((s, ls), W2) => some ((s, lg :: ls), W2)
      | none => none

/-- Memory: who is not told to wait touches nothing that the other one writes. -/
noncomputable def memAll (m : Nat) (b : Lg × Lg) : List (Lg × Lg) → Nat → Bool
  | [], _ => true
  | a :: r, j => (match a, b with
      | ([], []), _ => true
      | _, ([], []) => true
      | (r1, w1), (r2, w2) => m.testBit j || (Lg.disj w1 r2 && Lg.disj w1 w2 && Lg.disj r1 w2)) && memAll m b r (j + 1)
noncomputable def memOk (ms : List Nat) (all : List (Lg × Lg)) : List (Lg × Lg) → Nat → Bool
  | [], _ => true
  | b :: r, i => (match b with
      | ([], []) => true
      | _ => memAll (ms.getD i 0) b (all.take i) 0) && memOk ms all r (i + 1)
abbrev St := Tr Value × List Nat
/-- The slots as a row. -/
noncomputable def arrL (sl : Tr Value) : Nat → Nat → List Value
  | _, 0 => []
  | k, n + 1 => getS sl k :: arrL sl (k + 1) n
/-- The blocks that a range over a function leaves to be shut. -/
def mkN : List Deferred → Option (List Nat)
  | [] => some []
  | d :: r => match d.target, d.args, mkN r with
    | .collected n, ⟨[]⟩, some l => some (n :: l)
    | _, _, _ => none
noncomputable def evC (P : Program) (op : OpF) (call : CallT) (rnd : RndT) (cl : FuncId → Bool) (ro : Option Nat) (N : Nat) : Nat → Code → St → Tw → Option ((Ex × St) × Tw)
  | 0, _, _, _ => none
  | n + 1, c, s, W => match c with
    | .skip => some ((.normal, s), W)
    | .label _ => some ((.normal, s), W)
    | .ret => some ((.ret, s), W)
    | .exit id => some ((.exit id, s), W)
    | .seq a b => (evC P op call rnd cl ro N n a s W).bind fun p => match p.1 with
      | (.normal, s') => evC P op call rnd cl ro N n b s' p.2
      | r => some (r, p.2)
    | .cond x a b => match ev (getS s.1) x with
      | .bool true => evC P op call rnd cl ro N n a s W
      | .bool false => evC P op call rnd cl ro N n b s W
      | _ => none
    | .block id b => (evC P op call rnd cl ro N n b s W).bind fun p => match p.1 with
      | (.exit i, s') => if i = id then some ((.normal, s'), p.2) else some ((.exit i, s'), p.2)
      | r => some (r, p.2)
    | .loop b => (evC P op call rnd cl ro N n b s W).bind fun p => match p.1 with
      | (.normal, s') => evC P op call rnd cl ro N n (.loop b) s' p.2
      | r => some (r, p.2)
    | .region _ ops false => (evL op call rnd N ops ops.toList s.1 W).bind fun p => some ((.normal, (p.1, s.2)), p.2)
    | .region _ ops true => if Nat.ble W.nx W.lim then (evD op call rnd N ops ops.toList s.1 W).bind fun p => if memOk (masks ops ops.size) p.1.2 p.1.2 0 then some ((.normal, (p.1.1, s.2)), p.2) else none else none
    | .rangeFunc g ps as bd => match ev (getS s.1) g with
      | .func (.func gf) xs ys => if cl gf && opdOk g then (runT P (Instr.enterLoop 0 ⟨arrL s.1 0 N⟩ ps as bd ro) W).bind fun p => match mkN p.1.2 with
          | some mk => (call gf ⟨xs.toList ++ (.func (.yield p.1.1) #[] #[] :: ys.toList)⟩ p.2).bind fun q => (runT P (Instr.endLoop p.1.1) q.2).bind fun r => match r.1 with
            | none => some ((.normal, (s.1, mk ++ s.2)), r.2)
            | some .ret => some ((.ret, (s.1, mk ++ s.2)), r.2)
            | some (.exit id) => some ((.exit id, (s.1, mk ++ s.2)), r.2)
            | _ => none
          | none => none
        else none
      | _ => none
    | _ => none

noncomputable def putL : List Value → Nat → Tr Value → Tr Value
  | [], _, t => t
  | v :: r, i, t => fT (some v) 31 t i fun t => putL r (i + 1) t
noncomputable def resT (fn : Func) (sl : Nat → Value) : Sem Value := do
  let vs ← fn.results.mapM fun
    | .tmp t => pure (sl t)
    | .cell a t => do loadVar t (← asAddr (sl a))
  pure (if h : vs.size = 1 then vs[0] else .tuple vs)
/-- How a round is left. -/
def jmp : Ex → Option Code
  | .normal => none
  | .ret => some .ret
  | .exit id => some (.exit id)
/-- One round. -/
noncomputable def evR (P : Program) (op : OpF) (call : CallT) (rnd : RndT) (cl : FuncId → Bool) (L : Nat) : RndT := fun l ts as bd W =>
  if Nat.blt ts.size 1073741824 then (evC P op call rnd cl (some l) ts.size L as (putL ts.toList 0 .lf, []) W).bind fun p => match p.1 with
    | (.normal, (s1, [])) => (runT P (Instr.beginRound l) p.2).bind fun b => (evC P op call rnd cl (some l) ts.size L bd (s1, []) b.2).bind fun q => match q.1 with
      | (ex, (_, [])) => runT P (Instr.endRound l (jmp ex)) q.2
      | _ => none
    | _ => none
  else none
/-- The blocks are shut. -/
noncomputable def takeA (P : Program) : List Nat → Tw → Option (Unit × Tw)
  | [], W => some ((), W)
  | d :: r, W => (runT P (Instr.takeDeferred d) W).bind fun p => match p.1 with
    | [] => takeA P r p.2
    | _ => none
/-- What is known of calls. -/
noncomputable def knT (kn : FuncId → List Value → Option Value) (c : CallT) : CallT := fun f args W => match kn f args.toList with
  | some v => some (v, W)
  | none => c f args W
noncomputable def callB (P : Program) (sy : SyT) (L : Nat) (call : CallT) (rnd : RndT) : CallT := fun f args W => match P.funcs[f]? with
    | some fn => match fn.body with
      | some c => if Nat.ble args.size fn.ntmps && Nat.blt fn.ntmps 1073741824 then
          (evC P (opT P sy) call rnd (callable P) none fn.ntmps L c (putL args.toList 0 .lf, []) W).bind fun p => match p.1 with
            | (.normal, s) => (takeA P s.2 p.2).bind fun q => runT P (resT fn (getS s.1)) q.2
            | (.ret, s) => (takeA P s.2 p.2).bind fun q => runT P (resT fn (getS s.1)) q.2
            | _ => none
        else none
      | none => none
    | none => none
noncomputable def evFR (P : Program) (sy : SyT) (L : Nat) : Nat → CallT × RndT
  | 0 => (fun _ _ _ => none, fun _ _ _ _ _ => none)
  | n + 1 => (knT sy.kn (callB P sy L (evFR P sy L n).1 (evFR P sy L n).2), evR P (opT P sy) (evFR P sy L n).1 (evFR P sy L n).2 (callable P) L)
noncomputable def evF (P : Program) (sy : SyT) (L n : Nat) : CallT := (evFR P sy L n).1

/-! ### What is yielded hangs on what is touched -/
section
variable {P : Program} {sy : SyT} {call : CallT} {rnd : RndT}
def CallL (call : CallT) (rnd : RndT) : Prop := (∀ f args, Local (call f args)) ∧ ∀ l ts as bd, Local (rnd l ts as bd)
theorem Local.finT (hc : CallL call rnd) (n : Next) : Local (Mir.finT call rnd n) := by
  cases n with
  | value v => exact Local.ret v
  | skip => exact Local.ret undef
  | enter g args => exact hc.1 g args
  | round l f ts as bd => exact hc.2 l ts as bd
  | _ => exact Local.fails
theorem Local.opV (hc : CallL call rnd) (ops : Array Oper) (o : Oper) (f : Nat → Value) : Local (Mir.opV (Mir.opT P sy) call rnd ops o f) := by
  unfold Mir.opV
  split
  · exact Local.bind (Local.opT P sy f o) fun n => Local.finT hc n
  · exact Local.ret undef
  · exact Local.fails
theorem Local.subT {α : Type} {F : Tw → Option (α × Tw)} (hF : Local F) : Local (Mir.subT F) := by
  refine ⟨fun {W W' a} h => ?_, fun {W W' V a} h hl => ?_⟩
  · rw [subT_eq] at h
    cases hf : F { W with rd := [], wr := [] } with
    | none => rw [hf] at h; cases h
    | some p =>
      rw [hf] at h
      have m := hF.mono (W' := p.2) (a := p.1) hf
      cases h
      exact ⟨m.nx, m.lim, fun n hn => by
        show Lg.has (Lg.join W.rd p.2.rd) n = true
        rw [Lg.has_join, hn]; rfl, fun n hn => by
        show Lg.has (Lg.join W.wr p.2.wr) n = true
        rw [Lg.has_join, hn]; rfl, m.room⟩
  · rw [subT_eq] at h
    cases hf : F { W with rd := [], wr := [] } with
    | none => rw [hf] at h; cases h
    | some p =>
      obtain ⟨b, W1⟩ := p
      rw [hf] at h
      have m := hF.mono hf
      cases h
      have hl' : Like { W with rd := [], wr := [] } W1 { V with rd := [], wr := [] } := by
        refine ⟨hl.nx, rfl, rfl, hl.room, fun n hn => hl.at' n ?_, fun n hn => ?_⟩
        · rcases hn with hn | hn
          · left; show Lg.has (Lg.join W.rd W1.rd) n = true; rw [Lg.has_join, hn, Bool.or_true]
          · right; show Lg.has (Lg.join W.wr W1.wr) n = true; rw [Lg.has_join, hn, Bool.or_true]
        · exact absurd hn (by simp [Lg.has])
      obtain ⟨V1, e1, e2⟩ := hF.loc hf hl'
      refine ⟨{ V1 with rd := Lg.join V.rd V1.rd, wr := Lg.join V.wr V1.wr }, ?_, ⟨e2.nx, e2.lim, ?_, ?_, fun n hn => ?_, fun n hn => ?_, fun n hn => ?_⟩⟩
      · rw [subT_eq, e1, Option.map_some, e2.rd, e2.wr]
      · show Lg.join V.rd V1.rd = Lg.join W.rd W1.rd
        rw [hl.rd, e2.rd]
      · show Lg.join V.wr V1.wr = Lg.join W.wr W1.wr
        rw [hl.wr, e2.wr]
      · have hn' : Lg.has (Lg.join W.wr W1.wr) n = true := hn
        rw [Lg.has_join, Bool.or_eq_true] at hn'
        by_cases h1 : W1.wr.has n = true
        · exact e2.got n h1
        · have h2 := hn'.resolve_right h1
          show V1.get n = W1.get n
          rw [e2.kept n h1, e2.keptW n h1]
          exact hl.atw n h2
      · have hn' : ¬ Lg.has (Lg.join W.wr W1.wr) n = true := hn
        rw [Lg.has_join, Bool.or_eq_true] at hn'
        exact e2.kept n fun h => hn' (.inr h)
      · have hn' : ¬ Lg.has (Lg.join W.wr W1.wr) n = true := hn
        rw [Lg.has_join, Bool.or_eq_true] at hn'
        exact e2.keptW n fun h => hn' (.inr h)
theorem Local.evL (hc : CallL call rnd) (N : Nat) (ops : Array Oper) : ∀ (l : List Oper) (sl : Tr Value), Local (Mir.evL (Mir.opT P sy) call rnd N ops l sl)
  | [], sl => Local.ret sl
  | o :: r, sl => by
    refine Local.congr (fun W => ?_) (Local.bind (G := fun v W => match putS N o.dst v sl with
      | some sl' => Mir.evL (Mir.opT P sy) call rnd N ops r sl' W
      | none => none) (Local.opV (P := P) (sy := sy) hc ops o (getS sl)) fun v => ?_)
    · rw [Mir.evL]
      cases Mir.opV (Mir.opT P sy) call rnd ops o (getS sl) W with
      | none => rfl
      | some p => simp only [Option.bind_some, forV_eq]
    · cases putS N o.dst v sl with
      | none => exact Local.fails
      | some sl' => exact Local.evL hc N ops r sl'
theorem Local.evD (hc : CallL call rnd) (N : Nat) (ops : Array Oper) : ∀ (l : List Oper) (sl : Tr Value), Local (Mir.evD (Mir.opT P sy) call rnd N ops l sl)
  | [], sl => Local.ret (sl, [])
  | o :: r, sl => by
    refine Local.congr (fun W => ?_) (Local.bind (G := fun v W => match putS N o.dst v.1 sl with
      | some sl' => (Mir.evD (Mir.opT P sy) call rnd N ops r sl' W).bind fun q => some ((q.1.1, v.2 :: q.1.2), q.2)
      | none => none) (Local.subT (Local.opV (P := P) (sy := sy) hc ops o (getS sl))) fun v => ?_)
    · rw [Mir.evD]
      cases Mir.subT (Mir.opV (Mir.opT P sy) call rnd ops o (getS sl)) W with
      | none => rfl
      | some p => simp only [Option.bind_some, forV_eq]
    · cases putS N o.dst v.1 sl with
      | none => exact Local.fails
      | some sl' => exact Local.bind (Local.evD hc N ops r sl') fun q => Local.ret (q.1, v.2 :: q.2)
theorem Local.guardNx {α : Type} {F : Tw → Option (α × Tw)} (hF : Local F) : Local (fun W => if Nat.ble W.nx W.lim then F W else none) := by
  refine ⟨fun {W W' a} h => ?_, fun {W W' V a} h hl => ?_⟩
  · split at h
    · exact hF.mono h
    · cases h
  · split at h
    · rename_i hb
      obtain ⟨V', e1, e2⟩ := hF.loc h hl
      refine ⟨V', ?_, e2⟩
      rw [if_pos]
      · exact e1
      · rw [Nat.ble_eq, hl.nx]
        exact Nat.le_trans (hF.mono h).nx hl.room
    · cases h
theorem Local.evC (hc : CallL call rnd) (cl : FuncId → Bool) (ro : Option Nat) (N : Nat) : ∀ (n : Nat) (c : Code) (s : St), Local (Mir.evC P (Mir.opT P sy) call rnd cl ro N n c s) := by
  intro n
  induction n with
  | zero => intro c s; exact Local.fails
  | succ n ih =>
    intro c s
    cases c with
    | skip => exact Local.ret _
    | label l => exact Local.ret _
    | ret => exact Local.ret _
    | exit id => exact Local.ret _
    | seq a b =>
      simp only [Mir.evC]
      refine Local.congr (fun W => rfl) (Local.bind (G := fun r W => match r with
        | (.normal, s') => Mir.evC P (Mir.opT P sy) call rnd cl ro N n b s' W
        | r => some (r, W)) (ih a s) fun r => ?_)
      split
      · exact ih _ _
      · exact Local.ret _
    | cond x a b =>
      simp only [Mir.evC]
      split
      · exact ih _ _
      · exact ih _ _
      · exact Local.fails
    | block id b =>
      simp only [Mir.evC]
      refine Local.congr (fun W => rfl) (Local.bind (G := fun r W => match r with
        | (.exit i, s') => if i = id then some ((Ex.normal, s'), W) else some ((Ex.exit i, s'), W)
        | r => some (r, W)) (ih b s) fun r => ?_)
      split
      · split <;> exact Local.ret _
      · exact Local.ret _
    | loop b =>
      simp only [Mir.evC]
      refine Local.congr (fun W => rfl) (Local.bind (G := fun r W => match r with
        | (.normal, s') => Mir.evC P (Mir.opT P sy) call rnd cl ro N n (.loop b) s' W
        | r => some (r, W)) (ih b s) fun r => ?_)
      split
      · exact ih _ _
      · exact Local.ret _
    | region id ops dr =>
      cases dr with
      | false =>
        simp only [Mir.evC]
        exact Local.bind (Local.evL hc N ops _ s.1) fun sl' => Local.ret (Ex.normal, (sl', s.2))
      | true =>
        simp only [Mir.evC]
        refine Local.guardNx ?_
        refine Local.congr (fun W => rfl) (Local.bind (G := fun r W => if memOk (masks ops ops.size) r.2 r.2 0 then some ((Ex.normal, (r.1, s.2)), W) else none) (Local.evD hc N ops _ s.1) fun r => ?_)
        split
        · exact Local.ret _
        · exact Local.fails
    | rangeFunc g ps as bd =>
      simp only [Mir.evC]
      split
      · rename_i gf xs ys _
        split
        · refine Local.congr (fun W => rfl) (Local.bind (G := fun (p : Nat × List Deferred) (W : Tw) => match mkN p.2 with
            | some mks => (call gf ⟨xs.toList ++ (.func (.yield p.1) #[] #[] :: ys.toList)⟩ W).bind fun q => (runT P (Instr.endLoop p.1) q.2).bind fun r => match r.1 with
              | none => some ((Ex.normal, (s.1, mks ++ s.2)), r.2)
              | some .ret => some ((Ex.ret, (s.1, mks ++ s.2)), r.2)
              | some (.exit id) => some ((Ex.exit id, (s.1, mks ++ s.2)), r.2)
              | _ => none
            | none => none) (runT_local _) fun p => ?_)
          split
          · rename_i mks _
            refine Local.congr (fun W => rfl) (Local.bind (G := fun (_ : Value) (W : Tw) => (runT P (Instr.endLoop p.1) W).bind fun r => match r.1 with
              | none => some ((Ex.normal, (s.1, mks ++ s.2)), r.2)
              | some .ret => some ((Ex.ret, (s.1, mks ++ s.2)), r.2)
              | some (.exit id) => some ((Ex.exit id, (s.1, mks ++ s.2)), r.2)
              | _ => none) (hc.1 gf ⟨xs.toList ++ (.func (.yield p.1) #[] #[] :: ys.toList)⟩) fun q => ?_)
            refine Local.congr (fun W => rfl) (Local.bind (G := fun (r : Option Code) (W : Tw) => match r with
              | none => some ((Ex.normal, (s.1, mks ++ s.2)), W)
              | some .ret => some ((Ex.ret, (s.1, mks ++ s.2)), W)
              | some (.exit id) => some ((Ex.exit id, (s.1, mks ++ s.2)), W)
              | _ => none) (runT_local _) fun r => ?_)
            split
            · exact Local.ret _
            · exact Local.ret _
            · exact Local.ret _
            · exact Local.fails
          · exact Local.fails
        · exact Local.fails
      · exact Local.fails
    | _ => exact Local.fails
theorem Local.evR (hc : CallL call rnd) (cl : FuncId → Bool) (L l : Nat) (ts : Array Value) (as bd : Code) : Local (Mir.evR P (Mir.opT P sy) call rnd cl L l ts as bd) := by
  unfold Mir.evR
  split
  · refine Local.congr (fun W => rfl) (Local.bind (G := fun r W => match r with
      | (.normal, (s1, [])) => (runT P (Instr.beginRound l) W).bind fun b => (Mir.evC P (Mir.opT P sy) call rnd cl (some l) ts.size L bd (s1, []) b.2).bind fun q => match q.1 with
        | (ex, (_, [])) => runT P (Instr.endRound l (jmp ex)) q.2
        | _ => none
      | _ => none) (Local.evC hc cl (some l) ts.size L as _) fun r => ?_)
    split
    · rename_i s1
      refine Local.congr (fun W => rfl) (Local.bind (G := fun (_ : Unit) (W : Tw) => (Mir.evC P (Mir.opT P sy) call rnd cl (some l) ts.size L bd (s1, []) W).bind fun q => match q.1 with
        | (ex, (_, [])) => runT P (Instr.endRound l (jmp ex)) q.2
        | _ => none) (runT_local _) fun u => ?_)
      refine Local.congr (fun W => rfl) (Local.bind (G := fun r W => match r with
        | (ex, (_, [])) => runT P (Instr.endRound l (jmp ex)) W
        | _ => none) (Local.evC hc cl (some l) ts.size L bd _) fun r => ?_)
      split
      · exact runT_local _
      · exact Local.fails
    · exact Local.fails
  · exact Local.fails
theorem Local.takeA : ∀ l : List Nat, Local (Mir.takeA P l)
  | [] => Local.ret ()
  | d :: r => by
    refine Local.congr (fun W => by rw [Mir.takeA]) (Local.bind (G := fun (p : List Deferred) (W : Tw) => match p with
      | [] => Mir.takeA P r W
      | _ => none) (runT_local (Instr.takeDeferred d)) fun p => ?_)
    split
    · exact Local.takeA r
    · exact Local.fails
theorem Local.callB (hc : CallL call rnd) (L : Nat) (f : FuncId) (args : Array Value) : Local (Mir.callB P sy L call rnd f args) := by
  unfold Mir.callB
  split
  · rename_i fn _
    split
    · rename_i c _
      split
      · refine Local.congr (fun W => rfl) (Local.bind (G := fun r W => match r with
          | (.normal, s) => (Mir.takeA P s.2 W).bind fun q => runT P (resT fn (getS s.1)) q.2
          | (.ret, s) => (Mir.takeA P s.2 W).bind fun q => runT P (resT fn (getS s.1)) q.2
          | _ => none) (Local.evC (P := P) (sy := sy) hc (callable P) none fn.ntmps L c _) fun r => ?_)
        split
        · exact Local.bind (Local.takeA _) fun _ => runT_local _
        · exact Local.bind (Local.takeA _) fun _ => runT_local _
        · exact Local.fails
      · exact Local.fails
    · exact Local.fails
  · exact Local.fails
theorem Local.knT (kn : FuncId → List Value → Option Value) {c : CallT} (hc : ∀ f args, Local (c f args)) (f : FuncId) (args : Array Value) : Local (Mir.knT kn c f args) := by
  unfold Mir.knT
  split
  · exact Local.ret _
  · exact hc _ _
theorem Local.evFR (L : Nat) : ∀ n, CallL (Mir.evFR P sy L n).1 (Mir.evFR P sy L n).2 := by
  intro n
  induction n with
  | zero => exact ⟨fun f args => Local.fails, fun l ts as bd => Local.fails⟩
  | succ n ih => exact ⟨fun f args => Local.knT sy.kn (Local.callB (sy := sy) ih L) f args, fun l ts as bd => Local.evR ih (callable P) L l ts as bd⟩
end
end Mir

