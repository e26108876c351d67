import Derived.Test.YtljlhooodbfpiaaGreatDoorK2
import Derived.Laws.BytesArg
set_option linter.all false
namespace Caw
open Go Go.RowKit

section
variable {P : Program} {B : Base} {w w' : World} {E : Env} {st : St} {a : Act}

/-- A bound that may be left out. -/
def optI (st : St) : Option Operand → Option (Option Int)
  | none => some none
  | some x => match ev st x with
    | .v (.int _ n) => some (some n)
    | _ => none

def intV : AV → Bool
  | .v (.int _ _) => true
  | _ => false
theorem intV_flat {x : AV} (h : intV x = true) : flat x = [x] := by
  cases x with
  | v v => cases v <;> first | (cases h; done) | rfl
  | _ => cases h
def eslice (P : Program) (st : St) (d : Nat) (t : TypeId) (lo hi mx : Option Int) : AV → Option (AV × St)
  | .sl sz es tg =>
    if sliceT P t = some sz ∧ 0 ≤ lo.getD 0 ∧ lo.getD 0 ≤ hi.getD es.length ∧ hi.getD es.length ≤ es.length then
      (match mx with
      | none => some (.sl sz ((es.take (hi.getD es.length).toNat).drop (lo.getD 0).toNat) (if hi.isNone then tg else none), st)
      | some m => if some m = hi then some (.sl sz ((es.take (hi.getD es.length).toNat).drop (lo.getD 0).toNat) (some (nmOf d 0, st.G (nmOf d 0) + 1)), bump st (nmOf d 0)) else none)
    else none
  | .v (.slice none 0 0) => if (sliceT P t).isSome ∧ lo.getD 0 = 0 ∧ hi.getD 0 = 0 ∧ mx = none then some (.v (.slice none 0 0), st) else none
  | .osl n off len cap =>
    (match sliceT P t with
    | some sz => if 0 ≤ lo.getD 0 ∧ lo.getD 0 ≤ hi.getD len ∧ hi.getD len ≤ len ∧ len ≤ cap ∧ mx = none then
        some (.osl n (if cap = (lo.getD 0).toNat then off else off + (lo.getD 0).toNat * sz) ((hi.getD len).toNat - (lo.getD 0).toNat) (cap - (lo.getD 0).toNat), st) else none
    | none => none)
  | .v (.string s) => (match P.underlying t with
    | some .string => if 0 ≤ lo.getD 0 ∧ lo.getD 0 ≤ hi.getD s.size ∧ hi.getD s.size ≤ s.size ∧ mx = none then some (.v (.string (s.extract (lo.getD 0).toNat (hi.getD s.size).toNat)), st) else none
    | _ => none)
  | .rptr (.agg cs) 0 => (match arrT P t with
    | some (len, 1) => if 0 ≤ lo.getD 0 ∧ lo.getD 0 ≤ hi.getD len ∧ hi.getD len ≤ len ∧ mx = none ∧ cs.length = len ∧ cs.all intV = true then
        some (.sl 1 ((cs.take (hi.getD len).toNat).drop (lo.getD 0).toNat) none, st) else none
    | _ => none)
  | _ => none

theorem optI_of (h : Rel0 B E st a w) {x : Option Operand} {l : Option Int} (hx : optI st x = some l) :
    (x = none ∧ l = none) ∨ ∃ y k n, x = some y ∧ l = some n ∧ a.eval y = .int k n := by
  unfold optI at hx
  split at hx
  · cases hx; exact .inl ⟨rfl, rfl⟩
  · rename_i y
    split at hx
    case h_2 => cases hx
    rename_i k n hy
    cases hx
    have := ev_rel h y
    rw [hy] at this
    exact .inr ⟨y, k, n, rfl, rfl, V_v this⟩

/-- The bounds of a cut, run. -/
theorem bounds_run (h : Rel0 B E st a w) {lo hi mx : Option Operand} {l hh m : Option Int} (h1 : optI st lo = some l) (h2 : optI st hi = some hh) (h3 : optI st mx = some m)
    (sl : Bool) {len cap : Nat} (hc : len ≤ cap) (hl0 : 0 ≤ l.getD 0) (hlh : l.getD 0 ≤ hh.getD len) (hhl : hh.getD len ≤ len) (hm : m = none ∨ m = hh) :
    (Instr.sliceBounds sl len cap (lo.map a.eval) (hi.map a.eval) (mx.map a.eval)).run P w = .ok ((l.getD 0).toNat, (hh.getD len).toNat, (m.getD cap).toNat) w := by
  have bnd : ∀ (k : IntKind) (n : Int) (y : Nat) (code : BoundsCode), 0 ≤ n → n ≤ y → (Instr.sliceBound (.int k n) y code).run P w = .ok n.toNat w := by
    intro k n y code p q
    simp [Instr.sliceBound, asIntOf, p, q]
  rcases optI_of h h1 with ⟨rfl, rfl⟩ | ⟨y1, k1, n1, rfl, rfl, e1⟩ <;> rcases optI_of h h2 with ⟨rfl, rfl⟩ | ⟨y2, k2, n2, rfl, rfl, e2⟩ <;>
    rcases optI_of h h3 with ⟨rfl, rfl⟩ | ⟨y3, k3, n3, rfl, rfl, e3⟩ <;>
    simp only [Option.getD_none, Option.getD_some] at hl0 hlh hhl hm ⊢
  · simp [Instr.sliceBounds]
  · rcases hm with hm | hm <;> cases hm
  · simp only [Instr.sliceBounds, Option.map_none, Option.map_some, e2, Sem.run_bind, Sem.run_pure, Result.andThen_ok, bnd k2 n2 cap _ (by omega) (by omega)]
    simp
  · rcases hm with hm | hm
    · cases hm
    · cases hm
      simp only [Instr.sliceBounds, Option.map_none, Option.map_some, e2, e3, Sem.run_bind, Sem.run_pure, Result.andThen_ok, bnd k3 n2 cap _ (by omega) (by omega), bnd k2 n2 n2.toNat _ (by omega) (by omega)]
      simp
  · simp only [Instr.sliceBounds, Option.map_none, Option.map_some, e1, Sem.run_bind, Sem.run_pure, Result.andThen_ok, bnd k1 n1 len _ (by omega) (by omega)]
    simp
  · rcases hm with hm | hm <;> cases hm
  · simp only [Instr.sliceBounds, Option.map_none, Option.map_some, e1, e2, Sem.run_bind, Sem.run_pure, Result.andThen_ok, bnd k2 n2 cap _ (by omega) (by omega), bnd k1 n1 n2.toNat _ (by omega) (by omega)]
    simp
  · rcases hm with hm | hm
    · cases hm
    · cases hm
      simp only [Instr.sliceBounds, Option.map_some, e1, e2, e3, Sem.run_bind, Sem.run_pure, Result.andThen_ok, bnd k3 n2 cap _ (by omega) (by omega), bnd k2 n2 n2.toNat _ (by omega) (by omega), bnd k1 n1 n2.toNat _ (by omega) (by omega)]

theorem cut_getElem (es : List AV) (l hh i : Nat) (hi : i < ((es.take hh).drop l).length) : ∃ hj : l + i < es.length, ((es.take hh).drop l)[i] = es[l + i] := by
  simp at hi
  refine ⟨by omega, ?_⟩
  simp

/-- A part of a slice. -/
theorem PV_cut {pr : Pr} {sz : Nat} {es : List AV} {tg tg' : Tg} {ao : Option Addr} {len cap m l hh : Nat} (h : PV w pr (.sl sz es tg) (.slice ao len cap)) (hlh : l ≤ hh) (hhl : hh ≤ len) (hm : hh ≤ m) :
    PV w pr (.sl sz ((es.take hh).drop l) tg') (.slice (if m = l then ao else ao.map (·.add (l * sz))) (hh - l) (m - l)) := by
  by_cases h0 : hh = l
  · have e : (es.take hh).drop l = [] := by rw [List.drop_eq_nil_iff]; simp; omega
    rw [e, h0, Nat.sub_self]
    exact .nil _ _
  · cases h with
    | nil => omega
    | sl cells hle hs hp hv hc =>
      rename_i b off
      rw [if_neg (by omega)]
      have e1 : hh - l = ((es.take hh).drop l).length := by simp; omega
      rw [e1]
      simp only [Option.map_some, add_none]
      refine .sl (fun i j => cells (l + i) j) (by omega) (fun i hi => ?_) (fun i hi j hj => ?_) (fun i hi j hj => ?_) (fun i hi j hj => ?_)
      · obtain ⟨hj, e⟩ := cut_getElem es l hh i hi
        rw [e]; exact hs _ hj
      · obtain ⟨hj', e⟩ := cut_getElem es l hh i hi
        have := hp _ hj' j hj
        rw [Nat.add_mul] at this
        simpa [Nat.add_assoc] using this
      · obtain ⟨hj', e⟩ := cut_getElem es l hh i hi
        have := hv _ hj' j (by rw [← e]; exact hj)
        simpa [e] using this
      · obtain ⟨hj', e⟩ := cut_getElem es l hh i hi
        have := hc _ hj' j hj
        rw [Nat.add_mul] at this
        simpa [Nat.add_assoc] using this

theorem V_sl_inv {sz : Nat} {es : List AV} {tg : Tg} {y : Value} (h : V E st w (.sl sz es tg) y) : ∃ ao cap, y = .slice ao es.length cap ∧ es.length ≤ cap := by
  cases h with
  | sl h ht =>
    cases h with
    | nil ao cap => exact ⟨ao, cap, rfl, Nat.zero_le _⟩
    | sl cells hle => exact ⟨_, _, rfl, hle⟩

theorem map_add_zero (ao : Option Addr) : ao.map (·.add 0) = ao := by
  cases ao <;> simp [Addr.add]

theorem slice_sound (h : Rel0 B E st a w) {o : Oper} {t : TypeId} {d : Nat} {x : Operand} {lo hi mx : Option Operand} {l hh m : Option Int} (ho : o.op = .slice t x lo hi mx)
    (h1 : optI st lo = some l) (h2 : optI st hi = some hh) (h3 : optI st mx = some m) {r : AV} {st' : St} (he : eslice P st d t l hh m (ev st x) = some (r, st')) (hd : ∀ d, o.dst = some d → d < B.N) (Q : Exit → Act → World → Prop) :
    o.wp P a w (fun a' w' => Rel B (putSt st' o.dst r) a' w') Q := by
  have hx := ev_rel h x
  unfold eslice at he
  split at he
  · rename_i sz es tg hpe
    rw [hpe] at hx
    split at he
    case isFalse => cases he
    rename_i hc
    obtain ⟨hT, c1, c2, c3⟩ := hc
    obtain ⟨e, hu, hs⟩ := sliceT_of hT
    obtain ⟨ao, cap, hy, hle⟩ := V_sl_inv hx
    have hmm : m = none ∨ m = hh := by
      cases m with
      | none => exact .inl rfl
      | some q =>
        simp only at he
        split at he
        · rename_i hq; exact .inr hq
        · cases he
    have hb := bounds_run (P := P) h h1 h2 h3 true hle c1 c2 c3 hmm
    have hrun : (execOp a.eval o).run P w = .ok (.value (.slice (if (m.getD cap).toNat = (l.getD 0).toNat then ao else ao.map (·.add ((l.getD 0).toNat * sz))) ((hh.getD es.length).toNat - (l.getD 0).toNat) ((m.getD cap).toNat - (l.getD 0).toNat))) w := by
      unfold execOp
      simp only [ho, hy, Sem.run_bind, Instr.sliceAt, run_underlying hu w, Result.andThen_ok, Instr.slice, hb, sizeT_run hs w, Sem.run_pure]
    rw [hy] at hx
    have hpv : PV w E.pr (.sl sz es tg) (.slice ao es.length cap) := by cases hx with | sl h _ => exact h
    have hmle : (hh.getD es.length).toNat ≤ (m.getD cap).toNat ∧ (m.getD cap).toNat ≤ cap := by
      rcases hmm with rfl | rfl
      · simp only [Option.getD_none]; omega
      · cases m with
        | none => simp only [Option.getD_none]; omega
        | some q => simp only [Option.getD_some] at c3 ⊢; omega
    have hcut := fun tg' => PV_cut (tg' := tg') hpv (l := (l.getD 0).toNat) (hh := (hh.getD es.length).toNat) (m := (m.getD cap).toNat) (by omega) (by omega) hmle.1
    cases m with
    | none =>
      simp only [Option.some.injEq, Prod.mk.injEq] at he
      obtain ⟨rfl, rfl⟩ := he
      refine wp_yield h hrun (.sl (hcut _) (fun n g hn => ?_)) hd Q
      split at hn
      case isFalse => cases hn
      rename_i hnone
      have e0 : hh = none := by simpa using hnone
      subst e0
      simp only [Option.getD_none] at hcut c2 c3 ⊢
      have ht : g ≤ st.G n ∧ (g = st.G n → TagOk w E.τ n sz (.slice ao es.length cap)) := by cases hx with | sl _ ht => exact ht n g hn
      refine ⟨ht.1, fun hg => ?_⟩
      rcases ht.2 hg with h5 | ⟨b, off, vs, e', h5, h6, h7, h8, h9⟩
      · left; simp only [Int.toNat_natCast]; omega
      · by_cases hcl : cap = (l.getD 0).toNat
        · left; simp only [Int.toNat_natCast]; omega
        · right
          have hcl' : ((cap : Nat) : Int).toNat = cap := by simp
          refine ⟨b, off + (l.getD 0).toNat * sz, vs, e', ?_, by simp only [Int.toNat_natCast]; omega, ?_, h8, ?_⟩
          · rw [if_neg (by rw [hcl']; exact hcl), h5]; simp [add_none]
          · rw [h7]
            simp only [Int.toNat_natCast]
            have : es.length * sz = (l.getD 0).toNat * sz + (es.length - (l.getD 0).toNat) * sz := by rw [← Nat.add_mul]; congr 1; omega
            rw [this, Nat.add_assoc]
          · simp only [Int.toNat_natCast]
            have : cap * sz = (l.getD 0).toNat * sz + (cap - (l.getD 0).toNat) * sz := by rw [← Nat.add_mul]; congr 1; omega
            omega
    | some q =>
      simp only at he
      split at he
      case isFalse => cases he
      rename_i hq
      simp only [Option.some.injEq, Prod.mk.injEq] at he
      obtain ⟨rfl, rfl⟩ := he
      subst hq
      have h4 := h.tag (nmOf d 0) none (fun b e he => by cases he)
      refine wp_value (w' := w) hrun ⟨_, h4.putSt hd (.sl (hcut _) (fun n g hn => ?_))⟩
      simp only [Option.some.injEq, Prod.mk.injEq] at hn
      obtain ⟨rfl, rfl⟩ := hn
      exact ⟨by simp [setF], fun _ => .inl (by simp)⟩
  · rename_i hpe
    rw [hpe] at hx
    split at he
    case isFalse => cases he
    rename_i hc
    obtain ⟨hT, c1, c2, rfl⟩ := hc
    simp only [Option.some.injEq, Prod.mk.injEq] at he
    obtain ⟨rfl, rfl⟩ := he
    obtain ⟨sz, hT⟩ := Option.isSome_iff_exists.1 hT
    obtain ⟨e, hu, hs⟩ := sliceT_of hT
    have hb := bounds_run (P := P) h h1 h2 h3 true (len := 0) (cap := 0) (Nat.le_refl _) (by omega) (by simp only [Int.natCast_zero]; omega) (by simp only [Int.natCast_zero]; omega) (.inl rfl)
    refine wp_yield h (y := .slice none 0 0) ?_ (.v _) hd Q
    unfold execOp
    simp only [ho, V_v hx, Sem.run_bind, Instr.sliceAt, run_underlying hu w, Result.andThen_ok, Instr.slice, hb, sizeT_run hs w, Sem.run_pure]
    simp [c1, c2]
  · rename_i n off len cap hpe
    rw [hpe] at hx
    split at he
    case h_2 => cases he
    rename_i sz hT
    split at he
    case isFalse => cases he
    rename_i hc
    obtain ⟨c1, c2, c3, c4, rfl⟩ := hc
    simp only [Option.some.injEq, Prod.mk.injEq] at he
    obtain ⟨rfl, rfl⟩ := he
    obtain ⟨e, hu, hs⟩ := sliceT_of hT
    have hb := bounds_run (P := P) h h1 h2 h3 true c4 c1 c2 c3 (.inl rfl)
    generalize hval : a.eval x = val at hx
    cases hx with
    | osl hn =>
      refine wp_yield h (y := .slice (some ⟨E.ρ n, if cap = (l.getD 0).toNat then off else off + (l.getD 0).toNat * sz, none⟩) ((hh.getD len).toNat - (l.getD 0).toNat) (cap - (l.getD 0).toNat)) ?_ (.osl hn) hd Q
      unfold execOp
      simp only [ho, hval, Sem.run_bind, Instr.sliceAt, run_underlying hu w, Result.andThen_ok, Instr.slice, hb, sizeT_run hs w, Sem.run_pure]
      simp only [Option.getD_none, Int.toNat_natCast, Option.map_some, add_none]
      by_cases hq : cap = (l.getD 0).toNat <;> simp [hq]
  · rename_i s hpe
    rw [hpe] at hx
    split at he
    case h_2 => cases he
    rename_i hu
    split at he
    case isFalse => cases he
    rename_i hc
    obtain ⟨c1, c2, c3, rfl⟩ := hc
    simp only [Option.some.injEq, Prod.mk.injEq] at he
    obtain ⟨rfl, rfl⟩ := he
    have hb := bounds_run (P := P) h h1 h2 h3 false (len := s.size) (cap := s.size) (Nat.le_refl _) c1 c2 c3 (.inl rfl)
    have e3 : mx = none := by
      rcases optI_of h h3 with ⟨e, _⟩ | ⟨_, _, _, _, e, _⟩
      · exact e
      · cases e
    subst e3
    refine wp_yield h (y := .string (s.extract (l.getD 0).toNat (hh.getD s.size).toNat)) ?_ (.v _) hd Q
    unfold execOp
    simp only [Option.map_none] at hb
    simp only [ho, V_v hx, Sem.run_bind, Instr.sliceAt, run_underlying hu w, Result.andThen_ok, Instr.slice, Option.map_none, Option.isSome_none, Bool.false_eq_true, if_false, hb, Sem.run_pure]
  · rename_i cs hpe
    rw [hpe] at hx
    split at he
    case h_2 => cases he
    rename_i len hA
    unfold arrT at hA
    split at hA
    case h_2 => cases hA
    rename_i n' e hu
    simp only [Option.map_eq_some_iff, Prod.mk.injEq] at hA
    obtain ⟨s', hs, rfl, rfl⟩ := hA
    split at he
    case isFalse => cases he
    rename_i hc
    obtain ⟨c1, c2, c3, rfl, rfl, c5⟩ := hc
    simp only [Option.some.injEq, Prod.mk.injEq] at he
    obtain ⟨rfl, rfl⟩ := he
    have hb := bounds_run (P := P) h h1 h2 h3 false (len := cs.length) (cap := cs.length) (Nat.le_refl _) c1 c2 c3 (.inl rfl)
    generalize hval : a.eval x = val at hx
    cases hx with
    | rptr cells hp hv hcc =>
      rename_i b off
      have hfl : ∀ i (hi : i < cs.length), flat cs[i] = [cs[i]] := fun i hi => intV_flat (List.all_eq_true.1 c5 _ (List.getElem_mem hi))
      have hpv : PV w E.pr (.sl 1 cs none) (.slice (some ⟨b, off, none⟩) cs.length cs.length) := by
        refine .sl (fun i _ => cells i) (Nat.le_refl _) (fun i hi => by rw [hfl i hi]; rfl) (fun i hi j hj => ?_) (fun i hi j hj => ?_) (fun i hi j hj => ?_)
        · have : j = 0 := by omega
          subst this
          simpa using hp i hi
        · have hj0 : j = 0 := by rw [hfl i hi] at hj; simpa using hj
          subst hj0
          have e1 : (flat cs[i])[0] = cs[i] := by simp [hfl i hi]
          rw [e1]
          exact hv i hi
        · have : j = 0 := by omega
          subst this
          simpa using hcc i hi
      have hcut := PV_cut (tg' := none) hpv (l := (l.getD 0).toNat) (hh := (hh.getD cs.length).toNat) (m := cs.length) (by omega) (by omega) (by omega)
      refine wp_yield h ?_ (.sl hcut (fun n g hn => by cases hn)) hd Q
      unfold execOp
      simp only [ho, hval, Sem.run_bind, Instr.sliceAt, run_underlying hu w, Result.andThen_ok, Instr.sureAddr, hb, sizeT_run hs w, Sem.run_pure]
      simp only [Option.getD_none, Int.toNat_natCast, Nat.add_zero]
      split <;> simp
  · cases he

/-- A new array, as an object. -/
def emake (P : Program) (st : St) (d : Nat) (t : TypeId) (n : Int) : Option (AV × St) :=
  match P.underlying t with
  | some (.slice e) => (match P.info? e with
    | some i => (match i.zero with
      | some z => if 0 ≤ n ∧ n * (i.bytes + 1) ≤ 1099511627776 ∧ (st.ob (nmOf d 0)).isNone = true then
          some (if i.size = 1 then .osl (nmOf d 0) 0 n.toNat n.toNat else .own (nmOf d 0) i.size n.toNat, { st with ob := setF st.ob (nmOf d 0) (some ((madeCells z.cells (n.toNat * i.size)).toList.map .v)) }) else none
      | none => none)
    | none => none)
  | _ => none

theorem make_sound (h : Rel0 B E st a w) {o : Oper} {t : TypeId} {d : Nat} {x y : Operand} {k1 k2 : IntKind} {n : Int} (ho : o.op = .makeSlice t x y)
    (h1 : ev st x = .v (.int k1 n)) (h2 : ev st y = .v (.int k2 n)) {r : AV} {st' : St} (he : emake P st d t n = some (r, st')) (hd : ∀ d, o.dst = some d → d < B.N) (Q : Exit → Act → World → Prop) :
    o.wp P a w (fun a' w' => Rel B (putSt st' o.dst r) a' w') Q := by
  have hx : a.eval x = .int k1 n := by have := ev_rel h x; rw [h1] at this; exact V_v this
  have hy : a.eval y = .int k2 n := by have := ev_rel h y; rw [h2] at this; exact V_v this
  unfold emake at he
  split at he
  case h_2 => cases he
  rename_i e hu
  split at he
  case h_2 => cases he
  rename_i i hi
  split at he
  case h_2 => cases he
  rename_i z hz
  split at he
  case isFalse => cases he
  rename_i hc
  obtain ⟨c1, c2, c3⟩ := hc
  simp only [Option.some.injEq, Prod.mk.injEq] at he
  obtain ⟨rfl, rfl⟩ := he
  have hn : st.ob (nmOf d 0) = none := by simpa using c3
  have c2' : n * (i.bytes : Int) + n ≤ 1099511627776 := by rw [Int.mul_add] at c2; omega
  have hb : (0 : Int) ≤ n * (i.bytes : Int) := Int.mul_nonneg c1 (by omega)
  have hr := run_make (P := P) w t e i z hu hi hz k1 k2 n n c1 (Int.le_refl _) (by rw [Int.mul_comm]; omega) (by omega)
  have hrun : (execOp a.eval o).run P w = .ok (.value (.slice (some ⟨w.heap.size, 0, none⟩) n.toNat n.toNat)) (w.alloc (.cells (madeCells z.cells (n.toNat * i.size)) e)) := by
    unfold execOp
    simp only [ho, hx, hy, Sem.run_bind, hr, Result.andThen_ok, Sem.run_pure]
  have h4 := h.alloc hn (by simp [nmOf]) (cs := (madeCells z.cells (n.toNat * i.size)).toList.map .v) (vs := madeCells z.cells (n.toNat * i.size)) e (by simp) (fun j hj => by
    have hj' : j < (madeCells z.cells (n.toNat * i.size)).size := by simpa using hj
    have e1 : ((madeCells z.cells (n.toNat * i.size)).toList.map AV.v)[j] = .v ((madeCells z.cells (n.toNat * i.size)).getD j undef) := by simp [hj']
    rw [e1]
    exact .v _)
  have e2 : (Value.slice (some ⟨w.heap.size, 0, none⟩) n.toNat n.toNat) = .slice (some ⟨setF E.ρ (nmOf d 0) w.heap.size (nmOf d 0), 0, none⟩) n.toNat n.toNat := by simp [setF]
  rw [e2] at hrun
  refine wp_value hrun ⟨_, h4.putSt hd ?_⟩
  split
  · refine .osl (E := { E with ρ := setF E.ρ (nmOf d 0) w.heap.size }) ?_
    simp [setF]
  · obtain ⟨us, e', q1, q2, -⟩ := h4.ob (nmOf d 0) ((madeCells z.cells (n.toNat * i.size)).toList.map .v) (by simp [setF])
    exact .own (E := { E with ρ := setF E.ρ (nmOf d 0) w.heap.size }) (by simp [setF]) (Nat.le_refl _) ⟨us, e', q1, by simpa [madeCells] using q2⟩

/-- A row with room, of which nothing is used yet. -/
def emakeR (P : Program) (st : St) (d : Nat) (t : TypeId) (m : Int) : Option (AV × St) :=
  match P.underlying t with
  | some (.slice e) => (match P.info? e with
    | some i => (match i.zero with
      | some _ => if 0 ≤ m ∧ m * (i.bytes + 1) ≤ 1099511627776 ∧ sliceT P t = some i.size then
          some (.sl i.size [] (some (nmOf d 0, st.G (nmOf d 0) + 1)), bump st (nmOf d 0)) else none
      | none => none)
    | none => none)
  | _ => none

theorem makeR_sound (h : Rel0 B E st a w) {o : Oper} {t : TypeId} {d : Nat} {x y : Operand} {k1 k2 : IntKind} {m : Int} (ho : o.op = .makeSlice t x y)
    (h1 : ev st x = .v (.int k1 0)) (h2 : ev st y = .v (.int k2 m)) {r : AV} {st' : St} (he : emakeR P st d t m = some (r, st')) (hd : ∀ d, o.dst = some d → d < B.N) (Q : Exit → Act → World → Prop) :
    o.wp P a w (fun a' w' => Rel B (putSt st' o.dst r) a' w') Q := by
  have hx : a.eval x = .int k1 0 := by have := ev_rel h x; rw [h1] at this; exact V_v this
  have hy : a.eval y = .int k2 m := by have := ev_rel h y; rw [h2] at this; exact V_v this
  unfold emakeR at he
  split at he
  case h_2 => cases he
  rename_i e hu
  split at he
  case h_2 => cases he
  rename_i i hi
  split at he
  case h_2 => cases he
  rename_i z hz
  split at he
  case isFalse => cases he
  rename_i hc
  obtain ⟨c1, c2, c3⟩ := hc
  simp only [Option.some.injEq, Prod.mk.injEq] at he
  obtain ⟨rfl, rfl⟩ := he
  have c2' : m * (i.bytes : Int) + m ≤ 1099511627776 := by rw [Int.mul_add] at c2; omega
  have hb : (0 : Int) ≤ m * (i.bytes : Int) := Int.mul_nonneg c1 (by omega)
  have hr := run_make (P := P) w t e i z hu hi hz k1 k2 0 m (Int.le_refl _) c1 (by rw [Int.mul_comm]; omega) (by omega)
  have hrun : (execOp a.eval o).run P w = .ok (.value (.slice (some ⟨w.heap.size, 0, none⟩) 0 m.toNat)) (w.alloc (.cells (madeCells z.cells (m.toNat * i.size)) e)) := by
    unfold execOp
    simp only [ho, hx, hy, Sem.run_bind, hr, Result.andThen_ok, Sem.run_pure]
    rfl
  obtain ⟨E', h4, hv⟩ := h.row_new (w1 := w) rfl rfl rfl rfl (nmOf d 0) (es := []) (sz := i.size) (cap := m.toNat) (vs := madeCells z.cells (m.toNat * i.size)) (e := e) (fun i hi => absurd hi (by simp)) (Nat.zero_le _) (by simp [madeCells]) (fun i hi => absurd hi (by simp))
  exact wp_value hrun ⟨_, h4.putSt hd hv⟩

/-- 'copy' into an object's array of cells. -/
def ecopy (P : Program) (st : St) (t : TypeId) (x y : AV) : Option (AV × St) :=
  match x, srcT y with
  | .osl n off len _, some (b, ys) => (match st.ob n with
    | some cs => if sliceT P t = some 1 ∧ b.all (· == 1) = true ∧ off + min ys.length len ≤ cs.length ∧ (ys.all fun y => (flat y).all leafOk) = true then
        some (.v (.int .i64 (min ys.length len : Nat)), { st with ob := setF st.ob n (some (splice cs off (((ys.take (min ys.length len)).flatMap flat).map strip) (min ys.length len))) }) else none
    | none => none)
  | _, _ => none

theorem SlR.rows {pr : Pr} : ∀ {ys : List AV} {b off : Nat} {us : List Value}, SlR w pr 1 ys b off us → All2 (PV w pr) (ys.flatMap flat) us
  | [], b, off, us, h => by
    have := h.len
    simp at this
    subst this
    exact .nil
  | y :: r, b, off, us, h => by
    have hlen := h.len
    cases us with
    | nil => simp at hlen
    | cons u q =>
      have hf : (flat y).length = 1 := h.fl 0 (Nat.zero_lt_succ _)
      have h0 := h.rel 0 (Nat.zero_lt_succ _) 0 (by simp only [List.getElem_cons_zero]; omega)
      simp only [List.getElem_cons_zero] at h0
      have ht : SlR w pr 1 r b (off + 1) q := by
        refine ⟨by simpa using hlen, fun i hi => h.fl (i + 1) (Nat.succ_lt_succ hi), fun k hk => ?_, fun i hi j hj => ?_, fun k v hk => ?_⟩
        · have := h.prot (k + 1) (by simpa using hk)
          rwa [Nat.add_comm k 1, ← Nat.add_assoc] at this
        · have := h.rel (i + 1) (Nat.succ_lt_succ hi) j hj
          have e : (u :: q).getD ((i + 1) * 1 + j) undef = q.getD (i * 1 + j) undef := by
            have : (i + 1) * 1 + j = i * 1 + j + 1 := by omega
            rw [this]
            simp only [List.getD, List.getElem?_cons_succ]
          rw [e] at this
          exact this
        · have := h.cell (k + 1) v (by simpa using hk)
          rwa [Nat.add_comm k 1, ← Nat.add_assoc] at this
      obtain ⟨c, hc⟩ := List.length_eq_one_iff.1 hf
      simp only [List.flatMap_cons, hc]
      refine All2.append (cs := [c]) (vs := [u]) (.cons ?_ .nil) (SlR.rows ht)
      have e0 : (flat y)[0]'(by omega) = c := by simp [hc]
      rw [e0] at h0
      simpa [List.getD] using h0

theorem goInt_eq (n : Nat) : (goInt n) = .int .i64 n := rfl

theorem setF_same {α : Type} (f : Nm → α) (n : Nm) : setF f n (f n) = f := by
  funext i
  simp only [setF]
  split
  · rename_i h; rw [h]
  · rfl

theorem All2.map_strip {cs : List AV} {vs : List Value} (h : All2 (PV w E.pr) cs vs) : All2 (V E st w) (cs.map strip) vs :=
  ⟨by simpa using h.1, fun i hi => by
    have hi' : i < cs.length := by simpa using hi
    rw [List.getElem_map]
    exact V_strip (h.2 i hi')⟩

theorem run_copy_zero {dT sT ty elem : TypeId} {d : Option Addr} {dLen dCap : Nat} {ao : Option Addr} {c : Nat} (hu : P.underlying dT = some (.slice elem)) (hs : (P.info? elem).map (·.size) = some 1) :
    (Builtin.copy_ #[dT, sT] ty #[.slice d dLen dCap, .slice ao 0 c]).run P w = .ok (goInt 0) w := by
  cases hq : P.info? elem with
  | none => simp [hq] at hs
  | some i =>
    cases ao <;> cases d <;> simp [Builtin.copy_, run_underlying hu, Builtin.lenOf, Builtin.firstCells, Go.sizeOf, typeInfo, hq, storeCells, loadCells, loadCellsFrom]

theorem copy_sound (h : Rel0 B E st a w) {dT sT ty : TypeId} {x y r : AV} {vx vy : Value} {st' : St} (hx : V E st w x vx) (hy : V E st w y vy) (he : ecopy P st dT x y = some (r, st')) :
    ∃ v' w', (Builtin.copy_ #[dT, sT] ty #[vx, vy]).run P w = .ok v' w' ∧ Rel0 B E st' a w' ∧ V E st' w' r v' := by
  unfold ecopy at he
  split at he
  case h_2 => cases he
  rename_i n off len cap b ys hS
  split at he
  case h_2 => cases he
  rename_i cs hn
  split at he
  case isFalse => cases he
  rename_i hc
  obtain ⟨hT, hb, hfit, hleaf⟩ := hc
  simp only [Option.some.injEq, Prod.mk.injEq] at he
  obtain ⟨rfl, rfl⟩ := he
  obtain ⟨e, hu, hs⟩ := sliceT_of hT
  have hs' : (P.info? e).map (·.size) = some 1 := hs
  have hb' : b.all (· == 1) = true := hb
  cases hx with
  | osl hob =>
  have zero : ys = [] → (∃ ao c, vy = .slice ao 0 c) → ∃ v' w', (Builtin.copy_ #[dT, sT] ty #[.slice (some ⟨E.ρ n, off, none⟩) len cap, vy]).run P w = .ok v' w' ∧
      Rel0 B E { st with ob := setF st.ob n (some (cs.take off ++ ((ys.take (min ys.length len)).flatMap flat).map strip ++ cs.drop (off + min ys.length len))) } a w' ∧
      V E { st with ob := setF st.ob n (some (cs.take off ++ ((ys.take (min ys.length len)).flatMap flat).map strip ++ cs.drop (off + min ys.length len))) } w' (.v (.int .i64 (min ys.length len : Nat))) v' := by
    rintro rfl ⟨ao, c, rfl⟩
    refine ⟨_, _, run_copy_zero hu hs', ?_, ?_⟩
    · have e1 : (cs.take off ++ (([].take (min ([] : List AV).length len)).flatMap flat).map strip ++ cs.drop (off + min ([] : List AV).length len)) = cs := by simp
      rw [e1, ← hn, setF_same]
      exact h
    · simp only [List.length_nil, Nat.zero_min]
      exact .v _
  rcases src_of hy hS hb' with ⟨h2, h3⟩ | ⟨bl, xoff, c, us, rfl, hus⟩
  · exact zero h2 h3
  · have hul : us.length = ys.length := by have := hus.len; omega
    have hrows := SlR.rows hus
    have hfr : (ys.flatMap flat).length = ys.length := by rw [hrows.1, hul]
    -- the first ones
    have htake : ∀ (l : List AV) (k : Nat), (∀ i (hi : i < l.length), (flat l[i]).length = 1) → (l.take k).flatMap flat = (l.flatMap flat).take k := by
      intro l
      induction l with
      | nil => intro k _; simp
      | cons z q ih =>
        intro k hz
        have h1 : (flat z).length = 1 := hz 0 (Nat.zero_lt_succ _)
        obtain ⟨c, hc⟩ := List.length_eq_one_iff.1 h1
        cases k with
        | zero => simp
        | succ k =>
          simp only [List.take_succ_cons, List.flatMap_cons, hc, List.cons_append, List.nil_append, List.take_succ_cons]
          rw [ih k (fun i hi => hz (i + 1) (Nat.succ_lt_succ hi))]
    have ht := htake ys (min ys.length len) hus.fl
    have hA : All2 (PV w E.pr) ((ys.take (min ys.length len)).flatMap flat) (us.take (min ys.length len)) := by rw [ht]; exact hrows.take _
    have hA2 : All2 (V E st w) (((ys.take (min ys.length len)).flatMap flat).map strip) (us.take (min ys.length len)) := hA.map_strip
    have hlen : (((ys.take (min ys.length len)).flatMap flat).map strip).length = min ys.length len := by
      rw [hA2.1, List.length_take, hul]; omega
    obtain ⟨vs, e', hh, hle, hw⟩ := h.write hn (k := off) (by rw [hlen]; exact hfit) hA2
    have hone : ∀ v ∈ us.take (min ys.length len), v.oneCell' = true := fun v hv => hus.one hleaf v (List.mem_of_mem_take hv)
    have hcl : (us.take (min ys.length len)).length = min ys.length len := by rw [List.length_take, hul]; omega
    have hrun := run_copy_row (P := P) w dT sT ty e (E.ρ n) off len cap ⟨bl, xoff, none⟩ ys.length c vs e' (us.take (min ys.length len)) hu hs' hh (hcl.trans rfl) (fun j v hj => by
      rw [add_none]
      refine hus.cell j v ?_
      rw [List.getElem?_take] at hj
      split at hj
      · exact hj
      · cases hj) (by rw [hcl]; omega) hone
    refine ⟨_, _, hrun, ?_, ?_⟩
    · rw [hlen] at hw
      exact hw
    · rw [hcl]
      exact .v _

/-! ### Texts and bytes -/
def bytesOf : List AV → Option (List Int)
  | [] => some []
  | .v (.int .u8 n) :: r => (bytesOf r).map (n :: ·)
  | _ :: _ => none

def ebytes (P : Program) (s d : TypeId) : AV → Option AV
  | .sl _ es _ => (match P.underlying s, P.underlying d with
    | some (.slice e), some .string => (match P.underlying e, sizeT P e, bytesOf es with
      | some (.int .u8), some 1, some l => some (.v (.string ⟨(l.map fun n => UInt8.ofNat n.toNat).toArray⟩))
      | _, _, _ => none)
    | _, _ => none)
  | .v (.slice none 0 0) => (match P.underlying s, P.underlying d with
    | some (.slice e), some .string => (match P.underlying e with
      | some (.int .u8) => some (.v (.string ⟨#[]⟩))
      | _ => none)
    | _, _ => none)
  | .v (.string t) => (match P.underlying s, P.underlying d with
    | some .string, some (.slice e) => (match P.underlying e, sizeT P e with
      | some (.int .u8), some 1 => some (.sl 1 (t.data.toList.map fun b => .v (.int .u8 b.toNat)) none)
      | _, _ => none)
    | _, _ => none)
  | _ => none

theorem bytesOf_cells : ∀ {es : List AV} {l : List Int}, bytesOf es = some l → es = l.map (fun n => .v (.int .u8 n))
  | [], l, h => by simp only [bytesOf, Option.some.injEq] at h; subst h; rfl
  | x :: r, l, h => by
    unfold bytesOf at h
    split at h
    · rename_i he; cases he
    · rename_i n r' he
      simp only [List.cons.injEq] at he
      obtain ⟨rfl, rfl⟩ := he
      simp only [Option.map_eq_some_iff] at h
      obtain ⟨l', hl, rfl⟩ := h
      rw [bytesOf_cells hl]
      rfl
    · cases h

theorem bytes_sound (h : Rel0 B E st a w) {o : Oper} {s d : TypeId} {x : Operand} (ho : o.op = .convert s d x) {r : AV} (he : ebytes P s d (ev st x) = some r) (hd : ∀ d, o.dst = some d → d < B.N) (Q : Exit → Act → World → Prop) :
    o.wp P a w (fun a' w' => Rel B (putSt st o.dst r) a' w') Q := by
  have hx := ev_rel h x
  have fin : ∀ y, (convert s d (a.eval x)).run P w = .ok y w → V E st w r y → o.wp P a w (fun a' w' => Rel B (putSt st o.dst r) a' w') Q := by
    intro y hy hv
    refine wp_yield h (y := y) ?_ hv hd Q
    unfold execOp
    simp only [ho, Sem.run_bind, hy, Result.andThen_ok, Sem.run_pure]
  unfold ebytes at he
  split at he
  · rename_i sz es tg hpe
    rw [hpe] at hx
    split at he
    case h_2 => cases he
    rename_i e hs hds
    split at he
    case h_2 => cases he
    rename_i l hu8 hsz hb
    simp only [Option.some.injEq] at he
    subst he
    have hes := bytesOf_cells hb
    generalize hval : a.eval x = val at hx fin
    cases hx with
    | sl hpv ht =>
      cases hpv with
      | nil ao cap =>
        have hl : l = [] := by
          cases l with
          | nil => rfl
          | cons => simp at hes
        subst hl
        refine fin (.string ⟨#[]⟩) ?_ (.v _)
        cases ao with
        | none =>
          rw [run_convert_bytes_string w s d e none 0 cap hs hu8 hds]
          simp [Conv.bytesToString]
          rfl
        | some ad =>
          obtain ⟨b, off, spot⟩ := ad
          rw [run_convert_bytes_string w s d e _ 0 cap hs hu8 hds]
          simp [Conv.bytesToString, loadCells, loadCellsFrom]
          rfl
      | sl cells hle hsz' hpr hh hcell =>
        rename_i b off cap
        subst hes
        by_cases hl0 : l = []
        · subst hl0
          refine fin (.string ⟨#[]⟩) ?_ (.v _)
          simp only [List.map_nil, List.length_nil]
          rw [run_convert_bytes_string w s d e _ 0 cap hs hu8 hds]
          simp [Conv.bytesToString, loadCells, loadCellsFrom]
          rfl
        have hsz1 : sz = 1 := by
          have h0 : 0 < (l.map fun n => AV.v (.int .u8 n)).length := by simpa using List.length_pos_iff.2 hl0
          have := hsz' 0 h0
          simp only [List.getElem_map, flat, List.length_cons, List.length_nil] at this
          omega
        subst hsz1
        have hr := run_convert_bytes_arg (P := P) w s e hs hu8 b off (l.map fun n => AV.v (.int .u8 n)).length cap l (by simp) (fun i hi => by
          have hi' : i < l.length := by simpa using hi
          have h1 := hcell i hi 0 (by omega)
          have h2 := hh i hi 0 (by simp [flat])
          simp only [List.getElem_map, flat, List.getElem_cons_zero] at h2
          have h3 : cells i 0 = .int .u8 l[i] := by
            generalize cells i 0 = c at h2
            cases h2; rfl
          rw [h3] at h1
          have h4 : l.getD i 0 = l[i] := by simp [List.getD, hi']
          rw [h4]
          simpa using h1) d hds
        exact fin _ hr (.v _)
  · rename_i hpe
    rw [hpe] at hx
    split at he
    case h_2 => cases he
    rename_i e hs hds
    split at he
    case h_2 => cases he
    rename_i hu8
    simp only [Option.some.injEq] at he
    subst he
    refine fin (.string ⟨#[]⟩) ?_ (.v _)
    rw [V_v hx]
    rw [run_convert_bytes_string w s d e none 0 0 hs hu8 hds]
    simp [Conv.bytesToString]
    rfl
  · rename_i t hpe
    rw [hpe] at hx
    split at he
    case h_2 => cases he
    rename_i e hs hds
    split at he
    case h_2 => cases he
    rename_i hu8 _
    simp only [Option.some.injEq] at he
    subst he
    have hxv := V_v hx
    have hrun := Lib.run_convert_string_bytes w s d e t hs hds hu8
    have hfr : Fr E.pr w (Lib.bytesWorld w e t) := ⟨rfl, rfl, rfl, by rw [Lib.bytesWorld_size]; omega, fun b k y hp hc => by
      rw [← hc]
      exact Lib.bytesWorld_old w e t ⟨b, k, none⟩ (h.prlt b k hp), fun b hb _ => Lib.bytesWorld_at_old w e t b hb, fun b vs e' m hv => ⟨vs, by rw [Lib.bytesWorld_at_old w e t b (Array.getElem?_eq_some_iff.1 hv).1]; exact hv, rfl⟩⟩
    have h1 := h.fresh (w' := Lib.bytesWorld w e t) hfr (fun b hb => Lib.bytesWorld_at_old w e t b hb) (pr' := fun b k => E.pr b k ∨ (b = w.heap.size ∧ k < t.size)) (fun _ _ => .inl) (fun b k hp hn => by
      rcases hp with hp | ⟨rfl, _⟩
      · exact absurd hp hn
      · exact ⟨Nat.le_refl _, by rw [Lib.bytesWorld_size]; omega⟩)
    have hlen : (t.data.toList.map fun b => AV.v (.int .u8 b.toNat)).length = t.size := by simp
    have hcap : t.size ≤ grownCap w t.size 0 e := grownCap_ge w t.size 0 e
    refine wp_value (v := .slice (some ⟨w.heap.size, 0, none⟩) t.size (grownCap w t.size 0 e)) (w' := Lib.bytesWorld w e t) ?_ ⟨_, h1.putSt hd ?_⟩
    · unfold execOp
      simp only [ho, hxv, Sem.run_bind, hrun, Result.andThen_ok, Sem.run_pure]
    · refine .sl ?_ (fun n g hn => by cases hn)
      have hfl : ∀ i (hi : i < (t.data.toList.map fun b => AV.v (.int .u8 b.toNat)).length), flat (t.data.toList.map fun b => AV.v (.int .u8 b.toNat))[i] = [.v (.int .u8 (t.data.toList.getD i 0).toNat)] := by
        intro i hi
        have hi' : i < t.data.toList.length := by simpa using hi
        have e0 : t.data.toList.getD i 0 = t.data.toList[i] := by rw [List.getD_eq_getElem?_getD, List.getElem?_eq_getElem hi', Option.getD_some]
        rw [e0, List.getElem_map]
        rfl
      have key : PV (Lib.bytesWorld w e t) (fun b k => E.pr b k ∨ (b = w.heap.size ∧ k < t.size)) (.sl 1 (t.data.toList.map fun b => AV.v (.int .u8 b.toNat)) none) (.slice (some ⟨w.heap.size, 0, none⟩) (t.data.toList.map fun b => AV.v (.int .u8 b.toNat)).length (grownCap w t.size 0 e)) := by
        refine .sl (fun i _ => .int .u8 (t.data.toList.getD i 0).toNat) (by rw [hlen]; exact hcap) (fun i hi => by rw [hfl i hi]; rfl) (fun i hi j hj => .inr ⟨rfl, ?_⟩) (fun i hi j hj => ?_) (fun i hi j hj => ?_)
        · rw [hlen] at hi; omega
        · have hj0 : j = 0 := by rw [hfl i hi] at hj; simpa using hj
          subst hj0
          have e1 : (flat (t.data.toList.map fun b => AV.v (.int .u8 b.toNat))[i])[0] = .v (.int .u8 (t.data.toList.getD i 0).toNat) := List.getElem_of_eq (hfl i hi) hj
          rw [e1]
          exact .v _
        · have hj0 : j = 0 := by omega
          subst hj0
          rw [hlen] at hi
          have := Lib.bytesWorld_cell w e t i hi
          simpa using this
      rw [hlen] at key
      exact key
  · cases he

end
end Caw

namespace Caw
open Go Go.RowKit

/-! ## Calls -/
/-- A slice's tag is named anew: by place. -/
def nameL (g : Nm → Nat) (n : Nm) : AV → AV
  | .sl sz es (some _) => .sl sz es (some (n, g n))
  | x => x
def nameC (g : Nm → Nat) (d i : Nat) : Nat → List AV → List AV
  | _, [] => []
  | k, c :: r => nameL g (d, i, k) c :: nameC g d i (k + 1) r
def stripL : AV → AV
  | .sl sz es _ => .sl sz es none
  | x => x
def nameX (g : Nm → Nat) (d k : Nat) : AV → AV
  | .agg cs => .agg (nameC g d 0 k cs)
  | .fn f cs => .fn f (cs.map stripL)
  | x => nameL g (d, 0, k) x
def nameT (g : Nm → Nat) (d : Nat) : Nat → List AV → List AV
  | _, [] => []
  | k, x :: r => nameX g d k x :: nameT g d (k + 1000) r
def nameR (g : Nm → Nat) (d : Nat) : AV → AV
  | .tup xs => .tup (nameT g d 0 xs)
  | x => nameX g d 0 x
def isRef : AV → Bool
  | .ref _ => true
  | _ => false
theorem isRef_iff {r : AV} : isRef r = true ↔ ∃ cs, r = .ref cs := by
  cases r <;> simp [isRef]
/-- May a function yield it? -/
def isRes : AV → Bool
  | .tup xs => xs.all isHand
  | .ref cs => cs.all leafH
  | x => isHand x

/-- A contract: of the arguments (the first of which may be an object that is handed in) the result, and what the object holds behind the call. -/
abbrev Fn1 := List AV → Option (AV × Option (List AV))

def zg : Nm → Nat := fun _ => 0
/-- Where a call begins. -/
def enterSt : List AV → St
  | .ref cs :: ys => ⟨fun i => if i = 0 then .ptr (0, 1, 0) 0 else ys.getD (i - 1) (.v undef), fun n => if n = (0, 1, 0) then some (nameC zg 0 1 0 cs) else none, zg⟩
  | ys => ⟨fun i => ys.getD i (.v undef), fun _ => none, zg⟩
def resSlot : AV → AV
  | .ref _ => .ptr (0, 0, 0) 0
  | x => nameR zg 0 x
/-- Where it ends. -/
def leaveSt (r : AV) (o : Option (List AV)) : St :=
  ⟨fun i => if i = 0 then resSlot r else .v undef,
   fun n => if n = (0, 1, 0) then o.map (nameC zg 0 1 0) else if n = (0, 0, 0) then (match r with | .ref cs => some (nameC zg 0 0 0 cs) | _ => none) else none, zg⟩

/-- The digits' table of strconv's, where a program has it: it lies where nothing is written, and holds the powers of ten. -/
def TabB (P : Program) (B : Base) : Prop := ∀ g, P.globalNamed "internal/strconv.uint64pow10" = some g → g < B.w.heap.size ∧ (∀ k, B.pr g k) ∧
  B.w.var? P "internal/strconv.uint64pow10" = some (((List.range 20).map fun i => ((10 ^ i : Nat) : Int)).map fun z => Value.int .u64 z).toArray
theorem TabB.of {P : Program} {B : Base} (h : TabB P B) {pr : Pr} {w : World} (hf : Fr B.pr B.w w) (hp : ∀ b k, B.pr b k → pr b k) (wr : Nat → Prop) (N rb : Nat) : TabB P ⟨pr, wr, w, N, rb⟩ := by
  intro g hg
  obtain ⟨h1, h2, h3⟩ := h g hg
  refine ⟨Nat.lt_of_lt_of_le h1 hf.size, fun k => hp _ _ (h2 k), ?_⟩
  rw [← h3]
  show w.var? P "internal/strconv.uint64pow10" = B.w.var? P "internal/strconv.uint64pow10"
  unfold World.var?
  rw [hg, Option.bind_some, Option.bind_some, hf.whole g h1 h2]
theorem TabB.next {P : Program} {B : Base} {E : Env} {st : St} {a : Act} {w : World} (h : TabB P B) (hr : Rel0 B E st a w) (wr : Nat → Prop) (N rb : Nat) : TabB P ⟨E.pr, wr, w, N, rb⟩ := h.of hr.frame hr.prot wr N rb
theorem tabB_none {P : Program} {B : Base} (h : P.globalNamed "internal/strconv.uint64pow10" = none) : TabB P B := fun g hg => by rw [h] at hg; cases hg

/-- A function's contract at given arguments. -/
def SpecAt (P : Program) (f : FuncId) (ys : List AV) (r : AV) (o : Option (List AV)) : Prop :=
  ∀ B E args w, B.w = w → TabB P B → Rel0 B E (enterSt ys) ⟨args, []⟩ w → args.size = ys.length →
    Calls P f args w fun e w' => ∃ y E', e = .returned y ∧ Rel0 { B with N := 1 } E' (leaveSt r o) ⟨#[y], []⟩ w'

def Spec1 (P : Program) (f : FuncId) (F : Fn1) : Prop := ∀ ys r o, F ys = some (r, o) → SpecAt P f ys r o

section
variable {P : Program} {B : Base} {w w' : World} {E E' : Env} {st st' : St} {a a' : Act}

/-- Another frame that reads the same. -/
theorem Rel0.frame' (h : Rel0 B E st a w) {N : Nat} (hs : ∀ i, a'.tmps.getD i undef = a.tmps.getD i undef) (hd : a'.defers = []) (hN : a'.tmps.size = N) : Rel0 { B with N := N } E st a' w :=
  ⟨fun i => by rw [hs i]; exact h.sl i, h.ob, h.inj, h.obp, h.own, h.tau, h.tdis, h.frame, h.keep, h.prot, h.prnew, h.prlt, h.pin, hd, hN⟩

theorem PV_tag {pr : Pr} {sz : Nat} {es : List AV} {tg : Tg} (tg' : Tg) {y : Value} (h : PV w pr (.sl sz es tg) y) : PV w pr (.sl sz es tg') y := by
  cases h with
  | nil => exact .nil _ _
  | sl cells hle hs hp h hc => exact .sl cells hle hs hp h hc

theorem V_leafH (hp : E'.pr = E.pr) {x : AV} {y : Value} (h : V E st w x y) (hx : leafH x = true) : V E' st' w (stripL x) y := by
  cases h with
  | v => exact .v _
  | sl h ht => exact .sl (by rw [hp]; exact PV_tag none h) (fun n g hn => by cases hn)
  | rptr cells hpr h hc => exact .rptr cells (by rw [hp]; exact hpr) (by rw [hp]; exact h) hc
  | _ => cases hx

def stripA : AV → AV
  | .agg cs => .agg (cs.map stripL)
  | .fn g cs => .fn g (cs.map stripL)
  | x => stripL x

/-- What is handed to a function, as it is. -/
theorem V_hand (hp : E'.pr = E.pr) {x : AV} {y : Value} (h : V E st w x y) (hx : isHand x = true) : V E' st' w (stripA x) y := by
  cases h with
  | v => exact .v _
  | sl h ht => exact V_leafH hp (.sl h ht) rfl
  | rptr cells hpr h hc => exact V_leafH hp (st := st) (.rptr cells hpr h hc) rfl
  | agg hl h =>
    rename_i cs vs
    refine .agg (by simpa using hl) (fun i hi => ?_)
    have hi' : i < cs.length := by simpa using hi
    rw [List.getElem_map]
    exact V_leafH hp (h i hi') (List.all_eq_true.1 hx _ (List.getElem_mem hi'))
  | fn hl h =>
    rename_i g cs vs
    refine .fn (by simpa using hl) (fun i hi => ?_)
    have hi' : i < cs.length := by simpa using hi
    rw [List.getElem_map]
    exact V_leafH hp (h i hi') (List.all_eq_true.1 hx _ (List.getElem_mem hi'))
  | _ => cases hx

theorem TagOk.ren {τ τ' : Nm → Option (Nat × Nat)} {n n' : Nm} {sz : Nat} {y : Value} (h : TagOk w τ n sz y) (ht : τ' n' = τ n) : TagOk w τ' n' sz y := by
  cases y with
  | slice a len cap =>
    rcases h with h | ⟨b, off, vs, e, h1, h2, h3, h4, h5⟩
    · exact .inl h
    · exact .inr ⟨b, off, vs, e, h1, h2, ht.trans h3, h4, h5⟩
  | _ => exact h

/-- A leaf that is named anew. -/
theorem V_nameL (hp : E'.pr = E.pr) {g g' : Nm → Nat} {n n' : Nm} (hg : g n = st.G n) (hg' : g' n' = st'.G n') (ht : E'.τ n' = E.τ n) {x : AV} {y : Value} (h : V E st w (nameL g n x) y) (hx : leafH x = true) : V E' st' w (nameL g' n' x) y := by
  cases x with
  | v x => cases h; exact .v _
  | sl sz es tg =>
    cases tg with
    | none =>
      have : nameL g n (.sl sz es none) = .sl sz es none := rfl
      rw [this] at h
      exact V_leafH (E := E) (st := st) (x := .sl sz es none) hp h rfl
    | some t =>
      simp only [nameL] at h ⊢
      cases h with
      | sl h hh =>
        refine .sl (by rw [hp]; exact PV_tag _ h) (fun m q hm => ?_)
        simp only [Option.some.injEq, Prod.mk.injEq] at hm
        obtain ⟨rfl, rfl⟩ := hm
        have h1 := (hh n (g n) rfl).2 hg
        refine ⟨Nat.le_of_eq hg', fun _ => ?_⟩
        exact h1.ren ht
  | rptr x k =>
    have : nameL g n (.rptr x k) = .rptr x k := rfl
    rw [this] at h
    exact V_leafH (E := E) (st := st) (x := .rptr x k) hp h rfl
  | _ => cases hx

theorem nameC_length (g : Nm → Nat) (d i : Nat) : ∀ (k : Nat) (cs : List AV), (nameC g d i k cs).length = cs.length
  | _, [] => rfl
  | k, c :: r => by simp [nameC, nameC_length g d i (k + 1) r]
theorem nameC_get (g : Nm → Nat) (d i : Nat) : ∀ (k : Nat) (cs : List AV) (j : Nat) (hj : j < (nameC g d i k cs).length) (hj' : j < cs.length), (nameC g d i k cs)[j] = nameL g (d, i, k + j) cs[j]
  | k, c :: r, 0, _, _ => rfl
  | k, c :: r, j + 1, hj, hj' => by
    simp only [nameC, List.getElem_cons_succ]
    rw [nameC_get g d i (k + 1) r j (by simpa [nameC] using hj) (by simpa using hj')]
    congr 3
    omega
theorem nameT_length (g : Nm → Nat) (d : Nat) : ∀ (k : Nat) (cs : List AV), (nameT g d k cs).length = cs.length
  | _, [] => rfl
  | k, c :: r => by simp [nameT, nameT_length g d (k + 1000) r]
theorem nameT_get (g : Nm → Nat) (d : Nat) : ∀ (k : Nat) (cs : List AV) (j : Nat) (hj : j < (nameT g d k cs).length) (hj' : j < cs.length), (nameT g d k cs)[j] = nameX g d (k + 1000 * j) cs[j]
  | k, c :: r, 0, _, _ => rfl
  | k, c :: r, j + 1, hj, hj' => by
    simp only [nameT, List.getElem_cons_succ]
    rw [nameT_get g d (k + 1000) r j (by simpa [nameT] using hj) (by simpa using hj')]
    congr 1
    omega

/-- Results that are named anew. -/
structure Renames (E E' : Env) (st st' : St) (g g' : Nm → Nat) (d d' : Nat) : Prop where
  pr : E'.pr = E.pr
  g : ∀ n : Nm, n.1 = d → g n = st.G n
  g' : ∀ n : Nm, n.1 = d' → g' n = st'.G n
  τ : ∀ i k, E'.τ (d', i, k) = E.τ (d, i, k)

theorem V_nameC {g g' : Nm → Nat} {d d' : Nat} (hr : Renames E E' st st' g g' d d') {i k : Nat} {cs : List AV} {vs : Array Value} (hx : cs.all leafH = true)
    (h : ∀ j (hj : j < (nameC g d i k cs).length), V E st w (nameC g d i k cs)[j] (vs.getD j undef)) : ∀ j (hj : j < (nameC g' d' i k cs).length), V E' st' w (nameC g' d' i k cs)[j] (vs.getD j undef) := by
  intro j hj
  have hj' : j < cs.length := by rwa [nameC_length] at hj
  have h1 := h j (by rwa [nameC_length])
  rw [nameC_get _ _ _ _ _ _ _ hj'] at h1 ⊢
  exact V_nameL hr.pr (hr.g _ rfl) (hr.g' _ rfl) (hr.τ _ _) h1 (List.all_eq_true.1 hx _ (List.getElem_mem hj'))

theorem V_nameX {g g' : Nm → Nat} {d d' : Nat} (hr : Renames E E' st st' g g' d d') {k : Nat} {x : AV} {y : Value} (hx : isHand x = true) (h : V E st w (nameX g d k x) y) : V E' st' w (nameX g' d' k x) y := by
  cases x with
  | agg cs =>
    simp only [nameX] at h ⊢
    cases h with
    | agg hl h => exact .agg (by rw [nameC_length] at hl ⊢; exact hl) (V_nameC hr hx h)
  | fn f cs =>
    simp only [nameX] at h ⊢
    cases h with
    | fn hl h =>
      refine .fn hl (fun i hi => ?_)
      have hi' : i < cs.length := by simpa using hi
      have h1 := h i hi
      rw [List.getElem_map] at h1 ⊢
      have h2 : leafH (stripL cs[i]) = true := by
        have := List.all_eq_true.1 hx _ (List.getElem_mem hi')
        generalize cs[i] = c at this
        cases c <;> first | rfl | cases this
      have h3 := V_leafH (E' := E') (st' := st') hr.pr h1 h2
      have h4 : stripL (stripL cs[i]) = stripL cs[i] := by
        generalize cs[i] = c
        cases c <;> rfl
      rwa [h4] at h3
  | v x => exact V_nameL (x := .v x) (n := (d, 0, k)) (n' := (d', 0, k)) hr.pr (hr.g _ rfl) (hr.g' _ rfl) (hr.τ _ _) h hx
  | sl s es tg => exact V_nameL (x := .sl s es tg) (n := (d, 0, k)) (n' := (d', 0, k)) hr.pr (hr.g _ rfl) (hr.g' _ rfl) (hr.τ _ _) h hx
  | rptr x j => exact V_nameL (x := .rptr x j) (n := (d, 0, k)) (n' := (d', 0, k)) hr.pr (hr.g _ rfl) (hr.g' _ rfl) (hr.τ _ _) h hx
  | _ => cases hx

theorem V_nameR {g g' : Nm → Nat} {d d' : Nat} (hr : Renames E E' st st' g g' d d') {x : AV} {y : Value} (hx : isRes x = true) (hnr : ∀ cs, x ≠ .ref cs) (h : V E st w (nameR g d x) y) : V E' st' w (nameR g' d' x) y := by
  cases x with
  | tup xs =>
    simp only [nameR] at h ⊢
    cases h with
    | tup hl h =>
      refine .tup (by rw [nameT_length] at hl ⊢; exact hl) (fun i hi => ?_)
      have hi' : i < xs.length := by rwa [nameT_length] at hi
      have h1 := h i (by rwa [nameT_length])
      rw [nameT_get _ _ _ _ _ _ hi'] at h1 ⊢
      exact V_nameX hr (List.all_eq_true.1 hx _ (List.getElem_mem hi')) h1
  | ref cs => exact absurd rfl (hnr cs)
  | agg cs => exact V_nameX (x := .agg cs) (k := 0) hr hx h
  | fn f cs => exact V_nameX (x := .fn f cs) (k := 0) hr hx h
  | v x => exact V_nameX (x := .v x) (k := 0) hr hx h
  | sl s es tg => exact V_nameX (x := .sl s es tg) (k := 0) hr hx h
  | rptr x j => exact V_nameX (x := .rptr x j) (k := 0) hr hx h
  | _ => cases hx

/-- What the frame is, behind a call. -/
def backSt (st : St) (d : Nat) (n0 : Option Nm) (names : List Nm) (r : AV) (o : Option (List AV)) : St :=
  let g : Nm → Nat := fun n => if n.1 = d + 1 ∨ n ∈ names then st.G n + 1 else st.G n
  let ob1 : Obs := match n0 with
    | some n => setF st.ob n (o.map (nameC g (d + 1) 1 0))
    | none => st.ob
  { sl := st.sl, G := g, ob := match r with
    | .ref cs => setF ob1 (nmOf d 0) (some (nameC g (d + 1) 0 0 cs))
    | _ => ob1 }
def backAV (st : St) (d : Nat) (names : List Nm) : AV → AV
  | .ref _ => .ptr (nmOf d 0) 0
  | x => nameR (fun n => if n.1 = d + 1 ∨ n ∈ names then st.G n + 1 else st.G n) (d + 1) x

theorem Rel0.back (h : Rel0 B E st a w) {d : Nat} {n0 : Option Nm} {names : List Nm} {r : AV} {o : Option (List AV)} {wr1 : Nat → Prop} {rb1 : Nat} {E2 : Env} {y : Value}
    (k1 : ∀ b, wr1 b → B.mine b) (k2 : ∀ n, st.ob n ≠ none → some n ≠ n0 → ¬ wr1 (E.ρ n)) (k3 : ∀ n b e, E.τ n = some (b, e) → n ∉ names → ¬ wr1 b)
    (k4 : ∀ n, n0 = some n → st.ob n ≠ none ∧ E2.ρ (0, 1, 0) = E.ρ n ∧ o ≠ none)
    (hres : isRes r = true) (hout : ∀ cs, o = some cs → cs.all leafH = true) (hfresh : ∀ cs, r = .ref cs → st.ob (nmOf d 0) = none)
    (c : Rel0 ⟨E.pr, wr1, w, 1, rb1⟩ E2 (leaveSt r o) ⟨#[y], []⟩ w') (hsize : w.heap.size ≤ w'.heap.size) :
    ∃ E3, Rel0 B E3 (backSt st d n0 names r o) a w' ∧ V E3 (backSt st d n0 names r o) w' (backAV st d names r) y := by
  let g : Nm → Nat := fun n => if n.1 = d + 1 ∨ n ∈ names then st.G n + 1 else st.G n
  -- objects
  have hob : ∀ n, (backSt st d n0 names r o).ob n ≠ none ↔ (st.ob n ≠ none ∨ (n = nmOf d 0 ∧ ∃ cs, r = .ref cs)) := by
    intro n
    have h1 : ∀ m, (match n0 with | some n => setF st.ob n (o.map (nameC g (d + 1) 1 0)) | none => st.ob) m ≠ none ↔ st.ob m ≠ none := by
      intro m
      cases hn : n0 with
      | none => rfl
      | some n1 =>
        obtain ⟨q1, _, q3⟩ := k4 n1 hn
        simp only [setF]
        by_cases hm : m = n1
        · subst hm
          obtain ⟨cs, hcs⟩ := Option.ne_none_iff_exists'.1 q3
          simp [hcs, q1]
        · simp [hm]
    unfold backSt
    cases r with
    | ref cs =>
      simp only [setF]
      by_cases hn : n = nmOf d 0
      · simp [hn]
      · simp only [hn, if_false, false_and, or_false]; exact h1 n
    | _ => simp only [reduceCtorEq, exists_false, and_false, or_false]; exact h1 n
  let E3 : Env := ⟨fun n => if n = nmOf d 0 ∧ isRef r = true then E2.ρ (0, 0, 0) else E.ρ n, fun n => if n.1 = d + 1 then E2.τ (0, n.2) else if n ∈ names then none else E.τ n, E2.pr⟩
  have hold : ∀ n, st.ob n ≠ none → E3.ρ n = E.ρ n := by
    intro n hn
    refine if_neg ?_
    rintro ⟨rfl, hr⟩
    obtain ⟨cs, hr⟩ := isRef_iff.1 hr
    exact hn (hfresh cs hr)
  have hnew : ∀ cs, r = .ref cs → E3.ρ (nmOf d 0) = E2.ρ (0, 0, 0) := fun cs hr => if_pos ⟨rfl, isRef_iff.2 ⟨cs, hr⟩⟩
  have hG : ∀ n, (backSt st d n0 names r o).G n = g n := fun n => by unfold backSt; rfl
  have hm1 : ∀ b, (Base.mine ⟨E.pr, wr1, w, 1, rb1⟩ b) → B.mine b := by
    rintro b (hb | hb)
    · exact k1 b hb
    · exact .inr (Nat.le_trans h.frame.size hb)
  have hnotm : ∀ n, st.ob n ≠ none → some n ≠ n0 → ¬ Base.mine ⟨E.pr, wr1, w, 1, rb1⟩ (E.ρ n) := by
    rintro n hn hne (hb | hb)
    · exact k2 n hn hne hb
    · have := h.lt hn; simp only at hb; omega
  have htnm : ∀ n b e, E.τ n = some (b, e) → n ∉ names → ¬ Base.mine ⟨E.pr, wr1, w, 1, rb1⟩ b := by
    rintro n b e ht hn (hb | hb)
    · exact k3 n b e ht hn hb
    · have := (h.tau n b e ht).1; simp only at hb; omega
  have hstep : Step E E3 st (backSt st d n0 names r o) w w' := by
    refine ⟨c.frame, c.prot, fun n hn => ⟨(hob n).2 (.inl hn), hold n hn⟩, fun n => ?_⟩
    rw [hG]
    by_cases hn : n.1 = d + 1 ∨ n ∈ names
    · right; simp only [g, hn, if_true]; omega
    · left
      have h1 : n.1 ≠ d + 1 := fun e => hn (.inl e)
      have h2 : n ∉ names := fun e => hn (.inr e)
      exact ⟨by simp only [g, hn, if_false], by simp only [E3, h1, h2, if_false]⟩
  have hren : Renames E2 E3 (leaveSt r o) (backSt st d n0 names r o) zg g 0 (d + 1) := by
    refine ⟨rfl, fun n _ => rfl, fun n _ => (hG n).symm, fun i k => ?_⟩
    simp only [E3, if_true]
  -- what each object is
  have hcase : ∀ n, (backSt st d n0 names r o).ob n ≠ none → (st.ob n ≠ none ∧ some n ≠ n0 ∧ (backSt st d n0 names r o).ob n = st.ob n) ∨
      (some n = n0 ∧ E3.ρ n = E2.ρ (0, 1, 0) ∧ (∃ cs, o = some cs ∧ (backSt st d n0 names r o).ob n = some (nameC g (d + 1) 1 0 cs)) ∧ (leaveSt r o).ob (0, 1, 0) ≠ none) ∨
      (n = nmOf d 0 ∧ E3.ρ n = E2.ρ (0, 0, 0) ∧ (∃ cs, r = .ref cs ∧ (backSt st d n0 names r o).ob n = some (nameC g (d + 1) 0 0 cs)) ∧ (leaveSt r o).ob (0, 0, 0) ≠ none) := by
    intro n hn
    by_cases hnd : n = nmOf d 0 ∧ ∃ cs, r = .ref cs
    · obtain ⟨hnd, cs, hr⟩ := hnd
      right; right
      refine ⟨hnd, by rw [hnd]; exact hnew cs hr, ⟨cs, hr, ?_⟩, ?_⟩
      · subst hr; simp [backSt, hnd, setF, g]
      · subst hr; simp [leaveSt]
    · have hn' : st.ob n ≠ none := by
        rcases (hob n).1 hn with h1 | h1
        · exact h1
        · exact absurd h1 hnd
      have hob1 : (backSt st d n0 names r o).ob n = (match n0 with | some n => setF st.ob n (o.map (nameC g (d + 1) 1 0)) | none => st.ob) n := by
        unfold backSt
        cases r with
        | ref cs =>
          have : n ≠ nmOf d 0 := fun e => hnd ⟨e, cs, rfl⟩
          simp only [setF, this, if_false]
          rfl
        | _ => rfl
      by_cases h0 : some n = n0
      · right; left
        obtain ⟨q1, q2, q3⟩ := k4 n h0.symm
        obtain ⟨cs, hcs⟩ := Option.ne_none_iff_exists'.1 q3
        refine ⟨h0, by rw [hold n hn', q2], ⟨cs, hcs, ?_⟩, ?_⟩
        · rw [hob1, ← h0]; simp [setF, hcs]
        · simp [leaveSt, hcs]
      · left
        refine ⟨hn', h0, ?_⟩
        rw [hob1]
        cases hn0 : n0 with
        | none => rfl
        | some n1 =>
          have : n ≠ n1 := fun e => h0 (by rw [e, hn0])
          simp [setF, this]
  refine ⟨E3, ⟨fun i => (h.sl i).mono hstep, fun n cs hn => ?_, fun n m hn hm he => ?_, fun n hn k => ?_, fun n hn => ?_, fun n b e ht => ?_, fun n m b e e' hn hm => ?_, h.frame.trans c.frame h.prot, fun b hb => ?_,
    fun b k hk => c.prot b k (h.prot b k hk), fun b k hk => ?_, c.prlt, fun hp => ?_, h.defers, h.size⟩, ?_⟩
  · rcases hcase n (by rw [hn]; simp) with ⟨q1, q2, q3⟩ | ⟨q1, q2, ⟨cs', q3, q4⟩, q5⟩ | ⟨q1, q2, ⟨cs', q3, q4⟩, q5⟩
    · obtain ⟨vs, e, hh, hl, hv⟩ := h.ob n cs (by rw [← q3, hn])
      refine ⟨vs, e, ?_, hl, fun i hi => (hv i hi).mono hstep⟩
      rw [hold n q1]
      rw [← hh]
      exact c.keep _ (hnotm n q1 q2)
    · rw [hn] at q4
      simp only [Option.some.injEq] at q4
      subst q4
      obtain ⟨vs, e, hh, hl, hv⟩ := c.ob (0, 1, 0) (nameC zg 0 1 0 cs') (by simp [leaveSt, q3])
      refine ⟨vs, e, by rw [q2]; exact hh, by rw [nameC_length] at hl ⊢; exact hl, V_nameC hren (hout _ q3) hv⟩
    · rw [hn] at q4
      simp only [Option.some.injEq] at q4
      subst q4 q3
      obtain ⟨vs, e, hh, hl, hv⟩ := c.ob (0, 0, 0) (nameC zg 0 0 0 cs') (by simp [leaveSt])
      refine ⟨vs, e, by rw [q2]; exact hh, by rw [nameC_length] at hl ⊢; exact hl, V_nameC hren hres hv⟩
  · rcases hcase n hn with ⟨q1, q2, -⟩ | ⟨q1, q2, -, q5⟩ | ⟨q1, q2, -, q5⟩ <;> rcases hcase m hm with ⟨p1, p2, -⟩ | ⟨p1, p2, -, p5⟩ | ⟨p1, p2, -, p5⟩
    · have e1 := hold n q1
      have e2 := hold m p1
      rw [e1, e2] at he
      exact h.inj n m q1 p1 he
    · rw [hold n q1, p2] at he
      exact absurd (he ▸ c.own _ p5) (hnotm n q1 q2)
    · rw [hold n q1, p2] at he
      exact absurd (he ▸ c.own _ p5) (hnotm n q1 q2)
    · rw [hold m p1, q2] at he
      exact absurd (he ▸ c.own _ q5) (hnotm m p1 p2)
    · rw [← p1, Option.some.injEq] at q1
      exact q1
    · rw [q2, p2] at he
      have := c.inj _ _ q5 p5 he
      simp at this
    · rw [hold m p1, q2] at he
      exact absurd (he ▸ c.own _ q5) (hnotm m p1 p2)
    · rw [q2, p2] at he
      have := c.inj _ _ q5 p5 he
      simp at this
    · rw [q1, p1]
  · rcases hcase n hn with ⟨q1, q2, -⟩ | ⟨q1, q2, -, q5⟩ | ⟨q1, q2, -, q5⟩
    · rw [hold n q1]
      intro hk
      rcases c.prnew _ _ hk with h1 | h1
      · exact h.obp n q1 k h1
      · exact hnotm n q1 q2 h1
    · rw [q2]; exact c.obp _ q5 k
    · rw [q2]; exact c.obp _ q5 k
  · rcases hcase n hn with ⟨q1, q2, -⟩ | ⟨q1, q2, -, q5⟩ | ⟨q1, q2, -, q5⟩
    · rw [hold n q1]; exact h.own n q1
    · rw [q2]; exact hm1 _ (c.own _ q5)
    · rw [q2]; exact hm1 _ (c.own _ q5)
  · by_cases hn : n.1 = d + 1
    · have ht' : E2.τ (0, n.2) = some (b, e) := by simpa only [E3, hn, if_true] using ht
      obtain ⟨t1, t2, t3, t4⟩ := c.tau _ b e ht'
      refine ⟨t1, hm1 b t2, t3, fun m hm => ?_⟩
      rcases hcase m hm with ⟨q1, q2, -⟩ | ⟨q1, q2, -, q5⟩ | ⟨q1, q2, -, q5⟩
      · rw [hold m q1]
        rintro rfl
        exact hnotm m q1 q2 t2
      · rw [q2]; exact t4 _ q5
      · rw [q2]; exact t4 _ q5
    · by_cases hn2 : n ∈ names
      · have ht' : (none : Option (Nat × Nat)) = some (b, e) := by simpa only [E3, hn, hn2, if_true, if_false] using ht
        cases ht'
      · have ht' : E.τ n = some (b, e) := by simpa only [E3, hn, hn2, if_false] using ht
        obtain ⟨t1, t2, t3, t4⟩ := h.tau n b e ht'
        have hnm := htnm n b e ht' hn2
        refine ⟨Nat.lt_of_lt_of_le t1 hsize, t2, fun k hk hp => ?_, fun m hm => ?_⟩
        · rcases c.prnew _ _ hp with h1 | h1
          · exact t3 k hk h1
          · exact hnm h1
        · rcases hcase m hm with ⟨q1, q2, -⟩ | ⟨q1, q2, -, q5⟩ | ⟨q1, q2, -, q5⟩
          · rw [hold m q1]; exact t4 m q1
          · rw [q2]; rintro rfl; exact hnm (c.own _ q5)
          · rw [q2]; rintro rfl; exact hnm (c.own _ q5)
  · have split : ∀ n b e, E3.τ n = some (b, e) → (n.1 = d + 1 ∧ E2.τ (0, n.2) = some (b, e)) ∨ (n ∉ names ∧ E.τ n = some (b, e)) := by
      intro n b e ht
      by_cases h1 : n.1 = d + 1
      · exact .inl ⟨h1, by simpa only [E3, h1, if_true] using ht⟩
      · by_cases h2 : n ∈ names
        · have ht' : (none : Option (Nat × Nat)) = some (b, e) := by simpa only [E3, h1, h2, if_true, if_false] using ht
          cases ht'
        · exact .inr ⟨h2, by simpa only [E3, h1, h2, if_false] using ht⟩
    rcases split n b e hn with ⟨q1, q2⟩ | ⟨q1, q2⟩ <;> rcases split m b e' hm with ⟨p1, p2⟩ | ⟨p1, p2⟩
    · have := c.tdis _ _ _ _ _ q2 p2
      simp only [Prod.mk.injEq, true_and] at this
      exact Prod.ext (q1.trans p1.symm) this
    · exact absurd (c.tau _ _ _ q2).2.1 (htnm m b e' p2 p1)
    · exact absurd (c.tau _ _ _ p2).2.1 (htnm n b e q2 q1)
    · exact h.tdis n m b e e' q2 p2
  · rw [c.keep b (fun hb' => hb (hm1 b hb'))]
    exact h.keep b hb
  · rcases c.prnew b k hk with h1 | h1
    · exact h.prnew b k h1
    · exact .inr (hm1 b h1)
  · have hp' : st.ob (0, 1, 0) ≠ none := by
      rcases (hob _).1 hp with h1 | ⟨h1, _⟩
      · exact h1
      · simp [nmOf] at h1
    rw [hold _ hp']
    exact h.pin hp'
  · have h0 : V E2 (leaveSt r o) w' (resSlot r) y := c.sl 0
    by_cases hr : isRef r = true
    · obtain ⟨cs, hr⟩ := isRef_iff.1 hr
      subst hr
      simp only [resSlot] at h0
      simp only [backAV]
      cases h0 with
      | ptr hn =>
        have e : E2.ρ (0, 0, 0) = E3.ρ (nmOf d 0) := (hnew cs rfl).symm
        rw [e]
        exact .ptr ((hob _).2 (.inr ⟨rfl, cs, rfl⟩))
    · have hr' : isRef r = false := by simpa using hr
      have e1 : resSlot r = nameR zg 0 r := by cases r <;> first | rfl | cases hr'
      have e2 : backAV st d names r = nameR g (d + 1) r := by cases r <;> first | rfl | cases hr'
      rw [e1] at h0
      rw [e2]
      exact V_nameR hren hres (fun cs e => hr (isRef_iff.2 ⟨cs, e⟩)) h0

end
end Caw

