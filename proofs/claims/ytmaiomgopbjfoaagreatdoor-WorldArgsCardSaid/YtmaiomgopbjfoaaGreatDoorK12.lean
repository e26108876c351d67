import Derived.Test.YtmaiomgopbjfoaaGreatDoorK10
import Derived.Test.YtmaiomgopbjfoaaGreatDoorK11
set_option linter.all false
namespace Mir
open Go

/-! ## Steps and code -/
inductive CS where
  | mk (g : Option (Ps × Bool)) (d : Option Ps) (c : CI) (o : Oper)
noncomputable def cG (ops : Array Oper) : Option (Nat × Bool) → Option (Option (Ps × Bool))
  | none => some none
  | some (j, b) => match (ops[j]?).bind (·.dst) with
    | some d => if Nat.blt d 1073741824 then some (some (pth d, b)) else none
    | none => none
noncomputable def cD (N : Nat) : Option Nat → Option (Option Ps)
  | none => some none
  | some t => if Nat.blt t N && Nat.blt t 1073741824 then some (some (pth t)) else none
noncomputable def cS (tb : Tb) (N : Nat) (ops : Array Oper) (o : Oper) : Option CS := match cG ops o.guard, cD N o.dst with
  | some g, some d => some (.mk g d (cI tb o) o)
  | _, _ => none
noncomputable def cSL (tb : Tb) (N : Nat) (ops : Array Oper) : List Oper → Option (List CS)
  | [] => some []
  | o :: r => match cS tb N ops o, cSL tb N ops r with
    | some c, some l => some (c :: l)
    | _, _ => none
noncomputable def zPut (d : Option Ps) (sl : Tr Value) (v : Value) (k : Tr Value → An) : An :=
  Option.rec (motive := fun _ => An) (k sl) (fun p => putP p sl v k) d
abbrev KL := Tr Value → Tw → An
noncomputable def zRun (d : Option Ps) (c : CI) (o : Oper) (E : ZE) (sl : Tr Value) (W : Tw) (k : KL) : An := zI c E o sl W fun v W => zPut d sl v fun sl => k sl W
noncomputable def zWant (b : Bool) (v : Value) (y n : An) : An := match v with
  | .bool x => Bool.rec (motive := fun _ => An) (Bool.rec (motive := fun _ => An) y n b) (Bool.rec (motive := fun _ => An) n y b) x
  | .tuple _ => n
  | _ => none
noncomputable def zGrd (g : Option (Ps × Bool)) (d : Option Ps) (c : CI) (o : Oper) (E : ZE) (sl : Tr Value) (W : Tw) (k : KL) : An :=
  Option.rec (motive := fun _ => An) (zRun d c o E sl W k) (fun q => Prod.rec (motive := fun _ => An) (fun p b => zWant b (getP p sl) (zRun d c o E sl W k) (zPut d sl undef fun sl => k sl W)) q) g
noncomputable def zStep (s : CS) : ZE → Tr Value → Tw → KL → An := CS.rec (motive := fun _ => ZE → Tr Value → Tw → KL → An) zGrd s
noncomputable def zL (l : List CS) : ZE → Tr Value → Tw → KL → An :=
  List.rec (motive := fun _ => ZE → Tr Value → Tw → KL → An) (fun _ sl W k => k sl W) (fun s _ ih E sl W k => zStep s E sl W fun sl W => ih E sl W k) l
abbrev KD := Tr Value → List (Lg × Lg) → Tw → An
noncomputable def zD (l : List CS) : ZE → Tr Value → Tw → KD → An :=
  List.rec (motive := fun _ => ZE → Tr Value → Tw → KD → An) (fun _ sl W k => k sl [] W) (fun s _ ih E sl W k => Tw.rec (motive := fun _ => An) (fun t nx lim rd0 wr0 =>
    zStep s E sl ⟨t, nx, lim, [], []⟩ fun sl W => Tw.rec (motive := fun _ => An) (fun t nx lim rd wr => Lg.fjoin rd0 rd fun rd1 => Lg.fjoin wr0 wr fun wr1 =>
      ih E sl ⟨t, nx, lim, rd1, wr1⟩ fun sl ls W => k sl ((rd, wr) :: ls) W) W) W) l
section
variable {P : Program} {sy : SyT} {tb : Tb} {call : CallT} {rnd : RndT} {E : ZE} {sl : Tr Value} {W : Tw} {r : Value × Tw} {o : Oper} {N : Nat} {ops : Array Oper}
theorem zPut_ok {dst : Option Nat} {d : Option Ps} {v : Value} {k : Tr Value → An} (hd : cD N dst = some d) (h : zPut d sl v k = some r) : ∃ sl', putS N dst v sl = some sl' ∧ k sl' = some r := by
  unfold cD at hd
  split at hd
  · cases hd; exact ⟨sl, rfl, h⟩
  · rename_i t
    split at hd
    · rename_i hb
      cases hd
      have hb' := hb
      simp only [Bool.and_eq_true, Nat.blt_eq] at hb'
      have h' : putP (pth t) sl v k = some r := h
      rw [putP_pth hb'.2] at h'
      refine ⟨_, ?_, h'⟩
      unfold putS
      simp only
      rw [if_pos hb, fT_eq]
    · cases hd
theorem zRun_ok (hE : EOk P sy tb call rnd E) {d : Option Ps} {k : KL} (hd : cD N o.dst = some d) (h : zRun d (cI tb o) o E sl W k = some r) :
    ∃ n W1 v W' sl', opQT P sy tb (getS sl) o W = some (n, W1) ∧ finT call rnd n W1 = some (v, W') ∧ putS N o.dst v sl = some sl' ∧ k sl' W' = some r := by
  obtain ⟨n, W1, v, W', h1, h2, h3⟩ := zI_ok hE h
  obtain ⟨sl', h4, h5⟩ := zPut_ok hd h3
  exact ⟨n, W1, v, W', sl', h1, h2, h4, h5⟩
theorem zStep_ok (hE : EOk P sy tb call rnd E) {s : CS} {k : KL} (hs : cS tb N ops o = some s) (h : zStep s E sl W k = some r) :
    ∃ v W' sl', opV (opQT P sy tb) call rnd ops o (getS sl) W = some (v, W') ∧ putS N o.dst v sl = some sl' ∧ k sl' W' = some r := by
  unfold cS at hs
  split at hs
  · rename_i g d hg hd
    cases hs
    have h' : zGrd g d (cI tb o) o E sl W k = some r := h
    clear h
    have run : wantT ops (getS sl) o = some true → zRun d (cI tb o) o E sl W k = some r → ∃ v W' sl', opV (opQT P sy tb) call rnd ops o (getS sl) W = some (v, W') ∧ putS N o.dst v sl = some sl' ∧ k sl' W' = some r := by
      intro hw h
      obtain ⟨n, W1, v, W', sl', h1, h2, h3, h4⟩ := zRun_ok hE hd h
      refine ⟨v, W', sl', ?_, h3, h4⟩
      unfold opV
      rw [hw]
      simp only [h1, Option.bind_some, h2]
    have no : wantT ops (getS sl) o = some false → zPut d sl undef (fun sl => k sl W) = some r → ∃ v W' sl', opV (opQT P sy tb) call rnd ops o (getS sl) W = some (v, W') ∧ putS N o.dst v sl = some sl' ∧ k sl' W' = some r := by
      intro hw h
      obtain ⟨sl', h3, h4⟩ := zPut_ok hd h
      refine ⟨undef, W, sl', ?_, h3, h4⟩
      unfold opV
      rw [hw]
    unfold cG at hg
    cases hgd : o.guard with
    | none =>
      rw [hgd] at hg
      cases hg
      exact run (by unfold wantT; rw [hgd]) h'
    | some jb =>
      obtain ⟨j, b⟩ := jb
      rw [hgd] at hg
      simp only at hg
      split at hg
      · rename_i t ht
        split at hg
        · rename_i hlt
          rw [Nat.blt_eq] at hlt
          cases hg
          have h2 : zWant b (getP (pth t) sl) (zRun d (cI tb o) o E sl W k) (zPut d sl undef fun sl => k sl W) = some r := h'
          clear h'
          rw [getP_eq, pth_code hlt] at h2
          unfold zWant at h2
          split at h2
          · rename_i x hx
            have hw : wantT ops (getS sl) o = some (x == b) := by
              unfold wantT
              rw [hgd]
              simp only [ht, hx]
            cases x <;> cases b
            · exact run hw h2
            · exact no hw h2
            · exact no hw h2
            · exact run hw h2
          · rename_i x hx
            exact no (by unfold wantT; rw [hgd]; simp only [ht, hx]) h2
          · cases h2
        · cases hg
      · cases hg
  · cases hs
theorem zL_ok (hE : EOk P sy tb call rnd E) : ∀ (l : List Oper) (cs : List CS) (sl : Tr Value) (W : Tw) (k : KL), cSL tb N ops l = some cs → zL cs E sl W k = some r →
    ∃ sl' W', evL (opQT P sy tb) call rnd N ops l sl W = some (sl', W') ∧ k sl' W' = some r
  | [], cs, sl, W, k, hc, h => by
    cases hc
    exact ⟨sl, W, rfl, h⟩
  | o :: l, cs, sl, W, k, hc, h => by
    unfold cSL at hc
    split at hc
    · rename_i c l' h1 h2
      cases hc
      have h' : zStep c E sl W (fun sl W => zL l' E sl W k) = some r := h
      obtain ⟨v, W1, sl1, e1, e2, e3⟩ := zStep_ok hE h1 h'
      obtain ⟨sl2, W2, e4, e5⟩ := zL_ok hE l l' sl1 W1 k h2 e3
      refine ⟨sl2, W2, ?_, e5⟩
      rw [evL, e1, Option.bind_some]
      simp only [forV_eq, e2]
      exact e4
    · cases hc
theorem zD_ok (hE : EOk P sy tb call rnd E) : ∀ (l : List Oper) (cs : List CS) (sl : Tr Value) (W : Tw) (k : KD), cSL tb N ops l = some cs → zD cs E sl W k = some r →
    ∃ sl' ls W', evD (opQT P sy tb) call rnd N ops l sl W = some ((sl', ls), W') ∧ k sl' ls W' = some r
  | [], cs, sl, W, k, hc, h => by
    cases hc
    exact ⟨sl, [], W, rfl, h⟩
  | o :: l, cs, sl, W, k, hc, h => by
    unfold cSL at hc
    split at hc
    · rename_i c l' h1 h2
      cases hc
      obtain ⟨t, nx, lim, rd0, wr0⟩ := W
      have h' : zStep c E sl ⟨t, nx, lim, [], []⟩ (fun sl W => Tw.rec (motive := fun _ => An) (fun t nx lim rd wr => Lg.fjoin rd0 rd fun rd1 => Lg.fjoin wr0 wr fun wr1 =>
        zD l' E sl ⟨t, nx, lim, rd1, wr1⟩ fun sl ls W => k sl ((rd, wr) :: ls) W) W) = some r := h
      obtain ⟨v, W1, sl1, e1, e2, e3⟩ := zStep_ok hE h1 h'
      obtain ⟨t1, nx1, lim1, rd, wr⟩ := W1
      simp only [Lg.fjoin_eq] at e3
      obtain ⟨sl2, ls, W2, e4, e5⟩ := zD_ok hE l l' sl1 _ _ h2 e3
      refine ⟨sl2, (rd, wr) :: ls, W2, ?_, e5⟩
      rw [evD]
      have es : subT (opV (opQT P sy tb) call rnd ops o (getS sl)) ⟨t, nx, lim, rd0, wr0⟩ = some ((v, rd, wr), ⟨t1, nx1, lim1, Lg.join rd0 rd, Lg.join wr0 wr⟩) := by
        rw [subT_eq]
        simp only [e1, Option.map_some]
      rw [es, Option.bind_some]
      simp only [forV_eq, e2, e4, Option.bind_some]
    · cases hc
end

/-! ### Code -/
abbrev KC := Ex → Tr Value → List Nat → Tw → An
abbrev ZC := Code → Tr Value → List Nat → Tw → KC → An
/-- What a body's run is given. -/
structure ZB where
  E : ZE
  tb : Tb
  N : Nat
  gc : Code → Nat → Tr Value → List Nat → Tw → KC → An
abbrev ZX := ZB → ZC → Tr Value → List Nat → Tw → KC → An
noncomputable def zKip : ZX := fun _ _ sl ms W k => k .normal sl ms W
noncomputable def zReg (_ : Nat) (ops : Array Oper) (dr : Bool) : ZX := fun B _ sl ms W k => Bool.rec (motive := fun _ => An)
  (Option.rec (motive := fun _ => An) none (fun cs => zL cs B.E sl W fun sl W => k .normal sl ms W) (cSL B.tb B.N ops ops.toList))
  (Bool.rec (motive := fun _ => An) none (Option.rec (motive := fun _ => An) none (fun cs => zD cs B.E sl W fun sl ls W => Bool.rec (motive := fun _ => An) none (k .normal sl ms W) (memOk (masks ops ops.size) ls ls 0)) (cSL B.tb B.N ops ops.toList)) (Nat.ble W.nx W.lim)) dr
noncomputable def zSeq (a b : Code) : ZX := fun _ ih sl ms W k => ih a sl ms W fun ex sl ms W => Ex.rec (motive := fun _ => An) (ih b sl ms W k) (fun i => k (.exit i) sl ms W) (k .ret sl ms W) ex
noncomputable def zCond (x : Operand) (a b : Code) : ZX := fun _ ih sl ms W k => Option.rec (motive := fun _ => An) none (fun c => match evO c sl with
  | .bool v => Bool.rec (motive := fun _ => An) (ih b sl ms W k) (ih a sl ms W k) v
  | _ => none) (cO x)
noncomputable def zBlk (id : Nat) (b : Code) : ZX := fun _ ih sl ms W k => ih b sl ms W fun ex sl ms W => Ex.rec (motive := fun _ => An) (k .normal sl ms W) (fun i => Bool.rec (motive := fun _ => An) (k (.exit i) sl ms W) (k .normal sl ms W) (Nat.beq i id)) (k .ret sl ms W) ex
noncomputable def zLoop (b : Code) : ZX := fun _ ih sl ms W k => ih b sl ms W fun ex sl ms W => Ex.rec (motive := fun _ => An) (ih (.loop b) sl ms W k) (fun i => k (.exit i) sl ms W) (k .ret sl ms W) ex
noncomputable def zRf (g : Operand) (ps : Array Tmp) (as bd : Code) : ZX := fun B _ sl ms W k => B.gc (.rangeFunc g ps as bd) B.N sl ms W k
noncomputable def zExit (id : Nat) : ZX := fun _ _ sl ms W k => k (.exit id) sl ms W
noncomputable def zNone : ZX := fun _ _ _ _ _ _ => none
noncomputable def zRet : ZX := fun _ _ sl ms W k => k .ret sl ms W
noncomputable def zCs (c : Code) : ZX := Code.rec (motive := fun _ => ZX) zKip zReg (fun a b _ _ => zSeq a b) (fun x a b _ _ => zCond x a b) (fun id b _ => zBlk id b) (fun b _ => zLoop b) (fun g ps as bd _ _ => zRf g ps as bd) zExit (fun _ _ => zNone) (fun _ => zKip) (fun _ => zNone) zRet (fun _ => zNone) c
noncomputable def zC (B : ZB) (n : Nat) : ZC := Nat.rec (motive := fun _ => ZC) (fun _ _ _ _ _ => none) (fun _ ih c sl ms W k => zCs c B ih sl ms W k) n
section
variable {P : Program} {sy : SyT} {tb : Tb} {call : CallT} {rnd : RndT} {E : ZE} {r : Value × Tw} {N : Nat} {cl : FuncId → Bool}
/-- What a body's run asks of what it is given. -/
structure BOk (P : Program) (sy : SyT) (tb : Tb) (call : CallT) (rnd : RndT) (cl : FuncId → Bool) (N : Nat) (B : ZB) : Prop where
  eE : EOk P sy tb call rnd B.E
  etb : B.tb = tb
  eN : B.N = N
  gc : ∀ g ps as bd sl ms W k r n, B.gc (.rangeFunc g ps as bd) N sl ms W k = some r → ∃ e sl' ms' W', evC P (opQT P sy tb) call rnd cl none N (n + 1) (.rangeFunc g ps as bd) (sl, ms) W = some ((e, (sl', ms')), W') ∧ k e sl' ms' W' = some r
theorem zC_ok {B : ZB} (hB : BOk P sy tb call rnd cl N B) : ∀ (n : Nat) (c : Code) (sl : Tr Value) (ms : List Nat) (W : Tw) (k : KC) (r : Value × Tw), zC B n c sl ms W k = some r →
    ∃ e sl' ms' W', evC P (opQT P sy tb) call rnd cl none N n c (sl, ms) W = some ((e, (sl', ms')), W') ∧ k e sl' ms' W' = some r := by
  intro n
  induction n with
  | zero => intro c sl ms W k r h; cases h
  | succ n ih =>
    intro c sl ms W k r h
    have h' : zCs c B (zC B n) sl ms W k = some r := h
    clear h
    cases c with
    | skip => exact ⟨_, _, _, _, rfl, h'⟩
    | label l => exact ⟨_, _, _, _, rfl, h'⟩
    | ret => exact ⟨_, _, _, _, rfl, h'⟩
    | exit id => exact ⟨_, _, _, _, rfl, h'⟩
    | scope b => cases h'
    | goto l => cases h'
    | refuse w => cases h'
    | rangeFunc g ps as bd =>
      have h2 : B.gc (.rangeFunc g ps as bd) B.N sl ms W k = some r := h'
      rw [hB.eN] at h2
      exact hB.gc g ps as bd sl ms W k r n h2
    | seq a b =>
      have h2 : zC B n a sl ms W (fun ex sl ms W => Ex.rec (motive := fun _ => An) (zC B n b sl ms W k) (fun i => k (.exit i) sl ms W) (k .ret sl ms W) ex) = some r := h'
      obtain ⟨e, sl1, ms1, W1, e1, e2⟩ := ih a _ _ _ _ _ h2
      cases e with
      | normal =>
        obtain ⟨e, sl2, ms2, W2, e3, e4⟩ := ih b _ _ _ _ _ e2
        refine ⟨e, sl2, ms2, W2, ?_, e4⟩
        simp only [evC, e1, Option.bind_some]
        exact e3
      | exit i =>
        refine ⟨.exit i, sl1, ms1, W1, ?_, e2⟩
        simp only [evC, e1, Option.bind_some]
      | ret =>
        refine ⟨.ret, sl1, ms1, W1, ?_, e2⟩
        simp only [evC, e1, Option.bind_some]
    | block id b =>
      have h2 : zC B n b sl ms W (fun ex sl ms W => Ex.rec (motive := fun _ => An) (k .normal sl ms W) (fun i => Bool.rec (motive := fun _ => An) (k (.exit i) sl ms W) (k .normal sl ms W) (Nat.beq i id)) (k .ret sl ms W) ex) = some r := h'
      obtain ⟨e, sl1, ms1, W1, e1, e2⟩ := ih b _ _ _ _ _ h2
      cases e with
      | normal =>
        refine ⟨.normal, sl1, ms1, W1, ?_, e2⟩
        simp only [evC, e1, Option.bind_some]
      | exit i =>
        simp only at e2
        cases hb : Nat.beq i id with
        | true =>
          rw [hb] at e2
          rw [Nat.beq_eq] at hb
          refine ⟨.normal, sl1, ms1, W1, ?_, e2⟩
          simp only [evC, e1, Option.bind_some]
          rw [if_pos hb]
        | false =>
          rw [hb] at e2
          have hne : ¬ i = id := fun he => by rw [← Nat.beq_eq, hb] at he; cases he
          refine ⟨.exit i, sl1, ms1, W1, ?_, e2⟩
          simp only [evC, e1, Option.bind_some]
          rw [if_neg hne]
      | ret =>
        refine ⟨.ret, sl1, ms1, W1, ?_, e2⟩
        simp only [evC, e1, Option.bind_some]
    | loop b =>
      have h2 : zC B n b sl ms W (fun ex sl ms W => Ex.rec (motive := fun _ => An) (zC B n (.loop b) sl ms W k) (fun i => k (.exit i) sl ms W) (k .ret sl ms W) ex) = some r := h'
      obtain ⟨e, sl1, ms1, W1, e1, e2⟩ := ih b _ _ _ _ _ h2
      cases e with
      | normal =>
        obtain ⟨e, sl2, ms2, W2, e3, e4⟩ := ih (.loop b) _ _ _ _ _ e2
        refine ⟨e, sl2, ms2, W2, ?_, e4⟩
        simp only [evC, e1, Option.bind_some]
        exact e3
      | exit i =>
        refine ⟨.exit i, sl1, ms1, W1, ?_, e2⟩
        simp only [evC, e1, Option.bind_some]
      | ret =>
        refine ⟨.ret, sl1, ms1, W1, ?_, e2⟩
        simp only [evC, e1, Option.bind_some]
    | cond x a b =>
      have h2 : Option.rec (motive := fun _ => An) none (fun c => match evO c sl with
        | .bool v => Bool.rec (motive := fun _ => An) (zC B n b sl ms W k) (zC B n a sl ms W k) v
        | _ => none) (cO x) = some r := h'
      cases hx : cO x with
      | none => rw [hx] at h2; cases h2
      | some c =>
        rw [hx] at h2
        obtain ⟨k1, k2⟩ := cO_ok hx sl
        simp only [k1] at h2
        split at h2
        · rename_i v hv
          cases v with
          | true =>
            obtain ⟨e, sl2, ms2, W2, e3, e4⟩ := ih a _ _ _ _ _ h2
            refine ⟨e, sl2, ms2, W2, ?_, e4⟩
            simp only [evC, hv]
            exact e3
          | false =>
            obtain ⟨e, sl2, ms2, W2, e3, e4⟩ := ih b _ _ _ _ _ h2
            refine ⟨e, sl2, ms2, W2, ?_, e4⟩
            simp only [evC, hv]
            exact e3
        · cases h2
    | region id ops dr =>
      cases dr with
      | false =>
        have h2 : Option.rec (motive := fun _ => An) none (fun cs => zL cs B.E sl W fun sl W => k .normal sl ms W) (cSL B.tb B.N ops ops.toList) = some r := h'
        rw [hB.etb, hB.eN] at h2
        cases hc : cSL tb N ops ops.toList with
        | none => rw [hc] at h2; cases h2
        | some cs =>
          rw [hc] at h2
          obtain ⟨sl', W', e1, e2⟩ := zL_ok hB.eE _ _ _ _ _ hc h2
          refine ⟨.normal, sl', ms, W', ?_, e2⟩
          simp only [evC, e1, Option.bind_some]
      | true =>
        have h2 : Bool.rec (motive := fun _ => An) none (Option.rec (motive := fun _ => An) none (fun cs => zD cs B.E sl W fun sl ls W => Bool.rec (motive := fun _ => An) none (k .normal sl ms W) (memOk (masks ops ops.size) ls ls 0)) (cSL B.tb B.N ops ops.toList)) (Nat.ble W.nx W.lim) = some r := h'
        rw [hB.etb, hB.eN] at h2
        cases hb : Nat.ble W.nx W.lim with
        | false => rw [hb] at h2; cases h2
        | true =>
          rw [hb] at h2
          cases hc : cSL tb N ops ops.toList with
          | none => rw [hc] at h2; cases h2
          | some cs =>
            rw [hc] at h2
            obtain ⟨sl', ls, W', e1, e2⟩ := zD_ok hB.eE _ _ _ _ _ hc h2
            cases hm : memOk (masks ops ops.size) ls ls 0 with
            | false => rw [hm] at e2; cases e2
            | true =>
              rw [hm] at e2
              refine ⟨.normal, sl', ms, W', ?_, e2⟩
              simp only [evC, hb, if_true, e1, Option.bind_some, hm]
end
end Mir

namespace Mir
open Go

/-! ## Calls -/
noncomputable def zPutL (vs : List Value) : Nat → Tr Value → (Tr Value → An) → An :=
  List.rec (motive := fun _ => Nat → Tr Value → (Tr Value → An) → An) (fun _ t k => k t) (fun v _ ih i t k => putP (pth i) t v fun t => fN (Nat.add i 1) fun i => ih i t k) vs
noncomputable def zResL (l : List ResultVar) : Tb → Tr Value → Tw → (List Value → Tw → An) → An :=
  List.rec (motive := fun _ => Tb → Tr Value → Tw → (List Value → Tw → An) → An) (fun _ _ W k => k [] W) (fun x _ ih tb sl W k => match x with
    | .tmp t => Bool.rec (motive := fun _ => An) none (fW (getP (pth t) sl) fun v => ih tb sl W fun vs W => k (v :: vs) W) (Nat.blt t 1073741824)
    | .cell a t => Bool.rec (motive := fun _ => An) none (Option.rec (motive := fun _ => An) none (fun ti => zLd ti.ag ti.sz (getP (pth a) sl) W fun v W => ih tb sl W fun vs W => k (v :: vs) W) (tb.ty.get t)) (Nat.blt a 1073741824)) l
noncomputable def zRes (tb : Tb) (fn : Func) (sl : Tr Value) (W : Tw) (k : KV) : An := zResL fn.results.toList tb sl W fun vs W => List.rec (motive := fun _ => An) (k (.tuple ⟨[]⟩) W) (fun v r _ => List.rec (motive := fun _ => An) (k v W) (fun u s _ => k (.tuple ⟨v :: u :: s⟩) W) r) vs
noncomputable def zEnd (P : Program) (tb : Tb) (fn : Func) (sl : Tr Value) (ms : List Nat) (W : Tw) (k : KV) : An :=
  List.rec (motive := fun _ => An) (zRes tb fn sl W k) (fun m r _ => opb (takeA P (m :: r) W) fun _ W => zRes tb fn sl W k) ms
noncomputable def zFn (P : Program) (tb : Tb) (L : Nat) (mk : Nat → ZB) (f : FuncId) (args : List Value) (W : Tw) (k : KV) : An := match tb.fn.get f with
  | some fn => match fn.body with
    | some c => fN fn.ntmps fun N => Bool.rec (motive := fun _ => An) none (Bool.rec (motive := fun _ => An) none
        (zPutL args 0 .lf fun sl => zC (mk N) L c sl [] W fun ex sl ms W => Ex.rec (motive := fun _ => An) (zEnd P tb fn sl ms W k) (fun _ => none) (zEnd P tb fn sl ms W k) ex)
        (Nat.ble (List.length args) N)) (Nat.blt N 1073741824)
    | none => none
  | none => none
noncomputable def zNx (ck : CallK) (rnd : RndT) (o : Oper) (k : KV) (nx : Next) (W : Tw) : An := match nx with
  | .value v => forV o v fun v => k v W
  | .skip => k undef W
  | .enter g args => ck g args.toList W k
  | .round l _ ts as bd => opb (rnd l ts as bd W) fun v W => fW v fun v => k v W
  | _ => none
noncomputable def zVal (k : KV) (nx : Next) (W : Tw) : An := match nx with
  | .value v => fW v fun v => k v W
  | _ => none
noncomputable def zGen (P : Program) (sy : SyT) (tb : Tb) (ck : CallK) (rnd : RndT) (o : Oper) (sl : Tr Value) (W : Tw) (k : KV) : An :=
  Option.rec (motive := fun _ => An) (opb (opQT P sy tb (getS sl) o W) (zNx ck rnd o k)) (fun p => Prod.rec (motive := fun _ => An) (zVal k) p) (opR tb (getS sl) o W)
noncomputable def toCall (ck : CallK) : CallT := fun f args W => ck f args.toList W fun v W => some (v, W)
noncomputable def zGc (P : Program) (sy : SyT) (tb : Tb) (ck : CallK) (rnd : RndT) (c : Code) (N : Nat) (sl : Tr Value) (ms : List Nat) (W : Tw) (k : KC) : An :=
  opb (evC P (opQT P sy tb) (toCall ck) rnd (clQ tb) none N 1 c (sl, ms) W) fun p W => Prod.rec (motive := fun _ => An) (fun e s => Prod.rec (motive := fun _ => An) (fun sl ms => k e sl ms W) s) p
noncomputable def zE (P : Program) (sy : SyT) (tb : Tb) (ck : CallK) (rnd : RndT) : ZE := ⟨zGen P sy tb ck rnd, ck, fun g => (tb.fn.get g).isSome⟩
noncomputable def zB (P : Program) (sy : SyT) (tb : Tb) (ck : CallK) (rnd : RndT) (N : Nat) : ZB := ⟨zE P sy tb ck rnd, tb, N, zGc P sy tb ck rnd⟩
noncomputable def zCk (P : Program) (sy : SyT) (tb : Tb) (L : Nat) (ck : CallK) (rnd : RndT) : CallK := fun f args W k =>
  Option.rec (motive := fun _ => An) (zFn P tb L (zB P sy tb ck rnd) f args W k) (fun v => fW v fun v => k v W) (sy.kn f args)
noncomputable def zFR (P : Program) (sy : SyT) (tb : Tb) (L : Nat) (n : Nat) : CallK × RndT :=
  Nat.rec (motive := fun _ => CallK × RndT) (fun _ _ _ _ => none, fun _ _ _ _ _ => none) (fun _ ih => (zCk P sy tb L ih.1 ih.2, evR P (opQT P sy tb) (toCall ih.1) ih.2 (clQ tb) L)) n
noncomputable def evFz (P : Program) (sy : SyT) (tb : Tb) (L n : Nat) : CallT := toCall (zFR P sy tb L n).1

section
variable {P : Program} {sy : SyT} {tb : Tb}
theorem zPutL_eq : ∀ (vs : List Value) (i : Nat) (t : Tr Value) (k : Tr Value → An), i + vs.length ≤ 1073741824 → zPutL vs i t k = k (putL vs i t)
  | [], i, t, k, _ => rfl
  | v :: vs, i, t, k, h => by
    simp only [List.length_cons] at h
    show putP (pth i) t v (fun t => fN (Nat.add i 1) fun i => zPutL vs i t k) = _
    rw [putP_pth (by omega), fN_eq, zPutL_eq vs _ _ k (by show i + 1 + vs.length ≤ _; omega)]
    rw [putL, fT_eq]
theorem zResL_ok {sl : Tr Value} {r : Value × Tw} : ∀ (l : List ResultVar) (W : Tw) (k : List Value → Tw → An), zResL l tb sl W k = some r → ∃ vs W', resQL tb (getS sl) l W = some (vs, W') ∧ k vs W' = some r
  | [], W, k, h => ⟨[], W, rfl, h⟩
  | .tmp t :: l, W, k, h => by
    have h' : Bool.rec (motive := fun _ => An) none (fW (getP (pth t) sl) fun v => zResL l tb sl W fun vs W => k (v :: vs) W) (Nat.blt t 1073741824) = some r := h
    cases hb : Nat.blt t 1073741824 with
    | false => rw [hb] at h'; cases h'
    | true =>
      rw [hb] at h'
      rw [Nat.blt_eq] at hb
      simp only [fW_eq, getP_eq, pth_code hb] at h'
      obtain ⟨vs, W', h1, h2⟩ := zResL_ok l W _ h'
      exact ⟨_, W', by rw [resQL, h1]; rfl, h2⟩
  | .cell a t :: l, W, k, h => by
    have h' : Bool.rec (motive := fun _ => An) none (Option.rec (motive := fun _ => An) none (fun ti => zLd ti.ag ti.sz (getP (pth a) sl) W fun v W => zResL l tb sl W fun vs W => k (v :: vs) W) (tb.ty.get t)) (Nat.blt a 1073741824) = some r := h
    cases hb : Nat.blt a 1073741824 with
    | false => rw [hb] at h'; cases h'
    | true =>
      rw [hb] at h'
      rw [Nat.blt_eq] at hb
      simp only [getP_eq, pth_code hb] at h'
      cases ht : tb.ty.get t with
      | none => rw [ht] at h'; cases h'
      | some ti =>
        rw [ht] at h'
        obtain ⟨ad, u, W1, e1, e2, e3⟩ := zLd_some h'
        obtain ⟨vs, W', h1, h2⟩ := zResL_ok l W1 _ e3
        refine ⟨_, W', ?_, h2⟩
        rw [resQL, e1]
        simp only [ht, e2, Option.bind_some, h1]
theorem zRes_ok {fn : Func} {sl : Tr Value} {W : Tw} {k : KV} {r : Value × Tw} (h : zRes tb fn sl W k = some r) : ∃ v W', resQ P tb fn (getS sl) W = some (v, W') ∧ k v W' = some r := by
  unfold zRes at h
  obtain ⟨vs, W', h1, h2⟩ := zResL_ok _ _ _ h
  unfold resQ
  rw [h1]
  cases vs with
  | nil => exact ⟨_, W', rfl, h2⟩
  | cons v s =>
    cases s with
    | nil => exact ⟨_, W', rfl, h2⟩
    | cons u s => exact ⟨_, W', rfl, h2⟩
theorem zEnd_ok {fn : Func} {sl : Tr Value} {ms : List Nat} {W : Tw} {k : KV} {r : Value × Tw} (h : zEnd P tb fn sl ms W k = some r) : ∃ v W', ((takeA P ms W).bind fun q => resQ P tb fn (getS sl) q.2) = some (v, W') ∧ k v W' = some r := by
  cases ms with
  | nil =>
    obtain ⟨v, W', h1, h2⟩ := zRes_ok (P := P) (show zRes tb fn sl W k = some r from h)
    exact ⟨v, W', h1, h2⟩
  | cons m s =>
    have h' : opb (takeA P (m :: s) W) (fun _ W => zRes tb fn sl W k) = some r := h
    obtain ⟨u, W1, h1, h2⟩ := opb_some h'
    obtain ⟨v, W', h3, h4⟩ := zRes_ok (P := P) h2
    exact ⟨v, W', by rw [h1]; exact h3, h4⟩
/-- A quick call, beside a slower one. -/
def CK (ck : CallK) (call : CallT) : Prop := ∀ f args W k r, ck f args W k = some r → ∃ v W', call f ⟨args⟩ W = some (v, W') ∧ k v W' = some r
theorem CK.le {ck : CallK} {call : CallT} (h : CK ck call) : CallLe (toCall ck) call := by
  intro f args W r hr
  obtain ⟨v, W', h1, h2⟩ := h f args.toList W _ r hr
  cases h2
  exact h1
theorem zE_ok (htb : TbOk P tb) {ck : CallK} {rnd rnd' : RndT} {call : CallT} (hc : CK ck call) (hr : RndLe rnd rnd') : EOk P sy tb call rnd' (zE P sy tb ck rnd) := by
  refine ⟨fun o sl W k r h => ?_, hc, fun g h => ?_⟩
  · have h' : zGen P sy tb ck rnd o sl W k = some r := h
    unfold zGen at h'
    cases hR : opR tb (getS sl) o W with
    | some p =>
      obtain ⟨nx, W1⟩ := p
      rw [hR] at h'
      have h2 : zVal k nx W1 = some r := h'
      unfold zVal at h2
      split at h2
      · rename_i v
        rw [fW_eq] at h2
        refine ⟨.value v, W1, v, W1, ?_, rfl, h2⟩
        rw [opQT_eq htb]
        exact opR_ok htb hR
      · cases h2
    | none =>
      rw [hR] at h'
      have h3 : opb (opQT P sy tb (getS sl) o W) (zNx ck rnd o k) = some r := h'
      obtain ⟨nx, W1, h1, h2⟩ := opb_some h3
      unfold zNx at h2
      split at h2
      · rw [forV_eq] at h2
        exact ⟨_, _, _, _, h1, rfl, h2⟩
      · exact ⟨_, _, _, _, h1, rfl, h2⟩
      · rename_i g args
        obtain ⟨v, W', h3, h4⟩ := hc _ _ _ _ _ h2
        exact ⟨_, _, v, W', h1, h3, h4⟩
      · rename_i l f ts as bd
        obtain ⟨v, W', h3, h4⟩ := opb_some h2
        rw [fW_eq] at h4
        exact ⟨_, _, v, W', h1, hr _ _ _ _ _ _ h3, h4⟩
      · cases h2
  · have h' : (tb.fn.get g).isSome = true := h
    exact Option.isSome_iff_exists.1 h'
theorem zB_ok (htb : TbOk P tb) {ck : CallK} {rnd rnd' : RndT} {call : CallT} (hc : CK ck call) (hr : RndLe rnd rnd') (N : Nat) : BOk P sy tb call rnd' (clQ tb) N (zB P sy tb ck rnd N) := by
  refine ⟨zE_ok htb hc hr, rfl, rfl, fun g ps as bd sl ms W k r n h => ?_⟩
  have h' : opb (evC P (opQT P sy tb) (toCall ck) rnd (clQ tb) none N 1 (.rangeFunc g ps as bd) (sl, ms) W) (fun p W => Prod.rec (motive := fun _ => An) (fun e s => Prod.rec (motive := fun _ => An) (fun sl ms => k e sl ms W) s) p) = some r := h
  obtain ⟨p, W1, h1, h2⟩ := opb_some h'
  obtain ⟨e, sl', ms'⟩ := p
  refine ⟨e, sl', ms', W1, ?_, h2⟩
  have := evC_le (P := P) (op := opQT P sy tb) hc.le hr (cl := clQ tb) (cl' := clQ tb) (fun _ h => h) none N 1 _ _ _ _ h1
  exact this
theorem zCk_ok (htb : TbOk P tb) {ck : CallK} {rnd rnd' : RndT} {call : CallT} (L : Nat) (hc : CK ck call) (hr : RndLe rnd rnd') : CK (zCk P sy tb L ck rnd) (knT sy.kn (callQ P sy tb L (call, rnd'))) := by
  intro f args W k r h
  unfold zCk at h
  unfold knT
  simp only
  cases hk : sy.kn f args with
  | some v =>
    rw [hk] at h
    simp only [fW_eq] at h
    exact ⟨v, W, rfl, h⟩
  | none =>
    rw [hk] at h
    simp only at h ⊢
    unfold zFn at h
    unfold callQ
    split at h
    · rename_i fn hf
      split at h
      · rename_i c hb
        rw [fN_eq] at h
        cases h1 : Nat.blt fn.ntmps 1073741824 with
        | false => rw [h1] at h; cases h
        | true =>
          rw [h1] at h
          cases h2 : Nat.ble (List.length args) fn.ntmps with
          | false => rw [h2] at h; cases h
          | true =>
            rw [h2] at h
            have h3 := h1
            have h4 := h2
            rw [Nat.blt_eq] at h3
            rw [Nat.ble_eq] at h4
            simp only [zPutL_eq _ _ _ _ (show 0 + args.length ≤ 1073741824 by omega)] at h
            obtain ⟨e, sl', ms', W', e1, e2⟩ := zC_ok (zB_ok htb hc hr fn.ntmps) _ _ _ _ _ _ _ h
            have fin : zEnd P tb fn sl' ms' W' k = some r → (e = .normal ∨ e = .ret) → ∃ v W2, (match tb.fn.get f with
              | some fn => match fn.body with
                | some c => if Nat.ble (⟨args⟩ : Array Value).size fn.ntmps && Nat.blt fn.ntmps 1073741824 then
                    (evC P (opQT P sy tb) call rnd' (clQ tb) none fn.ntmps L c (putL (⟨args⟩ : Array Value).toList 0 .lf, []) W).bind fun p => match p with
                      | ((.normal, (sl, ms)), W') => (takeA P ms W').bind fun q => resQ P tb fn (getS sl) q.2
                      | ((.ret, (sl, ms)), W') => (takeA P ms W').bind fun q => resQ P tb fn (getS sl) q.2
                      | _ => none
                  else none
                | none => none
              | none => none) = some (v, W2) ∧ k v W2 = some r := by
              intro hz he
              obtain ⟨v, W2, g1, g2⟩ := zEnd_ok hz
              refine ⟨v, W2, ?_, g2⟩
              rw [hf]
              simp only [hb]
              rw [if_pos (by rw [Bool.and_eq_true]; exact ⟨h2, h1⟩), e1, Option.bind_some]
              rcases he with rfl | rfl
              · exact g1
              · exact g1
            cases e with
            | normal => exact fin e2 (.inl rfl)
            | ret => exact fin e2 (.inr rfl)
            | exit i => cases e2
      · cases h
    · cases h
theorem zFR_le (htb : TbOk P tb) (L : Nat) : ∀ n, CK (zFR P sy tb L n).1 (evFRq P sy tb L n).1 ∧ RndLe (zFR P sy tb L n).2 (evFRq P sy tb L n).2 := by
  intro n
  induction n with
  | zero => exact ⟨fun f args W k r h => (by cases h), fun l ts as bd W r h => (by cases h)⟩
  | succ n ih =>
    refine ⟨?_, ?_⟩
    · exact zCk_ok htb (P := P) (sy := sy) (tb := tb) L ih.1 ih.2
    · exact evR_le (P := P) (op := opQT P sy tb) ih.1.le ih.2 (cl := clQ tb) (cl' := clQ tb) (fun _ h => h) L
theorem evFz_le (htb : TbOk P tb) (L n : Nat) : CallLe (evFz P sy tb L n) (evFq P sy tb L n) := (zFR_le htb L n).1.le
end
end Mir

