import Derived.Test.YtbhjimflcfnpaaaGreatDoorK5
set_option linter.all false
namespace Mo
open Go

def EQ (w0 : Bs) (N : Nat) (ρ : Ren) (W : Tw) (e : Ex) (s' : St) (W' : Tw) : Exit → Act → World → Prop := fun ex a w => exm e ex ∧ ∃ ρ2, Ext ρ W ρ2 W' ∧ ER w0 N ρ2 s' W' a w
/-- A code within another one. -/
inductive Sub (x : Code) : Code → Prop
  | refl : Sub x x
  | seqL {a b : Code} (h : Sub x a) : Sub x (.seq a b)
  | seqR {a b : Code} (h : Sub x b) : Sub x (.seq a b)
  | condL {o : Operand} {a b : Code} (h : Sub x a) : Sub x (.cond o a b)
  | condR {o : Operand} {a b : Code} (h : Sub x b) : Sub x (.cond o a b)
  | block {id : Nat} {b : Code} (h : Sub x b) : Sub x (.block id b)
  | loop {b : Code} (h : Sub x b) : Sub x (.loop b)
/-- A loop of which something is told does what is told of it. -/
def LoopOk (P : Program) (w0 : Bs) (N : Nat) (b : Code) (c : LoopC) : Prop := ∀ (rm : Nat) (ρ : Ren) (sl sl' : Tr Value) (W W' : Tw) (a : Act) (w : World) (e : Ex), ER w0 N ρ (sl, []) W a w → c.F sl W = some ((e, sl'), W') →
  (Code.loop b).wpIn (FF none) rm P (EQ w0 N ρ W e (sl', []) W') a w
structure SOk (P : Program) (w0 : Bs) (sy : SyT) : Prop where
  lo : SLo sy
  kn : ∀ f c, sy.kn f = some c → ∀ ρ W w args args' r W', WR w0 ρ W w → AR ρ args args' → c.F args.toList W = some (r, W') → Calls P f args' w fun e w' => ∃ ρ2 y, e = .returned y ∧ Ext ρ W ρ2 W' ∧ WR w0 ρ2 W' w' ∧ VR ρ2 r y
  ko : SKo sy
  lp : ∀ (f : Nat) fn body b n c, P.funcs[f]? = some fn → fn.body = some body → Sub (.loop b) body → hdC b = some n → sy.lp f n = some c → LoopOk P w0 fn.ntmps b c
/-- What is asked of a program once. -/
structure POk (P : Program) (w0 : Bs) (sy : SyT) : Prop where
  zero : SOk P w0 sy
  size : ZSz P
  code : ∀ (f : Nat) (fn : Func) (c : Code), P.funcs[f]? = some fn → fn.body = some c → codeOk c = true
  mixed : P.follows .mixedOrders = true

section
variable {P : Program} {sy : SyT} {w0 : Bs} {N : Nat} {ρ : Ren} {call : CallT} {rnd : RndT} {fr : Option Nat} {rm : Nat} {ops : Array Oper}
theorem range_split {n i : Nat} (h : i < n) : List.range n = List.range i ++ i :: (List.range n).drop (i + 1) := by
  have h1 : (List.range n).take i = List.range i := by rw [List.take_range]; congr 1; omega
  have h2 : (List.range n).drop i = i :: (List.range n).drop (i + 1) := by
    rw [List.drop_eq_getElem_cons (by simpa using h)]
    simp
  conv => lhs; rw [← List.take_append_drop i (List.range n), h1, h2]
/-- How many are left. -/
noncomputable def left (n : Nat) (listed : Array Bool) : Nat := ((List.range n).filter fun i => !listed.getD i true).length
theorem left_set {n i : Nat} (h : i < n) {listed : Array Bool} (hs : listed.size = n) (hu : listed.getD i true = false) : left n listed = left n (listed.setIfInBounds i true) + 1 := by
  have hget : ∀ j, j ≠ i → (listed.setIfInBounds i true).getD j true = listed.getD j true := by
    intro j hj
    simp only [Array.getD_eq_getD_getElem?]
    rw [Array.getElem?_setIfInBounds_ne (Ne.symm hj)]
  have hgi : (listed.setIfInBounds i true).getD i true = true := by
    simp only [Array.getD_eq_getD_getElem?]
    rw [Array.getElem?_setIfInBounds_self_of_lt (by omega)]
    rfl
  have hmem : ∀ j, j ∈ (List.range n).drop (i + 1) → i < j := by
    intro j hj
    obtain ⟨k, hk, rfl⟩ := List.getElem_of_mem hj
    simp only [List.getElem_drop, List.getElem_range]
    omega
  unfold left
  rw [range_split h, List.filter_append, List.filter_append, List.filter_cons, List.filter_cons, if_pos (by simp [hu]), if_neg (by simp [hgi])]
  have e1 : (List.range i).filter (fun j => !(listed.setIfInBounds i true).getD j true) = (List.range i).filter (fun j => !listed.getD j true) :=
    List.filter_congr fun j hj => by rw [hget j (by have := List.mem_range.1 hj; omega)]
  have e2 : ((List.range n).drop (i + 1)).filter (fun j => !(listed.setIfInBounds i true).getD j true) = ((List.range n).drop (i + 1)).filter (fun j => !listed.getD j true) :=
    List.filter_congr fun j hj => by rw [hget j (by have := hmem j hj; omega)]
  rw [e1, e2]
  simp only [List.length_append, List.length_cons]
  omega
theorem getD_in {listed : Array Bool} {i : Nat} (h : i < listed.size) (x y : Bool) : listed.getD i x = listed.getD i y := by
  simp [Array.getD, h]

theorem any_sound (hp : POk P w0 sy) (hc : CallS P w0 call) (hrn : RndS P w0 rnd) (hcl : CallL call rnd) {T : Nat → Tr Value × Tw} {v : Nat → Value} {U : Nat → Tw} (ht : Trace P sy call rnd N ops ops.toList T v U) (hs : slotsOk ops = true)
    (hlone : ∀ i j, j < i → i < ops.size → Waits ops i j ∨ Lone ((U j).rd, (U j).wr) ((U i).rd, (U i).wr)) (hroom : (T 0).2.nx ≤ (T 0).2.lim) {w1 : World} (hW0 : WR w0 ρ (T 0).2 w1) {df : List Deferred} {Q : Exit → Act → World → Prop}
    (hQ : ∀ (listed : Array Bool) ρ' a w, (∀ i, i < ops.size → listed.getD i false = true) → At w0 N ρ ops T U df listed ρ' a w → Q .normal a w) :
    ∀ (fuel : Nat) (listed : Array Bool) (ρ' : Ren) (a : Act) (w : World), listed.size = ops.size → Down ops listed → left ops.size listed = fuel → At w0 N ρ ops T U df listed ρ' a w → wpAnyIn (FF fr) rm P .any ops Q fuel listed a w := by
  obtain ⟨hback, hpair⟩ := slotsOk_spec hs
  have hready : ∀ (listed : Array Bool), listed.size = ops.size → Region.ready .any ops listed = [] → ∀ i, i < ops.size → listed.getD i false = true := by
    intro listed hsz hnil i
    induction i using Nat.strongRecOn with
    | _ i ih =>
      intro hlt
      cases hu : listed.getD i false with
      | true => rfl
      | false =>
        exfalso
        have hmem : i ∈ Region.ready .any ops listed := by
          unfold Region.ready
          refine List.mem_filter.2 ⟨List.mem_range.2 hlt, ?_⟩
          have hoi : ops[i]? = some ops[i] := Array.getElem?_eq_getElem hlt
          rw [getD_in (by omega) true false, hu, hoi]
          simp only [Bool.not_false, Option.map_some, Option.getD_some, Bool.true_and]
          rw [Array.all_eq_true_iff_forall_mem]
          intro e hem
          by_cases hb : Region.binds .any e = true
          · have h1 := hback i _ hoi e hem hb
            rw [hb, ih e.on h1 (by omega)]
            rfl
          · simp [hb]
        rw [hnil] at hmem
        cases hmem
  intro fuel
  induction fuel with
  | zero =>
    intro listed ρ' a w hsz hdown hf h
    have hall : ∀ i, i < ops.size → listed.getD i false = true := by
      intro i hi
      have h0 := List.length_eq_zero_iff.1 hf
      rw [List.filter_eq_nil_iff] at h0
      have := h0 i (List.mem_range.2 hi)
      rw [getD_in (by omega) false true]
      simpa using this
    refine ⟨?_, hQ listed ρ' a w hall h⟩
    unfold Region.ready
    rw [List.filter_eq_nil_iff]
    intro i hi hh
    simp only [Bool.and_eq_true] at hh
    have := hall i (List.mem_range.1 hi)
    rw [getD_in (by have := List.mem_range.1 hi; omega) false true] at this
    rw [this] at hh
    cases hh.1
  | succ fuel ih =>
    intro listed ρ' a w hsz hdown hf h
    refine ⟨fun hnone => hQ listed ρ' a w (hready listed hsz hnone) h, fun i hi => ?_⟩
    unfold Region.ready at hi
    obtain ⟨hir, hic⟩ := List.mem_filter.1 hi
    have hlt : i < ops.size := List.mem_range.1 hir
    simp only [Bool.and_eq_true] at hic
    obtain ⟨hun, hdeps⟩ := hic
    have hui : listed.getD i true = false := by simpa using hun
    have hoi : ops[i]? = some ops[i] := Array.getElem?_eq_getElem hlt
    rw [hoi] at hdeps
    simp only [Option.map_some, Option.getD_some] at hdeps
    rw [Array.all_eq_true_iff_forall_mem] at hdeps
    have hdep : ∀ e ∈ ops[i].after, Region.binds .any e = true → listed.getD e.on false = true := fun e he hb => by
      have := hdeps e he
      rw [hb] at this
      simpa using this
    have hii : i < listed.size := by omega
    have hdown' : Down ops (listed.setIfInBounds i true) := by
      intro k o hk hl e he hb
      rcases (getD_set hii k).1 hl with h1 | h1
      · exact (getD_set hii e.on).2 (.inl (hdown k o hk h1 e he hb))
      · subst h1
        rw [hoi] at hk
        cases hk
        exact (getD_set hii e.on).2 (.inl (hdep e he hb))
    have hstep := at_step (fr := fr) (rm := rm) hp.size hc hrn hcl ht hs hlone hroom hW0 hsz hdown hoi (by rw [getD_in hii false true]; exact hui) hdep h Q
    have hl := left_set hlt hsz hui
    have hnext : ∀ ρ2 a' w', At w0 N ρ ops T U df (listed.setIfInBounds i true) ρ2 a' w' → wpAnyIn (FF fr) rm P .any ops Q fuel (listed.setIfInBounds i true) a' w' := fun ρ2 a' w' hr =>
      ih _ ρ2 a' w' (by simpa using hsz) hdown' (by omega) hr
    unfold wpOpIn
    rw [hoi]
    simp only
    split
    · rename_i hw
      rw [if_pos hw] at hstep
      exact Oper.wpIn_mono (fun a' w' ⟨ρ2, hr⟩ => hnext ρ2 a' w' hr) hstep
    · rename_i hw
      rw [if_neg hw] at hstep
      exact ⟨fun _ _ => trivial, hnext ρ' _ w hstep⟩

theorem cont_preB {K A : Type} {val : Nat → K → A} {D : Nat → K → Prop} {S : Nat → Prop} {x : K} : ∀ {n : Nat}, (∀ k, k < n → ¬ D k x → val (k + 1) x = val k x) → (∀ j, j < n → S j) → cont val D S n x = val n x
  | 0, _, _ => rfl
  | n + 1, hfr, h => by
    rw [cont]
    by_cases h1 : S n ∧ D n x
    · rw [if_pos h1]
    · rw [if_neg h1, cont_preB (fun k hk => hfr k (by omega)) fun j hj => h j (by omega), hfr n (Nat.lt_succ_self n) fun hd => h1 ⟨h n (Nat.lt_succ_self n), hd⟩]
theorem cont_none {K A : Type} {val : Nat → K → A} {D : Nat → K → Prop} {S : Nat → Prop} {x : K} : ∀ {n : Nat}, (∀ j, ¬ S j) → cont val D S n x = val 0 x
  | 0, _ => rfl
  | n + 1, h => by
    rw [cont, if_neg (fun h1 => h n h1.1)]
    exact cont_none h
theorem Trace.frame (hcl : CallL call rnd) {T : Nat → Tr Value × Tw} {v : Nat → Value} {U : Nat → Tw} (ht : Trace P sy call rnd N ops ops.toList T v U) (hroom : (T 0).2.nx ≤ (T 0).2.lim) :
    (∀ k, k ≤ ops.size → (T k).2.lim = (T 0).2.lim ∧ (T 0).2.nx ≤ (T k).2.nx ∧ (T k).2.nx ≤ (T k).2.lim) ∧ (∀ k, k < ops.size → ∀ m, ¬ (U k).wr.has m = true → (T (k + 1)).2.get m = (T k).2.get m) ∧
    (∀ k, k < ops.size → ∀ t, ¬ (ops[k]?).bind (·.dst) = some t → getS (T (k + 1)).1 t = getS (T k).1 t) ∧ (∀ k, k < ops.size → (T k).2.nx ≤ (T (k + 1)).2.nx) := by
  have hget : ∀ k (hk : k < ops.size), ops.toList[k]'(by simpa using hk) = ops[k] := fun k hk => by simp
  have hmono : ∀ k, k < ops.size → (T k).2.nx ≤ (T (k + 1)).2.nx ∧ (T (k + 1)).2.lim = (T k).2.lim ∧ ((T k).2.nx ≤ (T k).2.lim → (T (k + 1)).2.nx ≤ (T (k + 1)).2.lim) := fun k hk => by
    have hk' : k < ops.toList.length := by simpa using hk
    have m := (Local.opV (P := P) (sy := sy) hcl ops ops.toList[k] (getS (T k).1)).mono (ht.run k hk')
    rw [ht.nx k hk', ht.lim k hk']
    exact ⟨m.nx, m.lim, m.room⟩
  have hlims : ∀ k, k ≤ ops.size → (T k).2.lim = (T 0).2.lim ∧ (T 0).2.nx ≤ (T k).2.nx ∧ (T k).2.nx ≤ (T k).2.lim := by
    intro k
    induction k with
    | zero => intro _; exact ⟨rfl, Nat.le_refl _, hroom⟩
    | succ k ih =>
      intro hk
      obtain ⟨i1, i2, i3⟩ := ih (by omega)
      obtain ⟨j1, j2, j3⟩ := hmono k (by omega)
      exact ⟨j2.trans i1, by omega, j3 i3⟩
  refine ⟨hlims, fun k hk m hm => ?_, fun k hk t hd => ?_, fun k hk => (hmono k hk).1⟩
  · have hk' : k < ops.toList.length := by simpa using hk
    have L := Local.opV (P := P) (sy := sy) hcl ops ops.toList[k] (getS (T k).1)
    have hr := ht.run k hk'
    obtain ⟨V', _, hl⟩ := L.loc hr (V := { (T k).2 with rd := [], wr := [] }) ⟨rfl, rfl, rfl, by
      have := (hlims (k + 1) (by omega)).2.2
      rw [ht.nx k hk', ht.lim k hk'] at this
      rw [(L.mono hr).lim] at this
      exact this, fun _ _ => rfl, fun _ _ => rfl⟩
    rw [ht.get k hk' m]
    exact hl.keptW m hm
  · have hk' : k < ops.toList.length := by simpa using hk
    obtain ⟨_, h2⟩ := putS_some (ht.put k hk')
    rw [h2, if_neg]
    intro he
    refine hd ?_
    rw [Array.getElem?_eq_getElem hk]
    rw [hget k hk] at he
    exact he

theorem evD_sound (hp : POk P w0 sy) (hc : CallS P w0 call) (hrn : RndS P w0 rnd) (hcl : CallL call rnd) (hs : slotsOk ops = true) {sl slf : Tr Value} {ms : List Nat} {W Wf : Tw} {ls : List (Lg × Lg)} {a : Act} {w : World} (h : ER w0 N ρ (sl, ms) W a w) (hroom : W.nx ≤ W.lim)
    (he : evD (opT P sy) call rnd N ops ops.toList sl W = some ((slf, ls), Wf)) (hm : memOk (masks ops ops.size) ls ls 0 = true) (id : Nat) : (Code.region id ops true).wpIn (FF fr) rm P (EQ w0 N ρ W .normal (slf, ms) Wf) a w := by
  obtain ⟨T, v, U, ht, t0, t1, t2, t3⟩ := evD_trace ops.toList sl W he
  have hn : ops.toList.length = ops.size := by simp
  have hlone : ∀ i j, j < i → i < ops.size → Waits ops i j ∨ Lone ((U j).rd, (U j).wr) ((U i).rd, (U i).wr) := by
    intro i j hj hi
    have := memOk_spec ls 0 hm i (by omega) j (by omega) (by omega)
    rw [Nat.zero_add, t3 i, t3 j] at this
    exact this
  refine wpIn_region_any hp.mixed ?_
  have hT0 : (T 0).2 = W := by rw [t0]
  refine any_sound (df := a.defers) hp hc hrn hcl ht hs hlone (by rw [hT0]; exact hroom) (w1 := w) (by rw [hT0]; exact h.W) (fun listed ρ' a' w' hall hA => ?_) ops.size _ ρ a _ (by simp) ?_ ?_ ?_
  · obtain ⟨V, v1, v2, v3, v4⟩ := hA.mem
    rw [hn] at t1
    obtain ⟨f1, f2, f3, f4⟩ := ht.frame hcl (by rw [hT0]; exact hroom)
    have hTn : (T ops.size).2 = Wf := by rw [t1]
    have hTs : (T ops.size).1 = slf := by rw [t1]
    obtain ⟨g1, g2, g3⟩ := f1 ops.size (Nat.le_refl _)
    have hsame : Same V Wf := by
      refine ⟨fun m => ?_, by rw [v2, hTn], by rw [v3, ← hTn, g1]⟩
      rw [v4, cont_preB (x := m) (D := fun k n => (U k).wr.has n = true) (fun k hk hd => f2 k hk m hd) (fun j hj => hall j hj), hTn]
    refine ⟨trivial, ρ', ⟨hA.le, fun m hd => ?_, by rw [← hTn, ← hT0]; exact g2, by rw [← hTn, ← hT0]; exact g1⟩, ⟨v1.same hsame, ⟨fun t => ?_⟩, by rw [hA.df]; exact h.df.le hA.le, hA.N⟩⟩
    · rcases hA.dom m hd with h1 | ⟨j, j1, _, j3, j4⟩
      · exact .inl h1
      · refine .inr ⟨?_, ?_⟩
        · have := (f1 j (by omega)).2.1
          rw [hT0] at this
          omega
        · have hup : ∀ d k, k + d ≤ ops.size → (T k).2.nx ≤ (T (k + d)).2.nx := by
            intro d
            induction d with
            | zero => intro k _; exact Nat.le_refl _
            | succ d ih =>
              intro k hk
              exact Nat.le_trans (ih k (by omega)) (f4 (k + d) (by omega))
          have := hup (ops.size - (j + 1)) (j + 1) (by omega)
          rw [show j + 1 + (ops.size - (j + 1)) = ops.size by omega, hTn] at this
          omega
    · have := hA.sl.at' t
      rw [cont_preB (x := t) (D := fun k t => (ops[k]?).bind (·.dst) = some t) (fun k hk hd => f3 k hk t hd) (fun j hj => hall j hj), hTs] at this
      exact this
  · intro k o hk hl
    rw [Array.getD_eq_getD_getElem?] at hl
    simp [Array.getElem?_replicate] at hl
    split at hl <;> cases hl
  · unfold left
    have : (List.range ops.size).filter (fun i => !(Array.replicate ops.size false).getD i true) = List.range ops.size := by
      rw [List.filter_eq_self]
      intro i hi
      have := List.mem_range.1 hi
      simp [Array.getD, this]
    rw [this]; simp
  · have hnone : ∀ j, ¬ (Array.replicate ops.size false).getD j false = true := by
      intro j
      rw [Array.getD_eq_getD_getElem?]
      simp [Array.getElem?_replicate]
      split <;> simp
    have hW := h.W.drew
    refine ⟨⟨{ W with nx := (T ops.size).2.nx, lim := W.lim, rd := W.rd, wr := W.wr }, hW.span (fun m h1 h2 hd => ?_) hW.lim, rfl, by rw [hT0], fun m => ?_⟩, .rfl', fun m hd => .inl hd, ⟨fun t => ?_⟩, rfl, h.N⟩
    · obtain ⟨f1, _⟩ := ht.frame hcl (by rw [hT0]; exact hroom)
      have := (f1 ops.size (Nat.le_refl _)).2.1
      rw [hT0] at this
      exact hW.free m (by omega) h2 hd
    · rw [cont_none (x := m) (D := fun k n => (U k).wr.has n = true) hnone, hT0]
      rfl
    · rw [cont_none (x := t) (D := fun k t => (ops[k]?).bind (·.dst) = some t) hnone, t0]
      exact h.sl.at' t

/-- In a round, or not. -/
def RoR (ρ : Ren) (ro fr : Option Nat) : Prop := match ro with
  | none => fr = none
  | some l => ρ.dom l ∧ fr = some (ρ.b l)
theorem RoR.le {ρ ρ' : Ren} (hl : ρ.le ρ') {ro fr : Option Nat} (h : RoR ρ ro fr) : RoR ρ' ro fr := by
  cases ro with
  | none => exact h
  | some l => exact ⟨hl.dom _ h.1, by rw [hl.b _ h.1]; exact h.2⟩
theorem sim_getLoop {l : Nat} (hl : ρ.dom l) : SimAt P w0 (fun ρ a b => ∃ st pe fn fn' ts ts' ps as bd df, a = ⟨st, pe, fn, ts, ps, as, bd, df⟩ ∧ b = ⟨st, pe, fn', ts', ps, as, bd, ρ.b df⟩ ∧ AR ρ ts ts' ∧ codeOk as = true ∧ codeOk bd = true ∧ ρ.dom df) ρ (Instr.getLoop l) (Instr.getLoop (ρ.b l)) := by
  refine SimAt.bind (sim_getObj hl) fun ρ1 o o' hl1 ho => ?_
  cases ho with
  | loop ht ha hb hd => exact SimAt.pure fun ρ2 hl2 => ⟨_, _, _, _, _, _, _, _, _, _, rfl, by rw [hl2.b _ hd], ht.le hl2, ha, hb, hl2.dom _ hd⟩
  | iter s p => exact SimAt.stuck
  | map c h => exact SimAt.stuck
  | defd b => cases b <;> exact SimAt.stuck
theorem sim_enterLoop {ro fr : Option Nat} (hro : RoR ρ ro fr) (fn fn' : FuncId) {ts ts' : Array Value} (ht : AR ρ ts ts') (ps : Array Tmp) {as bd : Code} (ha : codeOk as = true) (hb : codeOk bd = true) :
    SimAt P w0 (fun ρ a b => ρ.dom a.1 ∧ b.1 = ρ.b a.1 ∧ ∃ ms, mkN a.2 = some ms ∧ MkR ρ ms b.2) ρ (Instr.enterLoop fn ts ps as bd ro) (Instr.enterLoop fn' ts' ps as bd fr) := by
  have key : ∀ ρ1 : Ren, ρ.le ρ1 → ∀ (df : Nat) (ms : List Nat) (mk mk' : List Deferred), ρ1.dom df → mkN mk = some ms → MkR ρ1 ms mk' →
      SimAt P w0 (fun (ρ : Ren) (a b : Nat × List Deferred) => ρ.dom a.1 ∧ b.1 = ρ.b a.1 ∧ ∃ ms, mkN a.2 = some ms ∧ MkR ρ ms b.2) ρ1
        (newObj (.loop { state := .ready, pending := none, fn := fn, tmps := ts, params := ps, assign := as, body := bd, defers := df }) >>= fun r => pure (r, mk))
        (newObj (.loop { state := .ready, pending := none, fn := fn', tmps := ts', params := ps, assign := as, body := bd, defers := ρ1.b df }) >>= fun r => pure (r, mk')) := by
    intro ρ1 hl df ms mk mk' e1 e3 e4
    refine SimAt.bind (sim_newObj (OR.loop (ht.le hl) ha hb e1)) fun ρ2 n m hl2 ⟨d1, d2, d3⟩ => SimAt.pure fun ρ3 hl3 => ?_
    exact ⟨hl3.dom _ d1, by rw [d2, hl3.b _ d1], ms, e3, (e4.le hl2).le hl3⟩
  unfold Instr.enterLoop
  cases ro with
  | none =>
    have hfr : fr = none := hro
    subst hfr
    refine SimAt.bind (sim_newObj (o := .deferred (some [])) (o' := .deferred (some [])) (.defd true)) fun ρ1 n m hl ⟨d1, d2, d3⟩ => ?_
    subst d2
    exact key ρ1 hl n [n] _ _ d1 rfl ⟨rfl, fun D hD => by simp at hD; subst hD; exact d1⟩
  | some l =>
    obtain ⟨h1, h2⟩ := hro
    subst h2
    refine SimAt.bind (sim_getLoop h1) fun ρ1 p q hl hpq => ?_
    obtain ⟨st, pe, fn, fn', ts, ts', ps, as, bd, df, rfl, rfl, k1, k2, k3, k4⟩ := hpq
    exact key ρ1 hl df [] _ _ k4 rfl ⟨rfl, fun D hD => by cases hD⟩
theorem sim_endLoop {l : Nat} (hl : ρ.dom l) : SimAt P w0 EqR ρ (Instr.endLoop l) (Instr.endLoop (ρ.b l)) := by
  unfold Instr.endLoop
  refine SimAt.bind (sim_getLoop hl) fun ρ1 p q hl1 hpq => ?_
  obtain ⟨st, pe, fn, fn', ts, ts', ps, as, bd, df, rfl, rfl, k1, k2, k3, k4⟩ := hpq
  dsimp only
  split
  · exact SimAt.fail (runT_bindN runtimePanic_none)
  · rw [← hl1.b _ hl]
    exact SimAt.bindE (sim_setObj (hl1.dom _ hl) (OR.loop k1 k2 k3 k4)) fun _ _ _ => SimAt.pureE _
theorem sim_beginRound {l : Nat} (hl : ρ.dom l) : SimAt P w0 EqR ρ (Instr.beginRound l) (Instr.beginRound (ρ.b l)) := by
  unfold Instr.beginRound
  refine SimAt.bind (sim_getLoop hl) fun ρ1 p q hl1 hpq => ?_
  obtain ⟨st, pe, fn, fn', ts, ts', ps, as, bd, df, rfl, rfl, k1, k2, k3, k4⟩ := hpq
  dsimp only
  rw [← hl1.b _ hl]
  refine SimAt.bindE (sim_setObj (hl1.dom _ hl) (OR.loop k1 k2 k3 k4)) fun _ _ _ => ?_
  cases st <;> first | exact SimAt.pureE _ | exact SimAt.rpanic
theorem sim_endRound {l : Nat} (hl : ρ.dom l) (j : Option Code) : SimAt P w0 VR ρ (Instr.endRound l j) (Instr.endRound (ρ.b l) j) := by
  unfold Instr.endRound
  refine SimAt.bind (sim_getLoop hl) fun ρ1 p q hl1 hpq => ?_
  obtain ⟨st, pe, fn, fn', ts, ts', ps, as, bd, df, rfl, rfl, k1, k2, k3, k4⟩ := hpq
  dsimp only
  rw [← hl1.b _ hl]
  exact SimAt.bindE (sim_setObj (hl1.dom _ hl) (OR.loop k1 k2 k3 k4)) fun _ _ _ => SimAt.pureV (.bool _)
theorem sim_takeDeferred {l : Nat} (hl : ρ.dom l) : SimAt P w0 (fun _ a b => a = [] → b = []) ρ (Instr.takeDeferred l) (Instr.takeDeferred (ρ.b l)) := by
  unfold Instr.takeDeferred
  refine SimAt.bind (sim_getObj hl) fun ρ1 o o' hl1 ho => ?_
  cases ho with
  | loop _ _ _ _ => exact SimAt.stuck
  | iter s p => exact SimAt.stuck
  | map c h => exact SimAt.stuck
  | defd b =>
    cases b with
    | false => exact SimAt.stuck
    | true =>
      simp only [if_true]
      rw [← hl1.b _ hl]
      exact SimAt.bindE (sim_setObj (o := .deferred none) (o' := .deferred none) (hl1.dom _ hl) (.defd false)) fun _ _ _ => SimAt.pure fun _ _ h => h

theorem getS_arrL (sl : Tr Value) : ∀ (n k i : Nat) (h : i < (arrL sl k n).length), (arrL sl k n)[i] = getS sl (k + i)
  | 0, k, i, h => absurd h (by simp [arrL])
  | n + 1, k, 0, h => rfl
  | n + 1, k, i + 1, h => by
    simp only [arrL, List.getElem_cons_succ]
    rw [getS_arrL sl n (k + 1) i, show k + 1 + i = k + (i + 1) by omega]
theorem arrL_length (sl : Tr Value) : ∀ (n k : Nat), (arrL sl k n).length = n
  | 0, k => rfl
  | n + 1, k => by simp [arrL, arrL_length sl n]
theorem arrL_AR {sl : Tr Value} {a : Act} (h : SR ρ (getS sl) a) (hN : a.tmps.size = N) : AR ρ ⟨arrL sl 0 N⟩ a.tmps := by
  refine ⟨by simp [arrL_length, hN], fun i hi => ?_⟩
  have hi' : i < (arrL sl 0 N).length := by simpa using hi
  have := h.at' i
  have e : (⟨arrL sl 0 N⟩ : Array Value).getD i undef = getS sl i := by
    have := getS_arrL sl N 0 i hi'
    rw [Nat.zero_add] at this
    simp [Array.getD, hi', this]
  rw [e]
  exact this
theorem evC_sound (hp : POk P w0 sy) (hc : CallS P w0 call) (hrn : RndS P w0 rnd) (hcl : CallL call rnd) {cl : FuncId → Bool} (hcb : ∀ f, cl f = true → callable P f = true) {ro : Option Nat} {lp : Nat → Option LoopC} (hro0 : ro = none ∨ lp = fun _ => none) : ∀ (n : Nat) (c : Code) (s s' : St) (W W' : Tw) (e : Ex) (ρ : Ren) (a : Act) (w : World), RoR ρ ro fr → codeOk c = true → (∀ b c', Sub (.loop b) c → lpOf lp b = some c' → LoopOk P w0 N b c') → ER w0 N ρ s W a w → evC P (opT P sy) call rnd cl ro lp N n c s W = some ((e, s'), W') → c.wpIn (FF fr) rm P (EQ w0 N ρ W e s' W') a w := by
  intro n
  induction n using Nat.strongRecOn with
  | _ n0 ihs =>
  cases n0 with
  | zero => intro c s s' W W' e ρ a w hro hk hlo h he; cases he
  | succ n =>
    have ih := ihs n (Nat.lt_succ_self n)
    intro c s s' W W' e ρ a w hro hk hlo h he
    have tr : ∀ {ρ2 : Ren} {s1 : St} {W1 : Tw} {ex : Exit} {a' : Act} {w' : World}, Ext ρ W ρ2 W1 → EQ w0 N ρ2 W1 e s' W' ex a' w' → EQ w0 N ρ W e s' W' ex a' w' := by
      rintro ρ2 s1 W1 ex a' w' x ⟨h1, ρ3, h2, h3⟩
      exact ⟨h1, ρ3, x.trans h2, h3⟩
    cases c with
    | skip => simp only [evC, Option.some.injEq, Prod.mk.injEq] at he; obtain ⟨⟨rfl, rfl⟩, rfl⟩ := he; exact wpIn_skip ⟨trivial, ρ, .refl _ _, h⟩
    | label l => simp only [evC, Option.some.injEq, Prod.mk.injEq] at he; obtain ⟨⟨rfl, rfl⟩, rfl⟩ := he; exact wpIn_label ⟨trivial, ρ, .refl _ _, h⟩
    | ret => simp only [evC, Option.some.injEq, Prod.mk.injEq] at he; obtain ⟨⟨rfl, rfl⟩, rfl⟩ := he; exact wpIn_ret ⟨trivial, ρ, .refl _ _, h⟩
    | exit id => simp only [evC, Option.some.injEq, Prod.mk.injEq] at he; obtain ⟨⟨rfl, rfl⟩, rfl⟩ := he; exact wpIn_exit ⟨rfl, ρ, .refl _ _, h⟩
    | seq x y =>
      simp only [codeOk, Bool.and_eq_true] at hk
      simp only [evC] at he
      obtain ⟨⟨e1, s1⟩, W1, h1, h2⟩ := bind_some he
      refine wpIn_seq (wpIn_mono (ih x s s1 W W1 e1 ρ a w hro hk.1 (fun b c' hb => hlo b c' (.seqL hb)) h h1) ?_)
      rintro ex a' w' ⟨k1, ρ2, k2, k3⟩
      cases e1 with
      | normal =>
        cases ex <;> try exact absurd k1 id
        exact wpIn_mono (ih y s1 s' W1 W' e ρ2 a' w' (hro.le k2.le) hk.2 (fun b c' hb => hlo b c' (.seqR hb)) k3 h2) fun _ _ _ q => tr (s1 := s1) k2 q
      | exit i =>
        simp only [Option.some.injEq, Prod.mk.injEq] at h2
        obtain ⟨⟨rfl, rfl⟩, rfl⟩ := h2
        cases ex <;> first | exact absurd k1 id | exact ⟨k1, ρ2, k2, k3⟩
      | ret =>
        simp only [Option.some.injEq, Prod.mk.injEq] at h2
        obtain ⟨⟨rfl, rfl⟩, rfl⟩ := h2
        cases ex <;> first | exact absurd k1 id | exact ⟨k1, ρ2, k2, k3⟩
    | cond x c1 c2 =>
      simp only [codeOk, Bool.and_eq_true] at hk
      simp only [evC] at he
      obtain ⟨v, W1, h1, h2⟩ := bind_some he
      have hc2 : a.eval x = .bool v ∧ WR w0 ρ W1 w ∧ W1.nx = W.nx ∧ W1.lim = W.lim := by
        unfold condO at h1
        split at h1
        · exact cond_sound h.W (h.sl.at' _) h1
        · cases h1
          exact ⟨rfl, h.W, rfl, rfl⟩
        · cases h1
      obtain ⟨g1, g2, g3, g4⟩ := hc2
      have hE : ER w0 N ρ s W1 a w := ⟨g2, h.sl, h.df, h.N⟩
      have hxt : Ext ρ W ρ W1 := ⟨.rfl', fun _ h => .inl h, by omega, g4⟩
      cases v with
      | true => exact wpIn_cond_true g1 (wpIn_mono (ih _ s s' W1 W' e ρ a w hro hk.1 (fun b c' hb => hlo b c' (.condL hb)) hE h2) fun _ _ _ q => tr (s1 := s) hxt q)
      | false => exact wpIn_cond_false g1 (wpIn_mono (ih _ s s' W1 W' e ρ a w hro hk.2 (fun b c' hb => hlo b c' (.condR hb)) hE h2) fun _ _ _ q => tr (s1 := s) hxt q)
    | block id b =>
      simp only [codeOk] at hk
      simp only [evC] at he
      obtain ⟨⟨e1, s1⟩, W1, h1, h2⟩ := bind_some he
      refine wpIn_block (wpIn_mono (ih b s s1 W W1 e1 ρ a w hro hk (fun b' c' hb => hlo b' c' (.block hb)) h h1) ?_)
      rintro ex a' w' ⟨k1, ρ2, k2, k3⟩
      cases e1 with
      | normal =>
        simp only [Option.some.injEq, Prod.mk.injEq] at h2
        obtain ⟨⟨rfl, rfl⟩, rfl⟩ := h2
        cases ex <;> first | exact absurd k1 _root_.id | exact ⟨k1, ρ2, k2, k3⟩
      | exit i =>
        simp only at h2
        cases ex <;> try exact absurd k1 _root_.id
        rename_i j
        have hij : i = j := k1
        subst hij
        by_cases hid : i = id
        · rw [if_pos hid] at h2
          simp only [Option.some.injEq, Prod.mk.injEq] at h2
          obtain ⟨⟨rfl, rfl⟩, rfl⟩ := h2
          simp only [Exit.inBlock, if_pos hid]
          exact ⟨trivial, ρ2, k2, k3⟩
        · rw [if_neg hid] at h2
          simp only [Option.some.injEq, Prod.mk.injEq] at h2
          obtain ⟨⟨rfl, rfl⟩, rfl⟩ := h2
          simp only [Exit.inBlock, if_neg hid]
          exact ⟨rfl, ρ2, k2, k3⟩
      | ret =>
        simp only [Option.some.injEq, Prod.mk.injEq] at h2
        obtain ⟨⟨rfl, rfl⟩, rfl⟩ := h2
        cases ex <;> first | exact absurd k1 _root_.id | exact ⟨k1, ρ2, k2, k3⟩
    | loop b =>
      have hkb : codeOk b = true := hk
      cases hlc : lpOf lp b with
      | some c' =>
        obtain ⟨sl0, ms0⟩ := s
        simp only [evC, hlc] at he
        cases ms0 with
        | cons _ _ => cases he
        | nil =>
        simp only at he
        obtain ⟨⟨e1, sl1⟩, W1, h1, h2⟩ := bind_some he
        simp only [Option.some.injEq, Prod.mk.injEq] at h2
        obtain ⟨⟨rfl, rfl⟩, rfl⟩ := h2
        have hfr : fr = none := by
          rcases hro0 with h0 | h0
          · subst h0; exact hro
          · subst h0
            unfold lpOf at hlc
            split at hlc <;> cases hlc
        subst hfr
        exact hlo b c' .refl hlc rm ρ sl0 _ W _ a w _ h h1
      | none =>
      refine wpIn_loop_ghost (fun m a' w' => m ≤ n + 1 ∧ ∃ ρ1 s1 W1, Ext ρ W ρ1 W1 ∧ ER w0 N ρ1 s1 W1 a' w' ∧ evC P (opT P sy) call rnd cl ro lp N m (.loop b) s1 W1 = some ((e, s'), W')) (n + 1) ⟨Nat.le_refl _, ρ, s, W, .refl _ _, h, he⟩ ?_
      rintro m a1 w1 ⟨hm, ρ1, s1, W1, x1, x2, x3⟩
      cases m with
      | zero => cases x3
      | succ m =>
        simp only [evC, hlc] at x3
        obtain ⟨⟨e1, s2⟩, W2, y1, y2⟩ := bind_some x3
        refine wpIn_mono (ihs m (by omega) b s1 s2 W1 W2 e1 ρ1 a1 w1 (hro.le x1.le) hkb (fun b' c' hb => hlo b' c' (.loop hb)) x2 y1) ?_
        rintro ex a' w' ⟨k1, ρ2, k2, k3⟩
        cases e1 with
        | normal =>
          cases ex <;> try exact absurd k1 _root_.id
          exact ⟨m, by omega, by omega, ρ2, s2, W2, x1.trans k2, k3, y2⟩
        | exit i =>
          simp only [Option.some.injEq, Prod.mk.injEq] at y2
          obtain ⟨⟨rfl, rfl⟩, rfl⟩ := y2
          cases ex <;> first | exact absurd k1 _root_.id | exact ⟨k1, ρ2, x1.trans k2, k3⟩
        | ret =>
          simp only [Option.some.injEq, Prod.mk.injEq] at y2
          obtain ⟨⟨rfl, rfl⟩, rfl⟩ := y2
          cases ex <;> first | exact absurd k1 _root_.id | exact ⟨k1, ρ2, x1.trans k2, k3⟩
    | region id ops dr =>
      cases dr with
      | true =>
        simp only [codeOk] at hk
        simp only [evC] at he
        split at he
        · rename_i hb
          obtain ⟨⟨s1, ls⟩, W1, h1, h2⟩ := bind_some he
          simp only at h2
          split at h2
          · rename_i hm
            simp only [Option.some.injEq, Prod.mk.injEq] at h2
            obtain ⟨⟨rfl, rfl⟩, rfl⟩ := h2
            exact evD_sound hp hc hrn hcl hk h (Nat.le_of_ble_eq_true hb) h1 hm id
          · cases h2
        · cases he
      | false =>
        simp only [evC] at he
        obtain ⟨s1, W1, h1, h2⟩ := bind_some he
        simp only [Option.some.injEq, Prod.mk.injEq] at h2
        obtain ⟨⟨rfl, rfl⟩, rfl⟩ := h2
        refine wpIn_region ?_
        rw [List.range_eq_range']
        have := evL_sound (fr := fr) (rm := rm) hp.size hc hrn (ops := ops) (ms := s.2) (Q := EQ w0 N ρ W .normal (s1, s.2) W1) ops.toList 0 ρ s.1 W a w (fun a' w' ρ2 y1 y2 => ⟨trivial, ρ2, y1, y2⟩) (fun i hi => by simp) h h1
        simpa using this
    | rangeFunc g ps as bd =>
      simp only [codeOk, Bool.and_eq_true] at hk
      simp only [evC] at he
      split at he
      · rename_i gf xs ys hg
        split at he
        · rename_i hcg
          rw [Bool.and_eq_true] at hcg
          obtain ⟨⟨l, mk⟩, W1, h1, h2⟩ := bind_some he
          simp only at h2
          split at h2
          · rename_i mks hmk
            obtain ⟨v, W2, h3, h4⟩ := bind_some h2
            obtain ⟨j, W3, h5, h6⟩ := bind_some h4
            have hgv : VR ρ (.func (.func gf) xs ys) (a.eval g) := by
              rw [← hg]
              exact ev_VR (fun t _ => h.sl.at' t) hcg.2
            refine wpIn_rangeFunc fun fn _ => ?_
            obtain ⟨ρ1, p, w1, g1, g2, g3, g4, ⟨d1, d2, ms, d3, d4⟩, g5, g6⟩ := sim_enterLoop (P := P) (w0 := w0) hro 0 fn (arrL_AR h.sl h.N) ps hk.1 hk.2 ρ W w (l, mk) W1 .rfl' h.W h1
            obtain ⟨l', mk'⟩ := p
            simp only at d1 d2 d3 d4
            subst d2
            have hms : ms = mks := by
              rw [hmk] at d3
              exact (Option.some.inj d3).symm
            subst hms
            have hgv1 := hgv.le g1
            generalize hge : a.eval g = gv at hgv1
            cases hgv1 with
            | func _ hf q1 q2 q3 q4 =>
              rename_i xs' ys'
              refine ⟨ρ1.b l, mk', w1, { target := .fn (.func gf) ys', args := xs' ++ #[.func (.yield (ρ1.b l)) #[] #[]] }, w1, gf, (xs' ++ #[.func (.yield (ρ1.b l)) #[] #[]]) ++ ys', w1, g4, ?_, fun _ _ => trivial, ?_, fun h => (by cases h), ?_⟩
              · unfold resolve
                have he1 : Array.map a.eval #[Operand.const (Value.func (.yield (ρ1.b l)) #[] #[])] = #[Value.func (.yield (ρ1.b l)) #[] #[]] := by simp [Act.eval]
                simp only [hge, he1]
                rfl
              · show (callFunc gf _).run P w1 = _
                have hcl2 := hcb gf hcg.1
                unfold callable at hcl2
                unfold callFunc
                show (Sem.bind _ _).run P w1 = _
                simp only [Go.program, Sem.bind, Sem.run]
                cases hfn : P.funcs[gf]? with
                | none => rw [hfn] at hcl2; cases hcl2
                | some fnn =>
                  rw [hfn] at hcl2
                  simp only [Bool.and_eq_true, Bool.not_eq_true'] at hcl2
                  simp only
                  rw [if_neg (by rw [hcl2.2]; exact Bool.false_ne_true), if_neg (by
                    have := hcl2.1
                    cases hb : fnn.body <;> simp_all)]
                  rfl
              · have hAR : AR ρ1 ⟨xs.toList ++ (.func (.yield l) #[] #[] :: ys.toList)⟩ ((xs' ++ #[.func (.yield (ρ1.b l)) #[] #[]]) ++ ys') := by
                  have e1 : (⟨xs.toList ++ (.func (.yield l) #[] #[] :: ys.toList)⟩ : Array Value) = (xs ++ #[.func (.yield l) #[] #[]]) ++ ys := by
                    apply Array.ext'
                    simp
                  rw [e1]
                  refine AR.append (AR.append ⟨q1, q3⟩ ⟨rfl, fun i hi => ?_⟩) ⟨q2, q4⟩
                  have hi' : i < 1 := hi
                  have hi0 : i = 0 := by omega
                  subst hi0
                  exact .yld l d1
                have h0 := (callsIn_wide (n := rm - 1)).2 (hc ρ1 W1 w1 gf _ _ v W2 g3 hAR h3)
                have h1' : CallsIn (FF fr) (rm - 1) P gf _ w1 _ := h0
                refine CallsIn.mono h1' ?_
                rintro ex w2 ⟨ρ2, y, rfl, z1, z2, z3⟩
                obtain ⟨ρ3, j', w3, t1, t2, t3, t4, rfl, t5, t6⟩ := sim_endLoop (P := P) (w0 := w0) (z1.le.dom _ d1) ρ2 W2 w2 j W3 .rfl' z2 h5
                rw [z1.le.b _ d1] at t4
                have hx : Ext ρ W ρ3 W3 := (⟨g1, g2, g5, g6⟩ : Ext ρ W ρ1 W1).trans (z1.trans ⟨t1, t2, t5, t6⟩)
                have hE : ER w0 N ρ3 (s.1, ms ++ s.2) W3 { a with defers := mk' ++ a.defers } w3 := by
                  refine ⟨t3, ⟨fun t => (h.sl.at' t).le hx.le⟩, ?_, h.N⟩
                  have m1 := (d4.le z1.le).le t1
                  have m2 := h.df.le hx.le
                  refine ⟨?_, fun D hD => ?_⟩
                  · show mk' ++ a.defers = _
                    rw [List.map_append, ← m1.eq, ← m2.eq]
                  · rcases List.mem_append.1 hD with hD | hD
                    · exact m1.dom D hD
                    · exact m2.dom D hD
                refine ⟨j, w3, t4, ?_⟩
                cases j with
                | none =>
                  simp only [Option.some.injEq, Prod.mk.injEq] at h6
                  obtain ⟨⟨rfl, rfl⟩, rfl⟩ := h6
                  exact ⟨trivial, ρ3, hx, hE⟩
                | some cc =>
                  cases cc with
                  | exit id =>
                    simp only [Option.some.injEq, Prod.mk.injEq] at h6
                    obtain ⟨⟨rfl, rfl⟩, rfl⟩ := h6
                    exact wpIn_exit ⟨rfl, ρ3, hx, hE⟩
                  | ret =>
                    simp only [Option.some.injEq, Prod.mk.injEq] at h6
                    obtain ⟨⟨rfl, rfl⟩, rfl⟩ := h6
                    exact wpIn_ret ⟨trivial, ρ3, hx, hE⟩
                  | _ => cases h6
          · cases h2
        · cases he
      · cases he
    | _ => simp only [evC] at he; cases he
end
end Mo

namespace Mo
open Go

/-! ## Functions are sound -/
theorem get_putL : ∀ (l : List Value) (k : Nat) (t : Tr Value), k + l.length ≤ 2 ^ 30 → ∀ i, (putL l k t).get i = if k ≤ i ∧ i < k + l.length then l[i - k]? else t.get i
  | [], k, t, _, i => by
    have : ¬ (k ≤ i ∧ i < k + ([] : List Value).length) := by simp only [List.length_nil]; omega
    rw [if_neg this]; rfl
  | v :: r, k, t, h, i => by
    simp only [List.length_cons] at h
    unfold putL
    rw [fT_eq, get_putL r (k + 1) _ (by omega), Tr.get_put _ 30 _ _ (by omega)]
    by_cases h1 : k + 1 ≤ i ∧ i < k + 1 + r.length
    · rw [if_pos h1, if_pos (by simp only [List.length_cons]; omega)]
      rw [show i - k = (i - (k + 1)) + 1 by omega, List.getElem?_cons_succ]
    · rw [if_neg h1]
      by_cases h2 : i = k
      · subst h2
        rw [if_pos rfl, if_pos (by simp only [List.length_cons]; omega)]
        simp
      · rw [if_neg h2, if_neg (by simp only [List.length_cons]; omega)]
section
variable {P : Program} {sy : SyT} {w0 : Bs} {ρ : Ren}
theorem sim_asAddr {x y : Value} (h : VR ρ x y) : SimAt P w0 AdR ρ (asAddr x) (asAddr y) := by
  cases h with
  | ptr a h => exact SimAt.pureP h
  | ptr0 => exact SimAt.fail fun W => runtimePanic_none (e := .nilDeref) W
  | _ => exact SimAt.stuck
noncomputable def LV (ρ : Ren) (xs ys : List Value) : Prop := AR ρ xs.toArray ys.toArray
theorem LV.cons {x y : Value} {xs ys : List Value} (h : VR ρ x y) (t : LV ρ xs ys) : LV ρ (x :: xs) (y :: ys) := by
  have hs : xs.length = ys.length := by have := t.size; simpa using this
  refine ⟨by simp [hs], fun i hi => ?_⟩
  cases i with
  | zero => simpa [Array.getD] using h
  | succ i =>
    have hi' : i < xs.length := by simpa using hi
    have := t.at' i (by simpa using hi')
    have hj : i < ys.length := by omega
    simpa [Array.getD, hi', hj] using this
theorem sim_mapMV {A : Type} {f g : A → Sem Value} (h : ∀ ρ' x, ρ.le ρ' → SimAt P w0 VR ρ' (f x) (g x)) : ∀ (l : List A), SimAt P w0 LV ρ (l.mapM f) (l.mapM g) := by
  intro l
  induction l generalizing ρ with
  | nil =>
    simp only [List.mapM_nil]
    exact SimAt.pure fun _ _ => ⟨rfl, fun i hi => absurd hi (by simp)⟩
  | cons x l ih =>
    simp only [List.mapM_cons]
    exact SimAt.bindV (h ρ x .rfl') fun ρ1 y y' hl hy => SimAt.bind (ih fun ρ2 z hl2 => h ρ2 z (hl.trans hl2)) fun ρ2 ys ys' hl2 hys => SimAt.pure fun ρ3 hl3 => LV.cons ((hy.le hl2).le hl3) (AR.le hl3 hys)
theorem sim_results (fn : Func) {sl : Nat → Value} {a : Act} (h : SR ρ sl a) : SimAt P w0 VR ρ (resT fn sl) (results fn a.tmps) := by
  unfold resT results
  refine SimAt.bindA ?_ fun ρ1 xs ys hl hx => ?_
  · rw [Array.mapM_eq_mapM_toList, Array.mapM_eq_mapM_toList, map_eq_pure_bind, map_eq_pure_bind]
    refine SimAt.bind (R := LV) (sim_mapMV (fun ρ' x hl => ?_) _) fun ρ' xs ys hl hx => SimAt.pureA hx
    cases x with
    | tmp t => exact SimAt.pureV ((h.at' t).le hl)
    | cell b t => exact SimAt.bindP (sim_asAddr ((h.at' b).le hl)) fun _ _ _ hd => sim_loadVar t hd
  · refine SimAt.pureV ?_
    have hs := hx.size
    by_cases h1 : xs.size = 1
    · rw [dif_pos h1, dif_pos (by omega)]
      have := hx.at' 0 (by omega)
      simpa [Array.getD, h1, hs ▸ h1] using this
    · rw [dif_neg h1, dif_neg (by omega)]
      exact .tuple hx.size hx.at'

/-- A term that leaves the world as it is. -/
noncomputable def RO (P : Program) {α : Type} (s : Sem α) : Prop := ∀ w b w', s.run P w = .ok b w' → w' = w
theorem RO.bind {α β : Type} {s : Sem α} {f : α → Sem β} (h : RO P s) (hf : ∀ a, RO P (f a)) : RO P (s >>= f) := by
  intro w b w' hr
  have e : (s.bind f).run P w = .ok b w' := hr
  rw [run_bind] at e
  cases hs : s.run P w with
  | ok a w1 =>
    rw [hs] at e
    have := h w a w1 hs
    subst this
    exact hf a _ _ _ e
  | halt x y => rw [hs] at e; cases e
theorem RO.pure {α : Type} (a : α) : RO P (Pure.pure a : Sem α) := by
  intro w b w' hr
  simp only [Pure.pure, Sem.run, Result.ok.injEq] at hr
  exact hr.2.symm
theorem RO.halt {α : Type} (e : Halt) : RO P (.halt e : Sem α) := by
  intro w b w' hr
  simp [Sem.run] at hr
theorem RO.prog {α : Type} {f : Program → Sem α} (h : RO P (f P)) : RO P (Go.program >>= f) := fun w b w' hr => h w b w' hr
theorem RO.load (a : Addr) : RO P (Go.load a) := by
  intro w b w' hr
  simp only [Go.load, Sem.run] at hr
  split at hr
  · simp only [Result.ok.injEq] at hr; exact hr.2.symm
  · split at hr
    · simp only [Result.ok.injEq] at hr; exact hr.2.symm
    · cases hr
theorem RO.cells (a : Addr) : ∀ (n i : Nat) (xs : Array Value), RO P (loadCellsFrom a i n xs)
  | 0, _, _ => RO.pure _
  | n + 1, i, xs => RO.bind (RO.load _) fun v => RO.cells a n (i + 1) _
theorem RO.typeInfo (t : TypeId) : RO P (Go.typeInfo t) := RO.prog (by cases P.info? t <;> first | exact RO.pure _ | exact RO.halt _)
theorem RO.underlying (t : TypeId) : RO P (Go.underlying t) := RO.prog (by cases P.underlying t <;> first | exact RO.pure _ | exact RO.halt _)
theorem RO.loadVar (t : TypeId) (a : Addr) : RO P (Go.loadVar t a) := by
  refine RO.bind (RO.bind (RO.underlying t) fun d => by cases d <;> exact RO.pure _) fun b => ?_
  cases b with
  | false => exact RO.load _
  | true => exact RO.bind (RO.bind (RO.typeInfo t) fun _ => RO.pure _) fun n => RO.bind (RO.cells a n 0 _) fun _ => RO.pure _
theorem RO.mapM {A B : Type} {f : A → Sem B} (h : ∀ x, RO P (f x)) : ∀ l : List A, RO P (l.mapM f) := by
  intro l
  induction l with
  | nil => simp only [List.mapM_nil]; exact RO.pure _
  | cons x l ih => simp only [List.mapM_cons]; exact RO.bind (h x) fun _ => RO.bind ih fun _ => RO.pure _
theorem RO.asAddr (v : Value) : RO P (Go.asAddr v) := by
  cases v with
  | pointer a =>
    cases a with
    | some a => exact RO.pure _
    | none => exact RO.prog (RO.halt _)
  | _ => exact RO.halt _
theorem RO.results (fn : Func) (tmps : Array Value) : RO P (Go.results fn tmps) := by
  unfold Go.results
  refine RO.bind ?_ fun vs => RO.pure _
  rw [Array.mapM_eq_mapM_toList, map_eq_pure_bind]
  refine RO.bind (RO.mapM (fun x => ?_) _) fun _ => RO.pure _
  cases x with
  | tmp t => exact RO.pure _
  | cell b t => exact RO.bind (RO.asAddr _) fun a => RO.loadVar t a

theorem putL_ER {ρ : Ren} {W : Tw} {w : World} (hW : WR w0 ρ W w) {args args' : Array Value} (hA : AR ρ args args') {N : Nat} (h1 : args.size ≤ N) (h2 : N < 1073741824) :
    ER w0 N ρ (putL args.toList 0 .lf, []) W { tmps := args' ++ Array.replicate (N - args'.size) undef, defers := [] } w := by
  refine ⟨hW, ⟨fun t => ?_⟩, ⟨rfl, fun D hD => by cases hD⟩, ?_⟩
  · simp only [getS]
    rw [get_putL _ _ _ (by simp; omega), Array.getD_eq_getD_getElem?]
    by_cases ht : t < args.size
    · have ht' : t < args'.size := by rw [← hA.size]; exact ht
      have := hA.at' t ht
      rw [Array.getElem?_append_left ht', if_pos (by simp; exact ht)]
      simpa [Array.getD, ht, ht'] using this
    · rw [if_neg (by simp; omega)]
      have : (args' ++ Array.replicate (N - args'.size) undef)[t]?.getD undef = undef := by
        rw [Array.getElem?_append_right (by rw [← hA.size]; omega), Array.getElem?_replicate]
        split <;> rfl
      rw [this, Tr.get_lf]
      exact VR_undef
  · have := hA.size
    simp; omega
theorem evR0_sound (hp : POk P w0 sy) {call : CallT} {rnd : RndT} (hc : CallS P w0 call) (hrn : RndS P w0 rnd) (hcl : CallL call rnd) {cl : FuncId → Bool} (hcb : ∀ f, cl f = true → callable P f = true) (L : Nat) : RndS P w0 (evR0 P (opT P sy) call rnd cl L) := by
  intro ρ W w l fn ts ts' as bd r W' n hW hd hT ha hb h
  unfold evR0 at h
  split at h
  · rename_i hsz
    rw [Nat.blt_eq] at hsz
    obtain ⟨⟨e1, s1⟩, W1, h1, h2⟩ := bind_some h
    have hE : ER w0 ts.size ρ (putL ts.toList 0 .lf, []) W { tmps := ts', defers := [] } w := by
      have := putL_ER hW hT (N := ts.size) (Nat.le_refl _) hsz
      rw [hT.size, Nat.sub_self] at this
      simpa [hT.size] using this
    refine roundIn_of_wpIn trivial ?_
    refine wpIn_mono (evC_sound (fr := some (ρ.b l)) (rm := n) hp hc hrn hcl hcb (ro := some l) (lp := fun _ => none) (.inr rfl) L as _ _ W W1 e1 ρ _ w ⟨hd, rfl⟩ ha (fun b c' _ hl => (by unfold lpOf at hl; split at hl <;> cases hl)) hE h1) ?_
    rintro ex a' w' ⟨k1, ρ2, k2, k3⟩
    simp only at h2
    split at h2
    · rename_i s2 heq
      cases heq
      cases ex <;> try exact absurd k1 id
      obtain ⟨u, W2, h3, h4⟩ := bind_some h2
      obtain ⟨⟨e2, s3⟩, W3, h5, h6⟩ := bind_some h4
      obtain ⟨ρ3, u', w2, g1, g2, g3, g4, g5, g6, g7⟩ := sim_beginRound (P := P) (w0 := w0) (k2.le.dom _ hd) ρ2 W1 w' u W2 .rfl' k3.W h3
      rw [k2.le.b _ hd] at g4
      refine ⟨w2, g4, ?_⟩
      have x3 : Ext ρ W ρ3 W2 := k2.trans ⟨g1, g2, g6, g7⟩
      have hE2 : ER w0 ts.size ρ3 (s2, []) W2 a' w2 := ⟨g3, ⟨fun t => (k3.sl.at' t).le g1⟩, k3.df.le g1, k3.N⟩
      refine wpIn_mono (evC_sound (fr := some (ρ.b l)) (rm := n) hp hc hrn hcl hcb (ro := some l) (lp := fun _ => none) (.inr rfl) L bd _ _ W2 W3 e2 ρ3 _ w2 ⟨x3.le.dom _ hd, by rw [x3.le.b _ hd]⟩ hb (fun b c' _ hl => (by unfold lpOf at hl; split at hl <;> cases hl)) hE2 h5) ?_
      rintro ex2 a2 w3 ⟨m1, ρ4, m2, m3⟩
      simp only at h6
      split at h6
      · rename_i s4 heq
        cases heq
        have x4 : Ext ρ W ρ4 W3 := x3.trans m2
        have fin : ∀ j : Option Code, runT P (Instr.endRound l j) W3 = some (r, W') → ∃ v w4, (Instr.endRound (ρ.b l) j).run P w3 = .ok v w4 ∧ ∃ ρ2 y, Ending.returned v = .returned y ∧ Ext ρ W ρ2 W' ∧ WR w0 ρ2 W' w4 ∧ VR ρ2 r y := by
          intro j hj
          obtain ⟨ρ5, y, w4, t1, t2, t3, t4, t5, t6, t7⟩ := sim_endRound (P := P) (w0 := w0) (x4.le.dom _ hd) j ρ4 W3 w3 r W' .rfl' m3.W hj
          rw [x4.le.b _ hd] at t4
          exact ⟨y, w4, t4, ρ5, y, rfl, x4.trans ⟨t1, t2, t6, t7⟩, t3, t5⟩
        cases e2 with
        | normal =>
          cases ex2 <;> try exact absurd m1 id
          exact fin none h6
        | ret =>
          cases ex2 <;> try exact absurd m1 id
          exact fin (some .ret) h6
        | exit i =>
          cases ex2 <;> try exact absurd m1 id
          cases m1
          exact fin (some (.exit _)) h6
      · cases h6
    · cases h2
  · cases h
theorem WR.logs {W : Tw} {w : World} (h : WR w0 ρ W w) (rd : Lg) : WR w0 ρ { W with rd := rd } w :=
  ⟨h.row, h.dom, h.mine, h.sep, h.prw, h.prd, h.prn, h.free, h.lim, h.small, h.os, h.tape, h.output, h.size, h.old, h.r0⟩
theorem evR_sound (hp : POk P w0 sy) {call : CallT} {rnd : RndT} (hc : CallS P w0 call) (hrn : RndS P w0 rnd) (hcl : CallL call rnd) {cl : FuncId → Bool} (hcb : ∀ f, cl f = true → callable P f = true) (L : Nat) : RndS P w0 (evR P (opT P sy) call rnd cl L) := by
  intro ρ W w l fn ts ts' as bd r W' n hW hd hT ha hb h
  have h' : tidyT (evR0 P (opT P sy) call rnd cl L l ts as bd) W = some (r, W') := h
  rw [tidyT_eq] at h'
  obtain ⟨⟨a, W1⟩, h1, h2⟩ := Option.map_eq_some_iff.1 h'
  cases h2
  refine RoundIn.mono (evR0_sound hp hc hrn hcl hcb L ρ _ w l fn ts ts' as bd _ W1 n (hW.logs []) hd hT ha hb h1) ?_
  rintro e w' ⟨ρ2, y, g1, g2, g3, g4⟩
  exact ⟨ρ2, y, g1, ⟨g2.le, g2.dom, g2.nx, g2.lim⟩, g3.logs _, g4⟩
theorem takeA_sound {fn : Func} {tmps : Array Value} {R : Ending → World → Prop} {n : Nat} : ∀ (ms : List Nat) (ρ : Ren) (ds : List Deferred) (W W' : Tw) (w : World) (u : Unit), MkR ρ ms ds → WR w0 ρ W w → takeA P ms W = some (u, W') →
    (∀ (ρ2 : Ren) (w2 : World), Ext ρ W ρ2 W' → WR w0 ρ2 W' w2 → ∃ v, (results fn tmps).run P w2 = .ok v w2 ∧ R (.returned v) w2) → LeavesInM Fence.wide n P fn tmps R ds .returning w
  | [], ρ, ds, W, W', w, u, hm, hW, h, hf => by
    have e : ds = [] := hm.eq
    subst e
    cases h
    exact hf ρ w (Ext.refl _ _) hW
  | d :: r, ρ, ds, W, W', w, u, hm, hW, h, hf => by
    have e := hm.eq
    simp only [List.map_cons] at e
    subst e
    unfold takeA at h
    obtain ⟨l, W1, h1, h2⟩ := bind_some h
    have hd : ρ.dom d := hm.dom d (by simp)
    obtain ⟨ρ1, l', w1, g1, g2, g3, g4, g5, g6, g7⟩ := sim_takeDeferred (P := P) (w0 := w0) hd ρ W w l W1 .rfl' hW h1
    simp only at h2
    split at h2
    · have e2 := g5 rfl
      subst e2
      refine ⟨by simp, .inl ⟨ρ.b d, w1, rfl, g4, ?_⟩⟩
      refine takeA_sound r ρ1 _ W1 W' w1 u ⟨?_, fun D hD => g1.dom _ (hm.dom D (by simp [hD]))⟩ g3 h2 fun ρ2 w2 x1 x2 => hf ρ2 w2 ((⟨g1, g2, g6, g7⟩ : Ext ρ W ρ1 W1).trans x1) x2
      exact List.map_congr_left fun D hD => by rw [g1.b _ (hm.dom D (by simp [hD]))]
    · cases h2
theorem callB_sound (hp : POk P w0 sy) {call : CallT} {rnd : RndT} (hc : CallS P w0 call) (hrn : RndS P w0 rnd) (hcl : CallL call rnd) (L : Nat) : CallS P w0 (callB P sy L call rnd) := by
  intro ρ W w f args args' r W' hW hA h
  unfold callB at h
  split at h
  · rename_i fn hf
    split at h
    · rename_i c hb
      split at h
      · rename_i hsz
        simp only [Bool.and_eq_true, Nat.ble_eq, Nat.blt_eq] at hsz
        refine (callsIn_wide (n := 0)).1 (callsIn_of_wp_marks hf hb trivial ?_)
        have hE := putL_ER hW hA hsz.1 hsz.2
        obtain ⟨⟨e1, s1⟩, W1, h1, h2⟩ := bind_some h
        have fin : ∀ {ρ2 : Ren} {s : St} {W1 : Tw} {a : Act} {w2 : World}, Ext ρ W ρ2 W1 → ER w0 fn.ntmps ρ2 s W1 a w2 → ((takeA P s.2 W1).bind fun q => runT P (resT fn (getS s.1)) q.2) = some (r, W') →
            LeavesInM Fence.wide 0 P fn a.tmps (fun e w' => ∃ ρ2 y, e = .returned y ∧ Ext ρ W ρ2 W' ∧ WR w0 ρ2 W' w' ∧ VR ρ2 r y) a.defers .returning w2 := by
          intro ρ2 s W1 a w2 hx hE hr
          obtain ⟨u, W2, h3, h4⟩ := bind_some hr
          refine takeA_sound s.2 ρ2 a.defers W1 W2 w2 u hE.df hE.W h3 fun ρ3 w3 x1 x2 => ?_
          obtain ⟨ρ4, y, w4, g1, g2, g3, g4, g5, g6, g7⟩ := sim_results (P := P) (w0 := w0) fn (sl := getS s.1) (a := a) ⟨fun t => (hE.sl.at' t).le x1.le⟩ ρ3 W2 w3 r W' .rfl' x2 h4
          have : w4 = w3 := RO.results fn a.tmps _ _ _ g4
          subst this
          exact ⟨y, g4, ρ4, y, rfl, (hx.trans x1).trans ⟨g1, g2, g6, g7⟩, g3, g5⟩
        have hS := evC_sound (fr := none) (rm := 0) hp hc hrn hcl (cl := callable P) (fun _ h => h) (ro := none) (lp := sy.lp f) (.inl rfl) L c _ s1 W W1 e1 ρ _ w rfl (hp.code f fn c hf hb) (fun b c' hsub hl => (by
          unfold lpOf at hl
          split at hl
          · rename_i n hn; exact hp.zero.lp f fn c b n c' hf hb hsub hn hl
          · cases hl)) hE h1
        refine wpIn_mono hS ?_
        rintro ex a' w' ⟨k1, ρ2, k2, k3⟩
        cases e1 with
        | normal =>
          cases ex <;> try exact absurd k1 id
          exact fin k2 k3 h2
        | ret =>
          cases ex <;> try exact absurd k1 id
          exact fin k2 k3 h2
        | exit i => cases h2
      · cases h
    · cases h
  · cases h
theorem knT_sound (hs : SOk P w0 sy) {call : CallT} (hc : CallS P w0 call) : CallS P w0 (knT sy.kn call) := by
  intro ρ W w f args args' r W' hW hA h
  unfold knT at h
  split at h
  · rename_i c hk
    exact hs.kn f c hk ρ W w args args' r W' hW hA h
  · exact hc ρ W w f _ _ r W' hW hA h
theorem evFR_sound (hp : POk P w0 sy) (L : Nat) : ∀ n, CallS P w0 (evFR P sy L n).1 ∧ RndS P w0 (evFR P sy L n).2 := by
  intro n
  induction n with
  | zero =>
    refine ⟨?_, ?_⟩
    · intro ρ W w f args args' r W' _ _ h; cases h
    · intro ρ W w l fn ts ts' as bd r W' n _ _ _ _ _ h; cases h
  | succ n ih => exact ⟨knT_sound hp.zero (callB_sound hp ih.1 ih.2 (Local.evFR hp.zero.lo L n) L), evR_sound hp ih.1 ih.2 (Local.evFR hp.zero.lo L n) (fun _ h => h) L⟩
theorem evF_sound (hp : POk P w0 sy) (L n : Nat) : CallS P w0 (evF P sy L n) := (evFR_sound hp L n).1
end
end Mo

namespace Mo
open Go

/-! ## Quick roads: tables of types and functions -/
inductive TK where
  | st (fs : List (Nat × Nat × Bool))
  | ar (n e : Nat)
  | sl (e : Nat)
  | str
  | int (k : IntKind)
  | other
structure TI where
  sz : Nat
  ag : Bool
  kd : TK
  z : Value
noncomputable def agD : TypeDesc → Bool
  | .struct _ | .array _ _ => true
  | _ => false
noncomputable def fieldsI (P : Program) : List Field → Option (List (Nat × Nat × Bool))
  | [] => some []
  | f :: r => match P.info? f.type, P.underlying f.type, fieldsI P r with
    | some i, some d, some l => some ((f.offset, i.size, agD d) :: l)
    | _, _, _ => none
noncomputable def kdI (P : Program) : TypeDesc → TK
  | .struct fs => match fieldsI P fs.toList with
    | some l => .st l
    | none => .other
  | .array n e => match P.info? e with
    | some i => .ar n i.size
    | none => .other
  | .slice e => match P.info? e with
    | some i => .sl i.size
    | none => .other
  | .string => .str
  | .int k => .int k
  | _ => .other
noncomputable def mkTI (P : Program) (t : TypeId) : Option TI := match P.info? t, P.underlying t with
  | some i, some d => match i.zero with
    | some z => if zeroOk P t then some ⟨i.size, agD d, kdI P d, z⟩ else none
    | none => none
  | _, _ => none
noncomputable def okF (fn : Func) : Bool := fn.body.isSome && !(fn.name == "runtime.NumGoroutine")
/-- Slices that grow: the element's type, cells and bytes. -/
noncomputable def mkAp (P : Program) (t : TypeId) : Option (TypeId × Nat × Nat) := match appInfo P #[t, t] with
  | some (e, i) => some (e, i.size, i.bytes)
  | none => none
structure Tb where
  ty : Tr TI
  fn : Tr Func
  ap : Tr (TypeId × Nat × Nat)
structure TbOk (P : Program) (tb : Tb) : Prop where
  ap : ∀ t x, tb.ap.get t = some x → mkAp P t = some x
  ty : ∀ t ti, tb.ty.get t = some ti → mkTI P t = some ti
  fn : ∀ f fn, tb.fn.get f = some fn → P.funcs[f]? = some fn ∧ okF fn = true

theorem mkTI_some {P : Program} {t : TypeId} {ti : TI} (h : mkTI P t = some ti) : ∃ i d, P.info? t = some i ∧ P.underlying t = some d ∧ i.zero = some ti.z ∧ i.size = ti.sz ∧ agD d = ti.ag ∧ kdI P d = ti.kd ∧ zeroOk P t = true := by
  unfold mkTI at h
  split at h
  · rename_i i d h1 h2
    split at h
    · rename_i z h3
      split at h
      · rename_i h4
        cases h
        exact ⟨i, d, h1, h2, h3, rfl, rfl, rfl, h4⟩
      · cases h
    · cases h
  · cases h

section
variable {P : Program} {α β : Type}
theorem rt_bind (s : Sem α) (f : α → Sem β) (W : Tw) : runT P (s >>= f) W = (runT P s W).bind fun p => runT P (f p.1) p.2 := runT_bind s f W
theorem rt_pure (a : α) (W : Tw) : runT P (Pure.pure a : Sem α) W = some (a, W) := rfl
theorem rt_program (W : Tw) : runT P Go.program W = some (P, W) := rfl
theorem rt_typeInfo {t : TypeId} {i : TypeInfo} (h : P.info? t = some i) (W : Tw) : runT P (Go.typeInfo t) W = some (i, W) := by
  unfold Go.typeInfo
  rw [rt_bind, rt_program, Option.bind_some]
  simp only [h]
  rfl
theorem rt_underlying {t : TypeId} {d : TypeDesc} (h : P.underlying t = some d) (W : Tw) : runT P (Go.underlying t) W = some (d, W) := by
  unfold Go.underlying
  rw [rt_bind, rt_program, Option.bind_some]
  simp only [h]
  rfl
theorem rt_sizeOf {t : TypeId} {i : TypeInfo} (h : P.info? t = some i) (W : Tw) : runT P (Go.sizeOf t) W = some (i.size, W) := by
  unfold Go.sizeOf
  rw [rt_bind, rt_typeInfo h]
  rfl
theorem rt_zero {t : TypeId} {i : TypeInfo} {z : Value} (h : P.info? t = some i) (hz : i.zero = some z) (W : Tw) : runT P (Go.zeroValue t) W = some (z, W) := by
  unfold Go.zeroValue
  rw [rt_bind, rt_typeInfo h, Option.bind_some]
  simp only [hz]
  rfl
theorem rt_isAgg {t : TypeId} {d : TypeDesc} (h : P.underlying t = some d) (W : Tw) : runT P (Go.isAgg t) W = some (agD d, W) := by
  unfold Go.isAgg
  rw [rt_bind, rt_underlying h, Option.bind_some]
  cases d <;> rfl
theorem rt_sureAddr (a : Addr) (W : Tw) : runT P (Instr.sureAddr (.pointer (some a))) W = some (a, W) := rfl

/-! ### Many cells at once -/
theorem Lg.add_add (l : Lg) {n : Nat} (hn : n < 2 ^ 63) : (l.add n).add n = l.add n := by
  have e : ∀ x : Nat, Nat.beq x x = true := fun x => by rw [Nat.beq_eq]
  cases l with
  | nil => simp [Lg.add]
  | cons x r =>
    cases h : Nat.beq x n <;> simp [Lg.add, h]
theorem Tr.put_put {γ : Type} (x y : Option γ) : ∀ (f : Nat) (t : Tr γ) (n : Nat), Tr.put x f (Tr.put y f t n) n = Tr.put x f t n
  | 0, _, _ => rfl
  | f + 1, t, n => by
    cases t with
    | lf =>
      cases n with
      | zero => rfl
      | succ m =>
        simp only [Tr.put]
        by_cases h : m % 2 = 0
        · simp only [h, if_true, Tr.put, Tr.put_put x y f]
        · simp only [h, if_false, Tr.put, Tr.put_put x y f]
    | nd v l r =>
      cases n with
      | zero => rfl
      | succ m =>
        simp only [Tr.put]
        by_cases h : m % 2 = 0
        · simp only [h, if_true, Tr.put, Tr.put_put x y f]
        · simp only [h, if_false, Tr.put, Tr.put_put x y f]
theorem getL_drop : ∀ (l : List Value) (o : Nat) (v : Value) (r : List Value), l.drop o = v :: r → getL l o = some v ∧ l.drop (o + 1) = r
  | [], o, v, r, h => by simp at h
  | x :: l, 0, v, r, h => by
    simp only [List.drop_zero, List.cons.injEq] at h
    exact ⟨by rw [getL, h.1], by simpa using h.2⟩
  | x :: l, o + 1, v, r, h => by
    simp only [List.drop_succ_cons] at h
    obtain ⟨h1, h2⟩ := getL_drop l o v r h
    exact ⟨by rw [getL]; exact h1, by simpa using h2⟩
theorem add_off (a : Addr) (i : Nat) : (a.add i).off = a.off + i := by
  unfold Addr.add; split
  · rename_i h; rw [h]; rfl
  · rfl
theorem add_spot {a : Addr} (i : Nat) (h : a.spot = none) : (a.add i).spot = none := by
  unfold Addr.add; split
  · exact h
  · rfl
theorem Tw.read_read (W : Tw) {n : Nat} (hn : n < 2 ^ 63) : (W.read n).read n = W.read n := by
  unfold Tw.read
  simp only [Lg.add_add W.rd hn]
theorem cellT_at {W : Tw} {a : Addr} {r : Row} {v : Value} (hs : a.spot = none) (hg : W.get a.block = some r) (ho : r.ob = none ∨ r.ob = some .v) (hv : getL r.cs a.off = some v) : cellT a W = some (v, W.read a.block) := by
  unfold cellT
  rw [hs]
  rcases ho with ho | ho <;> simp only [look_eq, hg, Option.bind_some, ho, hv, Option.map_some]
theorem runT_cells {a : Addr} {r : Row} (hs : a.spot = none) (ho : r.ob = none ∨ r.ob = some .v) : ∀ (n i : Nat) (vs : List Value) (acc : Array Value) (W : Tw), W.get a.block = some r → takeL (r.cs.drop (a.off + i)) n = some vs →
    runT P (loadCellsFrom a i n acc) W = some (⟨acc.toList ++ vs⟩, if n = 0 then W else W.read a.block)
  | 0, i, vs, acc, W, hg, h => by
    unfold takeL at h
    cases h
    simp [loadCellsFrom, rt_pure]
  | n + 1, i, vs, acc, W, hg, h => by
    cases hd : r.cs.drop (a.off + i) with
    | nil => rw [hd] at h; cases h
    | cons x r' =>
      rw [hd] at h
      simp only [takeL] at h
      split at h
      · rename_i l' hl
        cases h
        obtain ⟨g1, g2⟩ := getL_drop _ _ _ _ hd
        unfold loadCellsFrom
        rw [rt_bind]
        have hcell : runT P (Go.load (a.add i)) W = some (x, W.read a.block) := by
          show (cellT (a.add i) W).bind _ = _
          rw [cellT_at (r := r) (add_spot i hs) (by rw [add_block]; exact hg) ho (by rw [add_off]; exact g1), add_block]
          rfl
        rw [hcell, Option.bind_some]
        have hg' : (W.read a.block).get a.block = some r := hg
        rw [runT_cells hs ho n (i + 1) l' (acc.push x) (W.read a.block) hg' (by rw [← Nat.add_assoc, g2]; exact hl)]
        have hlt := Tw.get_lt hg
        simp only [Array.toList_push, List.append_assoc, List.singleton_append, Nat.add_one_ne_zero, if_false, Option.some.injEq, Prod.mk.injEq, true_and]
        split
        · rfl
        · exact Tw.read_read W hlt
      · cases h

noncomputable def loadQ (ti : TI) (a : Addr) (W : Tw) : Option (Value × Tw) := match ti.ag with
  | false => cellT a W
  | true => match ti.sz with
    | 0 => none
    | n + 1 => (cellsT a (n + 1) W).bind fun p => some (.agg ⟨p.1⟩, p.2)
theorem loadQ_eq {tb : Tb} (htb : TbOk P tb) {t : TypeId} {ti : TI} (ht : tb.ty.get t = some ti) {a : Addr} {W : Tw} {r : Value × Tw} (h : loadQ ti a W = some r) : runT P (loadVar t a) W = some r := by
  obtain ⟨i, d, h1, h2, h3, h4, h5, h6, h7⟩ := mkTI_some (htb.ty t ti ht)
  unfold loadVar
  rw [rt_bind, rt_isAgg h2, Option.bind_some]
  unfold loadQ at h
  split at h
  · rename_i hag
    rw [hag] at h5
    simp only [h5]
    show (cellT a W).bind _ = _
    rw [h]
    rfl
  · rename_i hag
    rw [hag] at h5
    simp only [h5, if_true]
    split at h
    · cases h
    · rename_i n hn
      obtain ⟨vs, W1, k1, k2⟩ := bind_some h
      cases k2
      obtain ⟨q, q1, q2, q3, q4, rfl⟩ := cellsT_some k1
      rw [rt_bind, rt_sizeOf h1, Option.bind_some]
      unfold Go.loadCells
      rw [rt_bind, h4, hn, runT_cells q1 q3 (n + 1) 0 vs #[] W q2 (by simpa using q4)]
      rfl

theorem setLs_cons {cs : List Value} {o : Nat} {v : Value} {vs : List Value} (h : o < cs.length) : setLs (setL v cs o) (o + 1) vs = setLs cs o (v :: vs) := by
  have key : ∀ (cs : List Value) (o : Nat), o < cs.length → (setL v cs o).take (o + 1) = cs.take o ++ [v] ∧ ∀ k, (setL v cs o).drop (o + 1 + k) = cs.drop (o + 1 + k) := by
    intro cs
    induction cs with
    | nil => intro o h; simp at h
    | cons x r ih =>
      intro o h
      cases o with
      | zero => simp [setL, Nat.add_comm]
      | succ o =>
        obtain ⟨i1, i2⟩ := ih o (by simpa using h)
        refine ⟨by simp [setL, i1], fun k => ?_⟩
        have e : o + 1 + 1 + k = (o + 1 + k) + 1 := by omega
        rw [e]
        simp only [setL, List.drop_succ_cons]
        exact i2 k
  obtain ⟨k1, k2⟩ := key cs o h
  unfold setLs
  rw [k1, k2]
  have e : o + 1 + vs.length = o + (v :: vs).length := by simp only [List.length_cons]; omega
  rw [e]
  simp only [List.append_assoc, List.singleton_append, List.cons_append, List.nil_append]
theorem runT_store {a : Addr} (hs : a.spot = none) : ∀ (vs : List Value) (i : Nat) (r : Row) (W : Tw), vs ≠ [] → W.get a.block = some r → r.ob = none → vs.all one = true → a.off + i + vs.length ≤ r.cs.length →
    runT P (storeCells a vs i) W = some ((), (W.set a.block (some { r with cs := setLs r.cs (a.off + i) vs })).wrote a.block)
  | [], _, _, _, h, _, _, _, _ => absurd rfl h
  | v :: vs, i, r, W, _, hg, ho, h1, hl => by
    have hlt := Tw.get_lt hg
    simp only [List.all_cons, Bool.and_eq_true] at h1
    simp only [List.length_cons] at hl
    unfold storeCells
    rw [rt_bind]
    have hst : runT P (Go.store (a.add i) v) W = some ((), (W.set a.block (some { r with cs := setL v r.cs (a.off + i) })).wrote a.block) := by
      show (setT (a.add i) v W).bind _ = _
      unfold setT
      rw [add_spot i hs]
      simp only [upd_eq, add_block, hg, ho, h1.1, add_off, Bool.true_and]
      rw [if_pos (by simp; omega)]
      rfl
    rw [hst, Option.bind_some]
    cases vs with
    | nil =>
      simp only [storeCells, rt_pure, Option.some.injEq, Prod.mk.injEq, true_and]
      have : setLs r.cs (a.off + i) [v] = setL v r.cs (a.off + i) := by
        rw [← setLs_cons (vs := []) (by omega)]
        unfold setLs
        simp
      rw [this]
    | cons v2 vs =>
      have hg' : ((W.set a.block (some { r with cs := setL v r.cs (a.off + i) })).wrote a.block).get a.block = some { r with cs := setL v r.cs (a.off + i) } := by
        rw [Tw.get_wrote, Tw.get_set W hlt, if_pos rfl]
      have ih := runT_store hs (v2 :: vs) (i + 1) { r with cs := setL v r.cs (a.off + i) } _ (by simp) hg' ho h1.2 (by simp only [setL_length, List.length_cons] at hl ⊢; omega)
      rw [ih]
      simp only [Option.some.injEq, Prod.mk.injEq, true_and]
      have e : a.off + (i + 1) = (a.off + i) + 1 := by omega
      rw [e, setLs_cons (by omega)]
      unfold Tw.set Tw.wrote
      simp only [Tr.put_put, Lg.add_add W.wr hlt]
noncomputable def storeQ (ti : TI) (a : Addr) (v : Value) (W : Tw) : Option (Unit × Tw) := match v with
  | .agg ⟨[]⟩ => none
  | .agg ⟨c :: r⟩ => match a.spot with
    | none => if (c :: r).length == ti.sz && (c :: r).all one then W.upd a.block fun q => match q.ob with
        | none => if a.off + (c :: r).length ≤ q.cs.length then some (some { q with cs := setLs q.cs a.off (c :: r) }) else none
        | some _ => none
      else none
    | some _ => none
  | .tuple _ => none
  | v => if ti.sz == 1 then setT a v W else none
theorem storeQ_eq {tb : Tb} (htb : TbOk P tb) {t : TypeId} {ti : TI} (ht : tb.ty.get t = some ti) {a : Addr} {v : Value} {W : Tw} {r : Unit × Tw} (h : storeQ ti a v W = some r) : runT P (storeVar t a v) W = some r := by
  obtain ⟨i, d, h1, h2, h3, h4, h5, h6, h7⟩ := mkTI_some (htb.ty t ti ht)
  unfold storeVar
  rw [rt_bind, rt_sizeOf h1, Option.bind_some, h4]
  have one' : ∀ v : Value, v.cells = #[v] → (if ti.sz == 1 then setT a v W else none) = some r → v.cells.size = ti.sz ∧ runT P (storeCells a v.cells.toList) W = some r := by
    intro v hv hh
    split at hh
    · rename_i hsz
      have hsz' : ti.sz = 1 := by simpa using hsz
      rw [hv, hsz']
      refine ⟨by simp, ?_⟩
      show (setT (a.add 0) v W).bind _ = _
      have e0 : a.add 0 = a := by simp [Addr.add]
      rw [e0, hh]
      rfl
    · cases hh
  unfold storeQ at h
  split at h
  · cases h
  · rename_i c rs
    split at h
    · rename_i hs
      split at h
      · rename_i hc
        simp only [Bool.and_eq_true, beq_iff_eq] at hc
        obtain ⟨q, q', k1, k2, k3⟩ := upd_some (u := r.1) (W' := r.2) h
        split at k2
        · rename_i ho
          split at k2
          · rename_i hle
            cases k2
            have hcs : (Value.agg ⟨c :: rs⟩).cells = ⟨c :: rs⟩ := rfl
            rw [hcs]
            have hsz : (⟨c :: rs⟩ : Array Value).size = ti.sz := hc.1
            rw [hsz, if_neg (by simp)]
            have := runT_store (P := P) hs (c :: rs) 0 q W (by simp) k1 ho hc.2 (by omega)
            rw [Nat.add_zero] at this
            rw [this]
            obtain ⟨u, W'⟩ := r
            simp only at k3
            rw [k3]
          · cases k2
        · cases k2
      · cases h
    · cases h
  · cases h
  · rename_i hn1 hn2 hn3
    have hcells : v.cells = #[v] := by
      cases v <;> first | rfl | skip
      · rename_i xs
        obtain ⟨l⟩ := xs
        cases l with
        | nil => exact absurd rfl hn1
        | cons c r => exact absurd rfl (hn2 c r)
    obtain ⟨o1, o2⟩ := one' v hcells h
    simp only [o1, ne_eq, not_true, if_false]
    exact o2
end
end Mo

