/-
  Proved: the Go law SchedParses returns true for every input, and leaves its arguments as they were; the tables that its row lists are tied to the program's text (the given tie). Conditions: none beyond the row's own form.
  The frame of this text follows the kit's proof-skeleton.mjs.
-/
import Derived.Test.YtbhjimflcfnpaaaGreatDoorK13
import Derived.Test.YtbhjimflcfnpaaaGreatDoorK14
import Derived.Test.YtbhjimflcfnpaaaGreatDoorTie
import Derived.Test.YtbhjimflcfnpaaaGreatDoorCards
import Derived.WalkKit
import Derived.ProofKit
import Derived.OpenShut
import Derived.ShutString
import Derived.ChangeOld
import Derived.Below
import Derived.LaidMore
import Derived.Lay
import Derived.SevenTiedAt
import Derived.Stop.Joined
set_option linter.all false
set_option linter.all false
/-! The loop of SchedParses. -/
namespace Go.Proofs.YtbhjimflcfnpaaaGreatDoor.Sd
open Go Go.Proofs Mo
noncomputable abbrev S4_9 : LS := ⟨84, [3, 5, 49, 50], [.t (.v (.sl (.cons .str (.one .str)))), .t (.v (.sl (.cons .str (.one .str)))), .t (.v (.int .i64)), .t (.v (.int .i64))], [2, 9, 51, 52, 53, 54, 55, 56, 57, 58, 59, 60, 61, 62], fun e => Ex.rec (motive := fun _ => List Nat) [] (fun i => []) [2] e, fun e => Ex.rec (motive := fun _ => List VT) [] (fun i => []) [.t (.v (.bool))] e⟩
noncomputable def eq2 (a b : Ord) : Bool := Bool.rec (motive := fun _ => Bool) false (Bool.rec (motive := fun _ => Bool) false true (a.2 == b.2)) (a.1 == b.1)
theorem eq2_self (a : Ord) : eq2 a a = true := by unfold eq2; simp
/-- The two lists are one. -/
noncomputable def st4 (l m : List Ord) (n i : Int) : Option (LRes S4_9) := if 0 ≤ i ∧ l = m ∧ n = (l.length : Nat) ∧ l.length < 1073741824 then
    some (bif decide (i < n) then .cont (l, m, n, i + 1, ()) else .out (.exit 0) ()) else none
noncomputable def T4l (l m : List Ord) (n i : Int) : DT (LRes S4_9) := .br (decide (i < n)) (gd [ixB i l.length, ixB i m.length] (.br (!eq2 (l.getD i.toNat ([], [])) (m.getD i.toNat ([], []))) (.lf (.out .ret (false, ()))) (.lf (.cont (l, m, n, w64 (i + 1), ()))))) (.lf (.out (.exit 0) ()))
theorem v4 (l m : List Ord) (n i : Int) (r : LRes S4_9) (hr : st4 l m n i = some r) : (T4l l m n i).val = some r := by
  unfold st4 at hr
  split at hr
  · rename_i h
    obtain ⟨h0, rfl, rfl, h2⟩ := h
    rw [← hr]
    unfold T4l
    simp only [DT.val]
    by_cases hi : i < ((l.length : Nat) : Int)
    · rw [decide_eq_true hi]
      simp only [cond_true]
      rw [gd_val, w_id (x := i + 1) (by omega) (by omega)]
      · simp only [DT.val, eq2_self]
        rfl
      · intro c hc
        simp only [List.mem_cons, List.not_mem_nil, or_false, or_self] at hc
        subst hc
        simp only [ixB, decide_eq_true_eq]; omega
    · rw [decide_eq_false hi]
      rfl
  · cases hr
noncomputable def st4_9 (v : VD S4_9.vs) : Option (LRes S4_9) := st4 v.1 v.2.1 v.2.2.1 v.2.2.2.1
theorem run4 (l m : List Ord) (n i : Int) : runL Tryz.prog (syL kt14 lt7 xt6) Moz.tb 1000 30 4 S4_9 (loopOf Tryz.f4 9) (l, m, n, i, ()) = (T4l l m n i).run canonL := by kernel_rfl
theorem it4 (l : List Ord) (hs : l.length < 1073741824) : ∀ (j k : Nat), k + j = l.length → iterL st4_9 (j + 1) (l, l, (l.length : Nat), (k : Int), ()) = some ⟨.exit 0, ()⟩
  | 0, k, hk => by
    have e0 : st4 l l (l.length : Nat) (k : Int) = some (.out (.exit 0) ()) := by
      unfold st4
      rw [if_pos ⟨by omega, rfl, rfl, hs⟩, decide_eq_false (by omega)]
      rfl
    exact iterL_out (S := S4_9) (step := st4_9) (v := (l, l, (l.length : Nat), (k : Int), ())) (e := .exit 0) (o := ()) e0
  | j + 1, k, hk => by
    have e0 : st4 l l (l.length : Nat) (k : Int) = some (.cont (l, l, (l.length : Nat), ((k + 1 : Nat) : Int), ())) := by
      unfold st4
      rw [if_pos ⟨by omega, rfl, rfl, hs⟩, decide_eq_true (by omega)]
      rfl
    rw [iterL_cont (S := S4_9) (step := st4_9) (v := (l, l, (l.length : Nat), (k : Int), ())) e0]
    exact it4 l hs j (k + 1) (by omega)
noncomputable def okL (l m : List Ord) (n i : Int) : Bool := decide (i = 0 ∧ l = m ∧ n = (l.length : Nat) ∧ l.length < 1073741824)
noncomputable def G4 (l m : List Ord) (n i : Int) : DT (Sigma fun e => VD (S4_9.oV e)) := .br (okL l m n i) (.lf ⟨.exit 0, ()⟩) .no
noncomputable def G4_9 (v : VD S4_9.vs) : DT (Sigma fun e => VD (S4_9.oV e)) := G4 v.1 v.2.1 v.2.2.1 v.2.2.2.1
theorem g4 (l m : List Ord) (n i : Int) (r : Sigma fun e => VD (S4_9.oV e)) (hr : (G4 l m n i).val = some r) : ∃ k, iterL st4_9 k (l, m, n, i, ()) = some r := by
  unfold G4 at hr
  simp only [DT.val] at hr
  cases h : okL l m n i with
  | false => rw [h] at hr; cases hr
  | true =>
    rw [h] at hr
    cases hr
    obtain ⟨rfl, rfl, rfl, h4⟩ : i = 0 ∧ l = m ∧ n = (l.length : Nat) ∧ l.length < 1073741824 := by simpa [okL] using h
    exact ⟨l.length + 1, it4 l h4 l.length 0 (by omega)⟩
theorem hso4 : ∀ e, Nat.ble (szV (S4_9.oV e)) 1000000 = true := fun e => by cases e <;> rfl
theorem lp4_9 : (LCon.of S4_9 st4_9 G4_9).Ok Tryz.prog Q 4 9 := loop_ok t25 (fn := Tryz.f4) (by kernel_rfl) (by kernel_rfl) (by kernel_rfl) (by kernel_rfl) rfl rfl hso4
  (fun v r hr => by
    obtain ⟨l, m, n, i, u⟩ := v
    exact ⟨T4l l m n i, run4 l m n i, v4 l m n i r hr⟩)
  (fun v r hr => g4 v.1 v.2.1 v.2.2.1 v.2.2.2.1 r hr)
noncomputable def lt8 : Tr (List (Nat × LCon)) := Tr.put (some [(9, LCon.of S4_9 st4_9 G4_9)]) 31 lt7 4
theorem t26 : TOk Tryz.prog Q kt14 lt8 xt6 := t25.addL (lp_one lp4_9 lp_nil) rfl
end Go.Proofs.YtbhjimflcfnpaaaGreatDoor.Sd

set_option linter.all false
/-! The law SchedParses. -/
namespace Go.Proofs.YtbhjimflcfnpaaaGreatDoor.Sd
open Go Go.Proofs Mo
noncomputable def nt (s : List UInt8) : thT.D := (newF s).1
noncomputable def ne' (s : List UInt8) : Int := (newF s).2.1
noncomputable def zT (s : List UInt8) : thT.D := (s, 0, 0, 0, [], 0, -1, false, [])
noncomputable def ff : DT (AD [boo]) := .lf (false, ())
noncomputable def fin4 (s : List UInt8) : DT (AD [boo]) := .br (decide ((lgs (nt s)).length < 1073741824)) (.br (samF (nt s) (zT s)) (.br (shB (nt s).1) (.lf (rtF (nt s), ())) .no) ff) .no
noncomputable def tail4 (s : List UInt8) (E : Int) : DT (AD [boo]) := .br (E != 0) (.br ((nt s).1 == []) (.lf (true, ())) (.br (E == 0) (fin4 s) ff)) (.br (E == 0) (fin4 s) ff)
noncomputable def T4 (s : List UInt8) : DT (AD [boo]) :=
  .br (decide ((s.length : Int) > 1000)) (.lf (true, ())) (.br (shB s) (.br ((prgP s).2 == 0)
    (.br (shB s) (.br ((docP s).2 == 0)
      (.br (shB s) (.br (ne' s != 0) ff (.br (lenO (prgP s).1 != lenO (docP s).1) ff (.br (okL (prgP s).1 (docP s).1 (lenO (prgP s).1) 0) (fin4 s) .no))) .no)
      (.br (shB s) (.br (0 != (docP s).2) ff (.br (ne' s != 0) ff (.br (lenO (prgP s).1 != 0) ff (.br (okL (prgP s).1 [] (lenO (prgP s).1) 0) (fin4 s) .no)))) .no)) .no)
    (.br (shB s) (.br ((docP s).2 == 0)
      (.br (shB s) (.br ((prgP s).2 != 0) ff (.br (ne' s != (prgP s).2) ff (.br (0 != lenO (docP s).1) ff (.br (okL [] (docP s).1 0 0) (tail4 s (prgP s).2) .no)))) .no)
      (.br (shB s) (.br ((prgP s).2 != (docP s).2) ff (.br (ne' s != (prgP s).2) ff (tail4 s (prgP s).2))) .no)) .no)) .no)
where lenO (l : List Ord) : Int := (l.length : Nat)
theorem T4_run (s : List UInt8) : run Tryz.prog (syL kt14 lt8 xt6) Moz.tb 1000 30 4 [str] [boo] (s, ()) = (T4 s).run (canon [boo]) := by kernel_rfl
theorem goG_len (ok : List UInt8 → Bool) (od : List UInt8 → Ord) : ∀ (L : List (List UInt8)) (acc : List Ord), acc.length ≤ 40 → ((goG ok od L acc).2 == 0) = true → (goG ok od L acc).1.length = acc.length + L.length ∧ (goG ok od L acc).1.length ≤ 40
  | [], acc, h, _ => ⟨rfl, h⟩
  | p :: r, acc, h, he => by
    rw [goG] at he ⊢
    cases hp : ok p with
    | false => rw [hp] at he; cases he
    | true =>
      rw [hp] at he
      cases hl : ((acc.length : Int) == 40) with
      | true => rw [hl] at he; cases he
      | false =>
        rw [hl] at he
        have hlt : acc.length < 40 := by
          have : (acc.length : Int) ≠ 40 := by intro h9; rw [h9] at hl; cases hl
          omega
        obtain ⟨g1, g2⟩ := goG_len ok od r (acc ++ [od p]) (by simp; omega) he
        refine ⟨?_, g2⟩
        simp only [Bool.not_true, cond_false]
        rw [g1]
        simp
        omega
theorem prg_len {s : List UInt8} (h : ((prgP s).2 == 0) = true) : 1 ≤ (prgP s).1.length ∧ (prgP s).1.length ≤ 40 := by
  obtain ⟨x, r, e⟩ := Pa.splitL_ne s 59
  obtain ⟨g1, g2⟩ := goG_len okP oAt (Pa.splitL s 59) [] (by simp) h
  refine ⟨?_, g2⟩
  show 1 ≤ (goG okP oAt (Pa.splitL s 59) []).1.length
  rw [g1, e]
  simp
theorem fin4_val {s : List UInt8} (hs : shB s = true) (he : ((prgP s).2 == 0) = true) : (fin4 s).val = some (true, ()) := by
  have hn : nt s = zT s := by unfold nt newF; rw [he]; rfl
  obtain ⟨g1, g2⟩ := prg_len he
  have hr : rtF (zT s) = true := by
    unfold rtF rtL zT
    have e0 : ((0 : Int) == (((prgP s).1.length : Nat) : Int)) = false := by
      rw [beq_eq_false_iff_ne]
      omega
    have hnil : (prgP s).1 ≠ [] := by intro h; rw [h] at g1; simp at g1
    first
      | (simp [he]; exact hnil)
      | (simp [he, hnil]; done)
      | (simp [he]; exact fun h => hnil h.symm)
      | (simp [he, e0]; done)
      | (simp [he]; omega)
  unfold fin4
  rw [hn, sam_self]
  have h1 : shB (zT s).1 = true := hs
  have h2 : decide ((lgs (zT s)).length < 1073741824) = true := rfl
  simp only [DT.val, h1, h2, hr, cond_true]
theorem T4_val (s : List UInt8) : (T4 s).val = some (true, ()) := by
  unfold T4
  simp only [DT.val]
  by_cases h1 : (s.length : Int) > 1000
  · rw [decide_eq_true h1]; rfl
  have hs : shB s = true := by simp only [shB, decide_eq_true_eq]; omega
  rw [decide_eq_false h1, hs, ← parse_eq s (by omega)]
  simp only [cond_true, cond_false]
  cases he : (prgP s).2 == 0 with
  | true =>
    obtain ⟨g1, g2⟩ := prg_len he
    have hne : ne' s = 0 := by unfold ne' newF; rw [he]; rfl
    have hok : okL (prgP s).1 (prgP s).1 (T4.lenO (prgP s).1) 0 = true := by
      unfold okL T4.lenO
      simp
      omega
    rw [hne, hok, fin4_val hs he]
    simp
  | false =>
    have h0 : (prgP s).2 ≠ 0 := by
      intro h
      rw [h] at he
      cases he
    have hne : ne' s = (prgP s).2 := by unfold ne' newF; rw [he]; rfl
    have hnt : (nt s).1 = [] := by unfold nt newF; rw [he]; rfl
    have h3 : ((prgP s).2 != 0) = true := by simpa using h0
    unfold tail4
    simp only [DT.val, hne, hnt, h3]
    simp
/-- THE LAW SchedParses, at every text. -/
theorem parses4_ok : (Con.mk [str] [boo] (fun _ => true) fun _ => (true, ())).Ok Tryz.prog Q 4 := con_at fun x hx => by
  obtain ⟨s, u⟩ := x
  exact at_ok t26 (T := T4 s) rfl (T4_run s) (T4_val s)
#print axioms parses4_ok
end Go.Proofs.YtbhjimflcfnpaaaGreatDoor.Sd

set_option linter.all false
/-! SchedParses, at what is read as a string. -/
namespace Go.Proofs.YtbhjimflcfnpaaaGreatDoor.Sd
open Go Go.Proofs Mo
theorem law4 {W : World} (hL : laidMet Tryz.prog Rows.schedRightRow.laid W) {v : Value} {x : List UInt8} (hx : (AT.v .str).Rd (pt0 W) x v) : Calls Tryz.prog 4 #[v] W fun e w' => e = .returned (.bool true) ∧ RowKit.Below W.heap.size W w' :=
  (parses4_ok (pt0 W) W #[v] (x, ()) (true, ()) (qt0 hL) (pt0_ok W) ⟨hx, trivial⟩ rfl).mono fun e w' ⟨y, pr', h1, h2, _, _, _, h3⟩ => ⟨by rw [h1, bool_arg (show (AT.v .bool).Rd pr' true y from h3)], h2⟩
end Go.Proofs.YtbhjimflcfnpaaaGreatDoor.Sd


namespace Go.Proofs.YtbhjimflcfnpaaaGreatDoor.schedParses
open Go.ChangeShapes Go.WideShapes Go.ChangeAt Go.RowKit Mo Sd
set_option linter.unusedVariables false

theorem own : ownKnob Tryz.prog.godebug = none := by kernel_rfl
theorem laidOut : laidOutB Tryz.prog = true := by kernel_rfl

set_option maxRecDepth 100000 in
theorem lifted (os : Os) (started : os.Started) (H : Type) (enc : TypeId × Value → H) :
    ReturnsInHanded {} Tryz.checked os 4 .any (fun w args => (Rows.schedParsesSpec.pre enc Tryz.prog Tryz.f4 Rows.schedParsesRow.domain false w args ∧ laidMetH Tryz.prog Rows.schedParsesRow.laid w) ∧ sizedMet enc Tryz.prog Tryz.f4 (OpenSpec.ofChange Rows.schedParsesSpec) false w args)
      (Rows.schedParsesSpec.post enc Tryz.prog Tryz.f4 false true false false) := by
  refine returnsInHanded_of_change_and (C := Tryz.checked) (X := fun w _ => laidMetH Tryz.prog Rows.schedParsesRow.laid w) (fun _ _ _ hh h => h.of_heap hh) own started (by kernel_rfl) Tryz.func4
    (ChangeSpec.witness_shaped (enc := enc) (C := Tryz.checked) (os := os) (X := fun w _ => laidMetH Tryz.prog Rows.schedParsesRow.laid w) false (World.laidAll Tryz.prog os Rows.schedParsesRow.laid) #[.string ⟨#[]⟩] 8 (World.laidAll_os _ _ _)
      (World.shaped_of_ZipB (by kernel_rfl) (by kernel_rfl)) (by kernel_rfl) (by kernel_rfl) (by kernel_rfl)
      (by rw [MakeChecks.laidMetH_plain _ _ _ (by kernel_rfl)]; exact laidMet_laidAll _ (by kernel_rfl) (by kernel_rfl))) ?_
  intro W base args ds gs before hval0 hW hcnd _ hL _
  have hval : ∀ (j : Nat) t v, Tryz.f4.params[j]? = some t → args[j]? = some v → Value.okWide Tryz.prog W .any base t v := hval0
  have hW2 := hW
  obtain ⟨p, q, hA0, hV, rfl, hfz, hnd⟩ := hW
  have hA : DataW.TrodAll enc Tryz.prog W 0 (fun _ => true) true Tryz.f4.params.toList args.toList ds p := hA0
  rw [Tryz.params4] at hA hval
  obtain ⟨v0, vs0, d0, ds0, p0, q0, hargs, rfl, rfl, h0, r0⟩ := trodAll_cons hA
  obtain ⟨rfl, rfl, rfl⟩ := trodAll_nil r0
  obtain rfl : args = #[v0] := by cases args; simp_all
  obtain ⟨rfl, rfl⟩ := trodVars_none hV
  have ok0 := hval 0 9 v0 rfl rfl
  obtain ⟨z0, rfl⟩ := okWide_string Tryz.underlying9 ok0
  have k0 := h0
  have lt0 : ∀ x ∈ p0, x.block < W.heap.size := by obtain ⟨m, hm⟩ := k0; exact DataW.trod_lt m _ _ _ hm
  obtain ⟨fuel0, g0⟩ := h0
  have hx0 : (AT.v .str).Rd (pt0 W) z0.data.toList (.string z0) := str_rd (x := z0.data.toList)
  clear hA0 hval0
  have hLd : laidMet Tryz.prog Rows.schedParsesRow.laid W := by rw [← MakeChecks.laidMetH_plain _ _ _ (by kernel_rfl)]; exact hL
  refine (law4 hLd hx0).mono fun e W3 ⟨he, bel⟩ => ?_
  subst he
  exact ⟨_, rfl, _, _, _, [], _, [], hW2, trodAll_mk1 (shut_bool Tryz.underlying4 _), (trodAll_cons_mk (Below.trod laidOut (by kernel_rfl) (of_decide_eq_true (by kernel_rfl)) k0 bel lt0) trodAll_mk0), rfl, bel.frame _, fun h => by cases h⟩

theorem named : Tryz.pinned.checked.prog.funcNamed Rows.schedParsesRow.func = some 4 := by kernel_rfl
theorem inst : (Tryz.f4).isInstance Tryz.prog Rows.schedParsesRow.origin Rows.schedParsesRow.targs := (of_decide_eq_true (by kernel_rfl))
theorem wrap : (Tryz.f4).isWrapper Tryz.prog Rows.schedParsesRow.wrapper Rows.schedParsesRow.mainSum := (by unfold Func.isWrapper; first | (rw [if_pos (by decide +kernel)]; kernel_rfl) | (rw [if_neg (by decide +kernel)]; exact ⟨rfl, rfl⟩))
theorem over : Rows.SchedParsesSaid :=
  OpenClaim.holds_of_wide 4 Tryz.f4 rfl rfl rfl rfl rfl rfl rfl ⟨rfl, rfl, rfl, rfl, rfl⟩ rfl rfl rfl rfl rfl named Tryz.func4 jf4
    inst wrap
    (fun os started H enc _ => lifted os started H enc)
theorem still : (Tryz.pinned.checked.prog.funcs.any Func.goes) = false := by kernel_rfl
theorem goesBy_still {P : Program} {c : OpenClaim} (hs : c.start = .entering) (h : P.funcs.any Func.goes = false) : false = c.goesBy P := by
  have h0 : ∀ g, P.goes g = false := by
    intro g
    unfold Program.goes
    rw [h, Bool.and_false, Bool.or_false, List.any_eq_false]
    intro k _
    cases hk : P.funcs[k]? with
    | none => simp
    | some fn =>
      rw [Array.any_eq_false'] at h
      simpa using h fn (Array.mem_of_getElem? hk)
  unfold OpenClaim.goesBy Program.goesAt Program.goesFrom
  rw [hs]
  cases P.funcNamed c.func with
  | none => rfl
  | some g => simp [h0]
theorem goes : false = Rows.schedParsesRow.goesBy Tryz.pinned.checked.prog := goesBy_still rfl still
theorem proved : Rows.SchedParsesCardSaid :=
  Claim7.holds_tied_plain_at .later [] [.data, .data, .data, .data, .sentinel, .sentinel, .pinned, .pinned, .pinned, .pinned, .pinned, .pinned] true (true, "dda34d79712180ea3bc48905345507ad1562513cd6fd9382ec74165ffa23b5cf") true
    over (fun _ h => by cases h) (by as_aux_lemma => kernel_rfl) (fun _ h => by cases h) schedParses_row_tie rfl ⟨rfl, rfl⟩ (by as_aux_lemma => kernel_rfl) rfl
    (fun f fn hf hfn => by
      obtain rfl : f = 4 := Option.some.inj ((show Tryz.prog.funcNamed "caravel/caravellaw21.SchedParses" = some 4 by kernel_rfl).symm.trans hf) |>.symm
      obtain rfl : fn = Tryz.f4 := (Option.some.inj (Tryz.func4.symm.trans hfn)).symm
      exact ⟨(by as_aux_lemma => kernel_rfl), fun j t ht => by
        rw [Tryz.params4] at ht
        have hm : t ∈ [9] := by simpa using Array.mem_of_getElem? ht
        have hall : ([9].all fun u => !Tryz.prog.wantsStandIn u) = true := by kernel_rfl
        exact (show Tryz.prog.wantsStandIn t = false by simpa using List.all_eq_true.1 hall t hm)⟩)
    goes
#print axioms proved
end Go.Proofs.YtbhjimflcfnpaaaGreatDoor.schedParses

