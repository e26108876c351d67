/-
  Proved: the Go law SchedBlanks returns true for every input, and leaves its arguments as they were; the tables that its row lists are tied to the program's text (the given tie). Conditions: none beyond the row's own form.
  The frame of this text follows the kit's proof-skeleton.mjs.
-/
import Derived.Test.YtbhjimflcfnpaaaGreatDoorK13
import Derived.Test.YtbhjimflcfnpaaaGreatDoorK14
import Derived.Test.YtbhjimflcfnpaaaGreatDoorTie
import Derived.Test.YtbhjimflcfnpaaaGreatDoorCards
import Derived.WalkKit
import Derived.ProofKit
import Derived.OpenShut
import Derived.ShutString
import Derived.ChangeOld
import Derived.Below
import Derived.LaidMore
import Derived.Lay
import Derived.SevenTiedAt
import Derived.Stop.Joined
set_option linter.all false
set_option linter.all false
/-! The loop of SchedParses. -/
namespace Go.Proofs.YtbhjimflcfnpaaaGreatDoor.Sd
open Go Go.Proofs Mo
noncomputable abbrev S4_9 : LS := ⟨84, [3, 5, 49, 50], [.t (.v (.sl (.cons .str (.one .str)))), .t (.v (.sl (.cons .str (.one .str)))), .t (.v (.int .i64)), .t (.v (.int .i64))], [2, 9, 51, 52, 53, 54, 55, 56, 57, 58, 59, 60, 61, 62], fun e => Ex.rec (motive := fun _ => List Nat) [] (fun i => []) [2] e, fun e => Ex.rec (motive := fun _ => List VT) [] (fun i => []) [.t (.v (.bool))] e⟩
noncomputable def eq2 (a b : Ord) : Bool := Bool.rec (motive := fun _ => Bool) false (Bool.rec (motive := fun _ => Bool) false true (a.2 == b.2)) (a.1 == b.1)
theorem eq2_self (a : Ord) : eq2 a a = true := by unfold eq2; simp
/-- The two lists are one. -/
noncomputable def st4 (l m : List Ord) (n i : Int) : Option (LRes S4_9) := if 0 ≤ i ∧ l = m ∧ n = (l.length : Nat) ∧ l.length < 1073741824 then
    some (bif decide (i < n) then .cont (l, m, n, i + 1, ()) else .out (.exit 0) ()) else none
noncomputable def T4l (l m : List Ord) (n i : Int) : DT (LRes S4_9) := .br (decide (i < n)) (gd [ixB i l.length, ixB i m.length] (.br (!eq2 (l.getD i.toNat ([], [])) (m.getD i.toNat ([], []))) (.lf (.out .ret (false, ()))) (.lf (.cont (l, m, n, w64 (i + 1), ()))))) (.lf (.out (.exit 0) ()))
theorem v4 (l m : List Ord) (n i : Int) (r : LRes S4_9) (hr : st4 l m n i = some r) : (T4l l m n i).val = some r := by
  unfold st4 at hr
  split at hr
  · rename_i h
    obtain ⟨h0, rfl, rfl, h2⟩ := h
    rw [← hr]
    unfold T4l
    simp only [DT.val]
    by_cases hi : i < ((l.length : Nat) : Int)
    · rw [decide_eq_true hi]
      simp only [cond_true]
      rw [gd_val, w_id (x := i + 1) (by omega) (by omega)]
      · simp only [DT.val, eq2_self]
        rfl
      · intro c hc
        simp only [List.mem_cons, List.not_mem_nil, or_false, or_self] at hc
        subst hc
        simp only [ixB, decide_eq_true_eq]; omega
    · rw [decide_eq_false hi]
      rfl
  · cases hr
noncomputable def st4_9 (v : VD S4_9.vs) : Option (LRes S4_9) := st4 v.1 v.2.1 v.2.2.1 v.2.2.2.1
theorem run4 (l m : List Ord) (n i : Int) : runL Tryz.prog (syL kt14 lt7 xt6) Moz.tb 1000 30 4 S4_9 (loopOf Tryz.f4 9) (l, m, n, i, ()) = (T4l l m n i).run canonL := by kernel_rfl
theorem it4 (l : List Ord) (hs : l.length < 1073741824) : ∀ (j k : Nat), k + j = l.length → iterL st4_9 (j + 1) (l, l, (l.length : Nat), (k : Int), ()) = some ⟨.exit 0, ()⟩
  | 0, k, hk => by
    have e0 : st4 l l (l.length : Nat) (k : Int) = some (.out (.exit 0) ()) := by
      unfold st4
      rw [if_pos ⟨by omega, rfl, rfl, hs⟩, decide_eq_false (by omega)]
      rfl
    exact iterL_out (S := S4_9) (step := st4_9) (v := (l, l, (l.length : Nat), (k : Int), ())) (e := .exit 0) (o := ()) e0
  | j + 1, k, hk => by
    have e0 : st4 l l (l.length : Nat) (k : Int) = some (.cont (l, l, (l.length : Nat), ((k + 1 : Nat) : Int), ())) := by
      unfold st4
      rw [if_pos ⟨by omega, rfl, rfl, hs⟩, decide_eq_true (by omega)]
      rfl
    rw [iterL_cont (S := S4_9) (step := st4_9) (v := (l, l, (l.length : Nat), (k : Int), ())) e0]
    exact it4 l hs j (k + 1) (by omega)
noncomputable def okL (l m : List Ord) (n i : Int) : Bool := decide (i = 0 ∧ l = m ∧ n = (l.length : Nat) ∧ l.length < 1073741824)
noncomputable def G4 (l m : List Ord) (n i : Int) : DT (Sigma fun e => VD (S4_9.oV e)) := .br (okL l m n i) (.lf ⟨.exit 0, ()⟩) .no
noncomputable def G4_9 (v : VD S4_9.vs) : DT (Sigma fun e => VD (S4_9.oV e)) := G4 v.1 v.2.1 v.2.2.1 v.2.2.2.1
theorem g4 (l m : List Ord) (n i : Int) (r : Sigma fun e => VD (S4_9.oV e)) (hr : (G4 l m n i).val = some r) : ∃ k, iterL st4_9 k (l, m, n, i, ()) = some r := by
  unfold G4 at hr
  simp only [DT.val] at hr
  cases h : okL l m n i with
  | false => rw [h] at hr; cases hr
  | true =>
    rw [h] at hr
    cases hr
    obtain ⟨rfl, rfl, rfl, h4⟩ : i = 0 ∧ l = m ∧ n = (l.length : Nat) ∧ l.length < 1073741824 := by simpa [okL] using h
    exact ⟨l.length + 1, it4 l h4 l.length 0 (by omega)⟩
theorem hso4 : ∀ e, Nat.ble (szV (S4_9.oV e)) 1000000 = true := fun e => by cases e <;> rfl
theorem lp4_9 : (LCon.of S4_9 st4_9 G4_9).Ok Tryz.prog Q 4 9 := loop_ok t25 (fn := Tryz.f4) (by kernel_rfl) (by kernel_rfl) (by kernel_rfl) (by kernel_rfl) rfl rfl hso4
  (fun v r hr => by
    obtain ⟨l, m, n, i, u⟩ := v
    exact ⟨T4l l m n i, run4 l m n i, v4 l m n i r hr⟩)
  (fun v r hr => g4 v.1 v.2.1 v.2.2.1 v.2.2.2.1 r hr)
noncomputable def lt8 : Tr (List (Nat × LCon)) := Tr.put (some [(9, LCon.of S4_9 st4_9 G4_9)]) 31 lt7 4
theorem t26 : TOk Tryz.prog Q kt14 lt8 xt6 := t25.addL (lp_one lp4_9 lp_nil) rfl
end Go.Proofs.YtbhjimflcfnpaaaGreatDoor.Sd

set_option linter.all false
/-! The law SchedParses. -/
namespace Go.Proofs.YtbhjimflcfnpaaaGreatDoor.Sd
open Go Go.Proofs Mo
noncomputable def nt (s : List UInt8) : thT.D := (newF s).1
noncomputable def ne' (s : List UInt8) : Int := (newF s).2.1
noncomputable def zT (s : List UInt8) : thT.D := (s, 0, 0, 0, [], 0, -1, false, [])
noncomputable def ff : DT (AD [boo]) := .lf (false, ())
noncomputable def fin4 (s : List UInt8) : DT (AD [boo]) := .br (decide ((lgs (nt s)).length < 1073741824)) (.br (samF (nt s) (zT s)) (.br (shB (nt s).1) (.lf (rtF (nt s), ())) .no) ff) .no
noncomputable def tail4 (s : List UInt8) (E : Int) : DT (AD [boo]) := .br (E != 0) (.br ((nt s).1 == []) (.lf (true, ())) (.br (E == 0) (fin4 s) ff)) (.br (E == 0) (fin4 s) ff)
noncomputable def T4 (s : List UInt8) : DT (AD [boo]) :=
  .br (decide ((s.length : Int) > 1000)) (.lf (true, ())) (.br (shB s) (.br ((prgP s).2 == 0)
    (.br (shB s) (.br ((docP s).2 == 0)
      (.br (shB s) (.br (ne' s != 0) ff (.br (lenO (prgP s).1 != lenO (docP s).1) ff (.br (okL (prgP s).1 (docP s).1 (lenO (prgP s).1) 0) (fin4 s) .no))) .no)
      (.br (shB s) (.br (0 != (docP s).2) ff (.br (ne' s != 0) ff (.br (lenO (prgP s).1 != 0) ff (.br (okL (prgP s).1 [] (lenO (prgP s).1) 0) (fin4 s) .no)))) .no)) .no)
    (.br (shB s) (.br ((docP s).2 == 0)
      (.br (shB s) (.br ((prgP s).2 != 0) ff (.br (ne' s != (prgP s).2) ff (.br (0 != lenO (docP s).1) ff (.br (okL [] (docP s).1 0 0) (tail4 s (prgP s).2) .no)))) .no)
      (.br (shB s) (.br ((prgP s).2 != (docP s).2) ff (.br (ne' s != (prgP s).2) ff (tail4 s (prgP s).2))) .no)) .no)) .no)
where lenO (l : List Ord) : Int := (l.length : Nat)
theorem T4_run (s : List UInt8) : run Tryz.prog (syL kt14 lt8 xt6) Moz.tb 1000 30 4 [str] [boo] (s, ()) = (T4 s).run (canon [boo]) := by kernel_rfl
theorem goG_len (ok : List UInt8 → Bool) (od : List UInt8 → Ord) : ∀ (L : List (List UInt8)) (acc : List Ord), acc.length ≤ 40 → ((goG ok od L acc).2 == 0) = true → (goG ok od L acc).1.length = acc.length + L.length ∧ (goG ok od L acc).1.length ≤ 40
  | [], acc, h, _ => ⟨rfl, h⟩
  | p :: r, acc, h, he => by
    rw [goG] at he ⊢
    cases hp : ok p with
    | false => rw [hp] at he; cases he
    | true =>
      rw [hp] at he
      cases hl : ((acc.length : Int) == 40) with
      | true => rw [hl] at he; cases he
      | false =>
        rw [hl] at he
        have hlt : acc.length < 40 := by
          have : (acc.length : Int) ≠ 40 := by intro h9; rw [h9] at hl; cases hl
          omega
        obtain ⟨g1, g2⟩ := goG_len ok od r (acc ++ [od p]) (by simp; omega) he
        refine ⟨?_, g2⟩
        simp only [Bool.not_true, cond_false]
        rw [g1]
        simp
        omega
theorem prg_len {s : List UInt8} (h : ((prgP s).2 == 0) = true) : 1 ≤ (prgP s).1.length ∧ (prgP s).1.length ≤ 40 := by
  obtain ⟨x, r, e⟩ := Pa.splitL_ne s 59
  obtain ⟨g1, g2⟩ := goG_len okP oAt (Pa.splitL s 59) [] (by simp) h
  refine ⟨?_, g2⟩
  show 1 ≤ (goG okP oAt (Pa.splitL s 59) []).1.length
  rw [g1, e]
  simp
theorem fin4_val {s : List UInt8} (hs : shB s = true) (he : ((prgP s).2 == 0) = true) : (fin4 s).val = some (true, ()) := by
  have hn : nt s = zT s := by unfold nt newF; rw [he]; rfl
  obtain ⟨g1, g2⟩ := prg_len he
  have hr : rtF (zT s) = true := by
    unfold rtF rtL zT
    have e0 : ((0 : Int) == (((prgP s).1.length : Nat) : Int)) = false := by
      rw [beq_eq_false_iff_ne]
      omega
    have hnil : (prgP s).1 ≠ [] := by intro h; rw [h] at g1; simp at g1
    first
      | (simp [he]; exact hnil)
      | (simp [he, hnil]; done)
      | (simp [he]; exact fun h => hnil h.symm)
      | (simp [he, e0]; done)
      | (simp [he]; omega)
  unfold fin4
  rw [hn, sam_self]
  have h1 : shB (zT s).1 = true := hs
  have h2 : decide ((lgs (zT s)).length < 1073741824) = true := rfl
  simp only [DT.val, h1, h2, hr, cond_true]
theorem T4_val (s : List UInt8) : (T4 s).val = some (true, ()) := by
  unfold T4
  simp only [DT.val]
  by_cases h1 : (s.length : Int) > 1000
  · rw [decide_eq_true h1]; rfl
  have hs : shB s = true := by simp only [shB, decide_eq_true_eq]; omega
  rw [decide_eq_false h1, hs, ← parse_eq s (by omega)]
  simp only [cond_true, cond_false]
  cases he : (prgP s).2 == 0 with
  | true =>
    obtain ⟨g1, g2⟩ := prg_len he
    have hne : ne' s = 0 := by unfold ne' newF; rw [he]; rfl
    have hok : okL (prgP s).1 (prgP s).1 (T4.lenO (prgP s).1) 0 = true := by
      unfold okL T4.lenO
      simp
      omega
    rw [hne, hok, fin4_val hs he]
    simp
  | false =>
    have h0 : (prgP s).2 ≠ 0 := by
      intro h
      rw [h] at he
      cases he
    have hne : ne' s = (prgP s).2 := by unfold ne' newF; rw [he]; rfl
    have hnt : (nt s).1 = [] := by unfold nt newF; rw [he]; rfl
    have h3 : ((prgP s).2 != 0) = true := by simpa using h0
    unfold tail4
    simp only [DT.val, hne, hnt, h3]
    simp
/-- THE LAW SchedParses, at every text. -/
theorem parses4_ok : (Con.mk [str] [boo] (fun _ => true) fun _ => (true, ())).Ok Tryz.prog Q 4 := con_at fun x hx => by
  obtain ⟨s, u⟩ := x
  exact at_ok t26 (T := T4 s) rfl (T4_run s) (T4_val s)
#print axioms parses4_ok
end Go.Proofs.YtbhjimflcfnpaaaGreatDoor.Sd

set_option linter.all false
/-! Blanks around orders, plainly. -/
namespace Go.Proofs.YtbhjimflcfnpaaaGreatDoor.Sd
open Go Go.Proofs Mo
theorem tr_pre (p : List UInt8) : Lib.trimB (32 :: p) 32 = Lib.trimB p 32 := by
  unfold Lib.trimB Lib.trimRightB Lib.trimLeftB
  rw [List.reverse_cons, List.dropWhile_append]
  cases h : p.reverse.dropWhile (· == 32) with
  | nil => simp
  | cons a r => simp
theorem tr_suf (p : List UInt8) : Lib.trimB (p ++ [32]) 32 = Lib.trimB p 32 := by
  unfold Lib.trimB Lib.trimRightB Lib.trimLeftB
  rw [List.reverse_append]
  simp
noncomputable def blk (k : Nat) : List UInt8 := List.replicate k 32
theorem tr_preN : ∀ (k : Nat) (p : List UInt8), Lib.trimB (blk k ++ p) 32 = Lib.trimB p 32
  | 0, p => rfl
  | k + 1, p => by
    show Lib.trimB (32 :: (blk k ++ p)) 32 = _
    rw [tr_pre, tr_preN k p]
theorem tr_sufN : ∀ (k : Nat) (p : List UInt8), Lib.trimB (p ++ blk k) 32 = Lib.trimB p 32
  | 0, p => by rw [blk, List.replicate_zero, List.append_nil]
  | k + 1, p => by
    show Lib.trimB (p ++ (List.replicate (k + 1) 32)) 32 = _
    rw [List.replicate_succ', ← List.append_assoc, tr_suf]
    exact tr_sufN k p
noncomputable def trs (s : List UInt8) : List (List UInt8) := (Pa.splitL s 59).map fun p => Lib.trimB p 32
theorem split_cat (c : UInt8) : ∀ (x y : List UInt8), Pa.splitL (x ++ c :: y) c = Pa.splitL x c ++ Pa.splitL y c
  | [], y => by simp [Pa.splitL]
  | b :: x, y => by
    obtain ⟨h, t, e⟩ := Pa.splitL_ne x c
    have ih := split_cat c x y
    rw [e] at ih
    rw [List.cons_append, Pa.splitL, Pa.splitL, ih, e]
    split <;> rfl
theorem trs_cat (x y : List UInt8) : trs (x ++ 59 :: y) = trs x ++ trs y := by
  unfold trs
  rw [split_cat, List.map_append]
theorem trs_pre (s : List UInt8) : trs (32 :: s) = trs s := by
  obtain ⟨h, t, e⟩ := Pa.splitL_ne s 59
  unfold trs
  rw [Pa.splitL, e]
  simp [tr_pre]
theorem trs_preN : ∀ (k : Nat) (s : List UInt8), trs (blk k ++ s) = trs s
  | 0, s => rfl
  | k + 1, s => by
    show trs (32 :: (blk k ++ s)) = _
    rw [trs_pre, trs_preN k s]
theorem last_sep : ∀ (s : List UInt8), (59 : UInt8) ∉ s ∨ ∃ x y, s = x ++ 59 :: y ∧ (59 : UInt8) ∉ y
  | [] => .inl (by simp)
  | b :: s => by
    rcases last_sep s with h | ⟨x, y, rfl, h⟩
    · by_cases hb : b = 59
      · exact .inr ⟨[], s, by rw [hb]; rfl, h⟩
      · exact .inl (by simp [h, Ne.symm hb])
    · exact .inr ⟨b :: x, y, rfl, h⟩
theorem blk_mem (k : Nat) : (59 : UInt8) ∉ blk k := by
  unfold blk
  rw [List.mem_replicate]
  rintro ⟨-, h⟩
  cases h
theorem trs_free {s : List UInt8} (h : (59 : UInt8) ∉ s) : trs s = [Lib.trimB s 32] := by
  unfold trs
  rw [Pa.split_free h]
  rfl
theorem trs_sufN (k : Nat) (s : List UInt8) : trs (s ++ blk k) = trs s := by
  rcases last_sep s with h | ⟨x, y, rfl, h⟩
  · rw [trs_free h, trs_free (fun h9 => (List.mem_append.1 h9).elim h (blk_mem k)), tr_sufN]
  · rw [List.append_assoc, List.cons_append, trs_cat, trs_cat, trs_free h, trs_free (fun h9 => (List.mem_append.1 h9).elim h (blk_mem k)), tr_sufN]
theorem goG_trs : ∀ (L M : List (List UInt8)) (acc : List Ord), (L.map fun p => Lib.trimB p 32) = (M.map fun p => Lib.trimB p 32) → goG okP oAt L acc = goG okP oAt M acc
  | [], [], _, _ => rfl
  | [], _ :: _, _, h => by cases h
  | _ :: _, [], _, h => by cases h
  | p :: L, q :: M, acc, h => by
    obtain ⟨h0, h2⟩ := List.cons.inj h
    have h1 : Lib.trimB p 32 = Lib.trimB q 32 := h0
    have e1 : okP p = okP q := by unfold okP; rw [h1]
    have e2 : oAt p = oAt q := by unfold oAt; rw [h1]
    rw [goG, goG, e1, e2, goG_trs L M _ h2]
/-- Texts whose parts are alike but for blanks are one program. -/
theorem prg_trs {s t : List UInt8} (h : trs s = trs t) : prgP s = prgP t := goG_trs _ _ _ h
end Go.Proofs.YtbhjimflcfnpaaaGreatDoor.Sd

set_option linter.all false
/-! The loops of SchedBlanks. -/
namespace Go.Proofs.YtbhjimflcfnpaaaGreatDoor.Sd
open Go Go.Proofs Mo
noncomputable abbrev S3_6 : LS := ⟨95, [5, 6, 7, 26, 27, 28], [.t (.v (.str)), .t (.v (.str)), .t (.v (.str)), .t (.v (.sl (.one (.str)))), .t (.v (.int .i64)), .t (.v (.int .i64))], [4, 8, 9, 29, 30, 31, 32, 33, 34, 35, 36, 37, 38, 39, 40, 41, 42, 43, 44, 45, 46, 47, 48, 49, 50, 51, 52], fun e => Ex.rec (motive := fun _ => List Nat) [] (fun i => [6, 7]) [4] e, fun e => Ex.rec (motive := fun _ => List VT) [] (fun i => [.t (.v (.str)), .t (.v (.str))]) [.t (.v (.bool))] e⟩
noncomputable abbrev S3_19 : LS := ⟨95, [10, 12, 74, 75], [.t (.v (.sl (.cons .str (.one .str)))), .t (.v (.sl (.cons .str (.one .str)))), .t (.v (.int .i64)), .t (.v (.int .i64))], [4, 14, 76, 77, 78, 79, 80, 81, 82, 83, 84, 85, 86, 87], fun e => Ex.rec (motive := fun _ => List Nat) [] (fun i => [10]) [4] e, fun e => Ex.rec (motive := fun _ => List VT) [] (fun i => [.t (.v (.sl (.cons .str (.one .str))))]) [.t (.v (.bool))] e⟩
noncomputable def cc (x y : List UInt8) : Bool := decide (x.length + y.length ≤ 9223372036854775807)
theorem cc_t {x y : List UInt8} {n m : Nat} (h1 : x.length ≤ n) (h2 : y.length ≤ m) (h : n + m ≤ 1000000) : cc x y = true := by
  unfold cc; rw [decide_eq_true_eq]; omega
/-- One text more, and the same with blanks around. -/
noncomputable def bkA (s : Bool) (a o : List UInt8) : List UInt8 := bif s then a ++ [59] ++ o else a ++ o
noncomputable def bkB (bl : List UInt8) (s : Bool) (b o : List UInt8) : List UInt8 := bif s then b ++ [59] ++ bl ++ o ++ bl else b ++ bl ++ o ++ bl
noncomputable def joA : List (List UInt8) → Bool → List UInt8 → List UInt8
  | [], _, a => a
  | o :: r, s, a => joA r true (bkA s a o)
noncomputable def joB (bl : List UInt8) : List (List UInt8) → Bool → List UInt8 → List UInt8
  | [], _, b => b
  | o :: r, s, b => joB bl r true (bkB bl s b o)
noncomputable def lng : List (List UInt8) → Bool
  | [] => false
  | o :: r => bif decide ((o.length : Int) > 60) then true else lng r
noncomputable def T36 (bl a b : List UInt8) (L : List (List UInt8)) (n i : Int) : DT (LRes S3_6) :=
  .br (decide (i < n)) (gd [ixB i L.length] (.br (decide (((L.getD i.toNat []).length : Int) > 60)) (.lf (.out .ret (true, ()))) (.br (decide (i > 0))
    (gd [cc a [59], cc b [59], cc (a ++ [59]) (L.getD i.toNat []), cc (b ++ [59]) bl, cc (b ++ [59] ++ bl) (L.getD i.toNat []), cc (b ++ [59] ++ bl ++ L.getD i.toNat []) bl] (.lf (.cont (bl, a ++ [59] ++ L.getD i.toNat [], b ++ [59] ++ bl ++ L.getD i.toNat [] ++ bl, L, n, w64 (i + 1), ()))))
    (gd [cc a (L.getD i.toNat []), cc b bl, cc (b ++ bl) (L.getD i.toNat []), cc (b ++ bl ++ L.getD i.toNat []) bl] (.lf (.cont (bl, a ++ L.getD i.toNat [], b ++ bl ++ L.getD i.toNat [] ++ bl, L, n, w64 (i + 1), ()))))))) (.lf (.out (.exit 0) (a, b, ())))
theorem run36 (bl a b : List UInt8) (L : List (List UInt8)) (n i : Int) : runL Tryz.prog (syL kt14 lt8 xt6) Moz.tb 1000 30 3 S3_6 (loopOf Tryz.f3 6) (bl, a, b, L, n, i, ()) = (T36 bl a b L n i).run canonL := by kernel_rfl
noncomputable def st36 (bl a b : List UInt8) (L : List (List UInt8)) (n i : Int) : Option (LRes S3_6) :=
  if 0 ≤ i ∧ n = (L.length : Nat) ∧ L.length ≤ 45 ∧ bl.length ≤ 10 ∧ a.length ≤ 61 * i.toNat ∧ b.length ≤ 81 * i.toNat then
    some (bif decide (i < n) then (bif decide (((L.getD i.toNat []).length : Int) > 60) then .out .ret (true, ()) else .cont (bl, bkA (decide (i > 0)) a (L.getD i.toNat []), bkB bl (decide (i > 0)) b (L.getD i.toNat []), L, n, i + 1, ())) else .out (.exit 0) (a, b, ())) else none
theorem v36 (bl a b : List UInt8) (L : List (List UInt8)) (n i : Int) (r : LRes S3_6) (hr : st36 bl a b L n i = some r) : (T36 bl a b L n i).val = some r := by
  unfold st36 at hr
  split at hr
  · rename_i h
    obtain ⟨h0, rfl, h2, h3, h4, h5⟩ := h
    rw [← hr]
    unfold T36
    simp only [DT.val]
    by_cases hi : i < ((L.length : Nat) : Int)
    · rw [decide_eq_true hi]
      simp only [cond_true]
      rw [gd_val, w_id (x := i + 1) (by omega) (by omega)]
      · simp only [DT.val]
        generalize L.getD i.toNat [] = o
        by_cases ho : (o.length : Int) > 60
        · rw [decide_eq_true ho]; rfl
        rw [decide_eq_false ho]
        have h6 : i.toNat ≤ 44 := by omega
        by_cases hz : i > 0
        · rw [decide_eq_true hz]
          simp only [cond_true, cond_false]
          rw [gd_val]
          · rfl
          · intro c hc
            simp only [List.mem_cons, List.not_mem_nil, or_false] at hc
            rcases hc with rfl | rfl | rfl | rfl | rfl | rfl <;> (unfold cc; rw [decide_eq_true_eq]; first | omega | (simp only [List.length_append, List.length_cons, List.length_nil]; omega))
        · rw [decide_eq_false hz]
          simp only [cond_true, cond_false]
          rw [gd_val]
          · rfl
          · intro c hc
            simp only [List.mem_cons, List.not_mem_nil, or_false] at hc
            rcases hc with rfl | rfl | rfl | rfl <;> (unfold cc; rw [decide_eq_true_eq]; first | omega | (simp only [List.length_append, List.length_cons, List.length_nil]; omega))
      · intro c hc
        simp only [List.mem_cons, List.not_mem_nil, or_false, or_self] at hc
        subst hc
        simp only [ixB, decide_eq_true_eq]; omega
    · rw [decide_eq_false hi]
      rfl
  · cases hr
noncomputable def st3_6 (v : VD S3_6.vs) : Option (LRes S3_6) := st36 v.1 v.2.1 v.2.2.1 v.2.2.2.1 v.2.2.2.2.1 v.2.2.2.2.2.1
noncomputable def res36 (bl : List UInt8) (r : List (List UInt8)) (s : Bool) (a b : List UInt8) : Sigma fun e => VD (S3_6.oV e) := bif lng r then ⟨.ret, (true, ())⟩ else ⟨.exit 0, (joA r s a, joB bl r s b, ())⟩
theorem it36 (bl : List UInt8) (L : List (List UInt8)) (hs : L.length ≤ 45) (hb : bl.length ≤ 10) : ∀ (j k : Nat) (a b : List UInt8), k + j = L.length → a.length ≤ 61 * k → b.length ≤ 81 * k → iterL st3_6 (j + 1) (bl, a, b, L, (L.length : Nat), (k : Int), ()) = some (res36 bl (L.drop k) (decide ((k : Int) > 0)) a b)
  | 0, k, a, b, hk, h1, h2 => by
    have e0 : st36 bl a b L (L.length : Nat) (k : Int) = some (.out (.exit 0) (a, b, ())) := by
      unfold st36
      rw [if_pos ⟨by omega, rfl, hs, hb, by simpa using h1, by simpa using h2⟩, decide_eq_false (by omega)]
      rfl
    rw [iterL_out (S := S3_6) (step := st3_6) (v := (bl, a, b, L, (L.length : Nat), (k : Int), ())) (e := .exit 0) (o := (a, b, ())) e0, List.drop_eq_nil_of_le (by omega)]
    rfl
  | j + 1, k, a, b, hk, h1, h2 => by
    have hkl : k < L.length := by omega
    have ed : L.drop k = L.getD k [] :: L.drop (k + 1) := by
      rw [List.drop_eq_getElem_cons hkl]
      simp [List.getD, hkl]
    have hkk : ((k : Int)).toNat = k := rfl
    rw [ed]
    have e9 : st36 bl a b L (L.length : Nat) (k : Int) = some (bif decide (((L.getD k []).length : Int) > 60) then .out .ret (true, ()) else .cont (bl, bkA (decide ((k : Int) > 0)) a (L.getD k []), bkB bl (decide ((k : Int) > 0)) b (L.getD k []), L, (L.length : Nat), (k : Int) + 1, ())) := by
      unfold st36
      rw [if_pos ⟨by omega, rfl, hs, hb, by simpa using h1, by simpa using h2⟩, decide_eq_true (by omega), hkk]
      rfl
    generalize L.getD k [] = o at *
    by_cases ho : (o.length : Int) > 60
    · rw [decide_eq_true ho] at e9
      rw [iterL_out (S := S3_6) (step := st3_6) (v := (bl, a, b, L, (L.length : Nat), (k : Int), ())) (e := .ret) (o := (true, ())) e9]
      unfold res36 lng
      rw [decide_eq_true ho]
      rfl
    · rw [decide_eq_false ho] at e9
      rw [iterL_cont (S := S3_6) (step := st3_6) (v := (bl, a, b, L, (L.length : Nat), (k : Int), ())) e9]
      have ih := it36 bl L hs hb j (k + 1) (bkA (decide ((k : Int) > 0)) a o) (bkB bl (decide ((k : Int) > 0)) b o) (by omega)
        (by unfold bkA; cases decide ((k : Int) > 0) <;> simp <;> omega) (by unfold bkB; cases decide ((k : Int) > 0) <;> simp <;> omega)
      refine Eq.trans ih ?_
      unfold res36
      rw [show lng (o :: L.drop (k + 1)) = lng (L.drop (k + 1)) by rw [lng, decide_eq_false ho]; rfl, decide_eq_true (show ((k + 1 : Nat) : Int) > 0 by omega)]
      rfl
noncomputable def ok36 (bl a b : List UInt8) (L : List (List UInt8)) (n i : Int) : Bool := decide (i = 0 ∧ a = [] ∧ b = [] ∧ n = (L.length : Nat) ∧ L.length ≤ 45 ∧ bl.length ≤ 10)
noncomputable def G36 (bl a b : List UInt8) (L : List (List UInt8)) (n i : Int) : DT (Sigma fun e => VD (S3_6.oV e)) := .br (ok36 bl a b L n i) (.br (lng L) (.lf ⟨.ret, (true, ())⟩) (.lf ⟨.exit 0, (joA L false [], joB bl L false [], ())⟩)) .no
noncomputable def G3_6 (v : VD S3_6.vs) : DT (Sigma fun e => VD (S3_6.oV e)) := G36 v.1 v.2.1 v.2.2.1 v.2.2.2.1 v.2.2.2.2.1 v.2.2.2.2.2.1
theorem g36 (bl a b : List UInt8) (L : List (List UInt8)) (n i : Int) (r : Sigma fun e => VD (S3_6.oV e)) (hr : (G36 bl a b L n i).val = some r) : ∃ k, iterL st3_6 k (bl, a, b, L, n, i, ()) = some r := by
  unfold G36 at hr
  simp only [DT.val] at hr
  cases h : ok36 bl a b L n i with
  | false => rw [h] at hr; cases hr
  | true =>
    rw [h] at hr
    obtain ⟨rfl, rfl, rfl, rfl, h4, h5⟩ : i = 0 ∧ a = [] ∧ b = [] ∧ n = (L.length : Nat) ∧ L.length ≤ 45 ∧ bl.length ≤ 10 := by simpa [ok36] using h
    refine ⟨L.length + 1, ?_⟩
    refine Eq.trans (it36 bl L h4 h5 L.length 0 [] [] (by omega) (by simp) (by simp)) ?_
    rw [← hr, List.drop_zero]
    unfold res36
    cases lng L <;> rfl
theorem hso36 : ∀ e, Nat.ble (szV (S3_6.oV e)) 1000000 = true := fun e => by cases e <;> rfl
theorem lp3_6 : (LCon.of S3_6 st3_6 G3_6).Ok Tryz.prog Q 3 6 := loop_ok t26 (fn := Tryz.f3) (by kernel_rfl) (by kernel_rfl) (by kernel_rfl) (by kernel_rfl) rfl rfl hso36
  (fun v r hr => by
    obtain ⟨bl, a, b, L, n, i, u⟩ := v
    exact ⟨T36 bl a b L n i, run36 bl a b L n i, v36 bl a b L n i r hr⟩)
  (fun v r hr => g36 v.1 v.2.1 v.2.2.1 v.2.2.2.1 v.2.2.2.2.1 v.2.2.2.2.2.1 r hr)
/-! The second loop: two lists that are one. -/
noncomputable def st39 (l m : List Ord) (n i : Int) : Option (LRes S3_19) := if 0 ≤ i ∧ l = m ∧ n = (l.length : Nat) ∧ l.length < 1073741824 then
    some (bif decide (i < n) then .cont (l, m, n, i + 1, ()) else .out (.exit 2) (l, ())) else none
noncomputable def T39 (l m : List Ord) (n i : Int) : DT (LRes S3_19) := .br (decide (i < n)) (gd [ixB i l.length, ixB i m.length] (.br (!eq2 (l.getD i.toNat ([], [])) (m.getD i.toNat ([], []))) (.lf (.out .ret (false, ()))) (.lf (.cont (l, m, n, w64 (i + 1), ()))))) (.lf (.out (.exit 2) (l, ())))
theorem v39 (l m : List Ord) (n i : Int) (r : LRes S3_19) (hr : st39 l m n i = some r) : (T39 l m n i).val = some r := by
  unfold st39 at hr
  split at hr
  · rename_i h
    obtain ⟨h0, rfl, rfl, h2⟩ := h
    rw [← hr]
    unfold T39
    simp only [DT.val]
    by_cases hi : i < ((l.length : Nat) : Int)
    · rw [decide_eq_true hi]
      simp only [cond_true]
      rw [gd_val, w_id (x := i + 1) (by omega) (by omega)]
      · simp only [DT.val, eq2_self]
        rfl
      · intro c hc
        simp only [List.mem_cons, List.not_mem_nil, or_false, or_self] at hc
        subst hc
        simp only [ixB, decide_eq_true_eq]; omega
    · rw [decide_eq_false hi]
      rfl
  · cases hr
noncomputable def st3_19 (v : VD S3_19.vs) : Option (LRes S3_19) := st39 v.1 v.2.1 v.2.2.1 v.2.2.2.1
theorem run39 (l m : List Ord) (n i : Int) : runL Tryz.prog (syL kt14 lt8 xt6) Moz.tb 1000 30 3 S3_19 (loopOf Tryz.f3 19) (l, m, n, i, ()) = (T39 l m n i).run canonL := by kernel_rfl
theorem it39 (l : List Ord) (hs : l.length < 1073741824) : ∀ (j k : Nat), k + j = l.length → iterL st3_19 (j + 1) (l, l, (l.length : Nat), (k : Int), ()) = some ⟨.exit 2, (l, ())⟩
  | 0, k, hk => by
    have e0 : st39 l l (l.length : Nat) (k : Int) = some (.out (.exit 2) (l, ())) := by
      unfold st39
      rw [if_pos ⟨by omega, rfl, rfl, hs⟩, decide_eq_false (by omega)]
      rfl
    exact iterL_out (S := S3_19) (step := st3_19) (v := (l, l, (l.length : Nat), (k : Int), ())) (e := .exit 2) (o := (l, ())) e0
  | j + 1, k, hk => by
    have e0 : st39 l l (l.length : Nat) (k : Int) = some (.cont (l, l, (l.length : Nat), ((k + 1 : Nat) : Int), ())) := by
      unfold st39
      rw [if_pos ⟨by omega, rfl, rfl, hs⟩, decide_eq_true (by omega)]
      rfl
    rw [iterL_cont (S := S3_19) (step := st3_19) (v := (l, l, (l.length : Nat), (k : Int), ())) e0]
    exact it39 l hs j (k + 1) (by omega)
noncomputable def G39 (l m : List Ord) (n i : Int) : DT (Sigma fun e => VD (S3_19.oV e)) := .br (okL l m n i) (.lf ⟨.exit 2, (l, ())⟩) .no
noncomputable def G3_19 (v : VD S3_19.vs) : DT (Sigma fun e => VD (S3_19.oV e)) := G39 v.1 v.2.1 v.2.2.1 v.2.2.2.1
theorem g39 (l m : List Ord) (n i : Int) (r : Sigma fun e => VD (S3_19.oV e)) (hr : (G39 l m n i).val = some r) : ∃ k, iterL st3_19 k (l, m, n, i, ()) = some r := by
  unfold G39 at hr
  simp only [DT.val] at hr
  cases h : okL l m n i with
  | false => rw [h] at hr; cases hr
  | true =>
    rw [h] at hr
    cases hr
    obtain ⟨rfl, rfl, rfl, h4⟩ : i = 0 ∧ l = m ∧ n = (l.length : Nat) ∧ l.length < 1073741824 := by simpa [okL] using h
    exact ⟨l.length + 1, it39 l h4 l.length 0 (by omega)⟩
theorem hso39 : ∀ e, Nat.ble (szV (S3_19.oV e)) 1000000 = true := fun e => by cases e <;> rfl
theorem lp3_19 : (LCon.of S3_19 st3_19 G3_19).Ok Tryz.prog Q 3 19 := loop_ok t26 (fn := Tryz.f3) (by kernel_rfl) (by kernel_rfl) (by kernel_rfl) (by kernel_rfl) rfl rfl hso39
  (fun v r hr => by
    obtain ⟨l, m, n, i, u⟩ := v
    exact ⟨T39 l m n i, run39 l m n i, v39 l m n i r hr⟩)
  (fun v r hr => g39 v.1 v.2.1 v.2.2.1 v.2.2.2.1 r hr)
noncomputable def lt9 : Tr (List (Nat × LCon)) := Tr.put (some [(6, LCon.of S3_6 st3_6 G3_6), (19, LCon.of S3_19 st3_19 G3_19)]) 31 lt8 3
theorem t27 : TOk Tryz.prog Q kt14 lt9 xt6 := t26.addL (lp_one lp3_6 (lp_one lp3_19 lp_nil)) rfl
end Go.Proofs.YtbhjimflcfnpaaaGreatDoor.Sd

set_option linter.all false
/-! The law SchedBlanks. -/
namespace Go.Proofs.YtbhjimflcfnpaaaGreatDoor.Sd
open Go Go.Proofs Mo
noncomputable def bl10 (n : Int) : List UInt8 := cutL [32, 32, 32, 32, 32, 32, 32, 32, 32, 32] none (some (n.tmod 10))
noncomputable def tA (L : List (List UInt8)) : List UInt8 := joA L false []
noncomputable def tB (L : List (List UInt8)) (n : Int) : List UInt8 := joB (bl10 n) L false []
noncomputable def lenO (l : List Ord) : Int := (l.length : Nat)
noncomputable def lst3 (E : Int) : DT (AD [boo]) := .br (E == 0) (.lf (true, ())) (.lf (lenO [] == 0, ()))
noncomputable def both (a b : List UInt8) : DT (AD [boo]) :=
  .br (shB a) (.br ((prgP a).2 == 0)
    (.br (shB b) (.br ((prgP b).2 == 0)
      (.br (lenO (prgP a).1 != lenO (prgP b).1) ff (.br (okL (prgP a).1 (prgP b).1 (lenO (prgP a).1) 0) (.lf (true, ())) .no))
      (.br (0 != (prgP b).2) ff (.br (lenO (prgP a).1 != 0) ff (.br (okL (prgP a).1 [] (lenO (prgP a).1) 0) (.lf (true, ())) .no)))) .no)
    (.br (shB b) (.br ((prgP b).2 == 0)
      (.br ((prgP a).2 != 0) ff (.br (0 != lenO (prgP b).1) ff (.br (okL [] (prgP b).1 0 0) (lst3 (prgP a).2) .no)))
      (.br ((prgP a).2 != (prgP b).2) ff (lst3 (prgP a).2))) .no)) .no
noncomputable def T3 (L : List (List UInt8)) (n : Int) : DT (AD [boo]) :=
  .br (decide ((L.length : Int) > 45)) (.lf (true, ())) (.br (cutOk 10 none (some (n.tmod 10)) none) (.br (ok36 (bl10 n) [] [] L (L.length : Nat) 0) (.br (lng L) (.lf (true, ())) (both (tA L) (tB L n))) .no) .no)
theorem T3_run (L : List (List UInt8)) (n : Int) : run Tryz.prog (syL kt14 lt9 xt6) Moz.tb 1000 30 3 [.v (.sl (.one .str)), .v (.int .u8)] [boo] (L, n, ()) = (T3 L n).run (canon [boo]) := by kernel_rfl
theorem both_val {a b : List UInt8} (ha : shB a = true) (hb : shB b = true) (h : prgP a = prgP b) : (both a b).val = some (true, ()) := by
  unfold both
  simp only [DT.val]
  rw [ha, hb, ← h]
  simp only [cond_true]
  cases he : (prgP a).2 == 0 with
  | true =>
    obtain ⟨g1, g2⟩ := prg_len he
    simp only [cond_true, bne_self_eq_false, cond_false]
    have hk : okL (prgP a).1 (prgP a).1 (lenO (prgP a).1) 0 = true := by
      unfold okL lenO
      rw [decide_eq_true_eq]
      exact ⟨rfl, rfl, rfl, by omega⟩
    rw [hk]
    rfl
  | false =>
    simp only [cond_false, bne_self_eq_false]
    unfold lst3
    simp only [DT.val, he, cond_false]
    rfl
theorem bl10_eq {n : Int} (h0 : 0 ≤ n) : ∃ k, k ≤ 9 ∧ bl10 n = blk k ∧ 0 ≤ n.tmod 10 ∧ (n.tmod 10).toNat ≤ 10 := by
  have h1 : n.tmod 10 = n % 10 := Int.tmod_eq_emod_of_nonneg h0
  refine ⟨(n % 10).toNat, by omega, ?_, by omega, by omega⟩
  unfold bl10 cutL blk
  simp only
  rw [h1]
  show List.take (n % 10).toNat (List.replicate 10 32) = _
  rw [List.take_replicate]
  congr 1
  omega
theorem bl_o_bl (k : Nat) (o : List UInt8) : trs (blk k ++ o ++ blk k) = trs o := by rw [trs_sufN, trs_preN]
theorem jo_trs (k : Nat) : ∀ (r : List (List UInt8)) (s : Bool) (a b : List UInt8), trs a = trs b → (s = false → a = [] ∧ b = []) → trs (joA r s a) = trs (joB (blk k) r s b)
  | [], s, a, b, h, _ => h
  | o :: r, s, a, b, h, hs => by
    rw [joA, joB]
    refine jo_trs k r true _ _ ?_ (fun h => by cases h)
    cases s with
    | true =>
      show trs (a ++ [59] ++ o) = trs (b ++ [59] ++ blk k ++ o ++ blk k)
      rw [show a ++ [59] ++ o = a ++ 59 :: o by simp, show b ++ [59] ++ blk k ++ o ++ blk k = b ++ 59 :: (blk k ++ o ++ blk k) by simp, trs_cat, trs_cat, h, bl_o_bl]
    | false =>
      obtain ⟨rfl, rfl⟩ := hs rfl
      show trs ([] ++ o) = trs ([] ++ blk k ++ o ++ blk k)
      rw [List.nil_append, List.nil_append, bl_o_bl]
theorem joA_len : ∀ (r : List (List UInt8)) (s : Bool) (a : List UInt8), lng r = false → (joA r s a).length ≤ a.length + 61 * r.length
  | [], s, a, _ => by simp [joA]
  | o :: r, s, a, h => by
    rw [lng] at h
    by_cases ho : (o.length : Int) > 60
    · rw [decide_eq_true ho] at h; cases h
    rw [decide_eq_false ho] at h
    rw [joA]
    have ih := joA_len r true (bkA s a o) h
    have : (bkA s a o).length ≤ a.length + 61 := by unfold bkA; cases s <;> simp <;> omega
    rw [List.length_cons]
    omega
theorem joB_len (bl : List UInt8) (hb : bl.length ≤ 10) : ∀ (r : List (List UInt8)) (s : Bool) (a : List UInt8), lng r = false → (joB bl r s a).length ≤ a.length + 81 * r.length
  | [], s, a, _ => by simp [joB]
  | o :: r, s, a, h => by
    rw [lng] at h
    by_cases ho : (o.length : Int) > 60
    · rw [decide_eq_true ho] at h; cases h
    rw [decide_eq_false ho] at h
    rw [joB]
    have ih := joB_len bl hb r true (bkB bl s a o) h
    have : (bkB bl s a o).length ≤ a.length + 81 := by unfold bkB; cases s <;> simp <;> omega
    rw [List.length_cons]
    omega
theorem T3_val (L : List (List UInt8)) (n : Int) (h0 : 0 ≤ n) : (T3 L n).val = some (true, ()) := by
  unfold T3
  simp only [DT.val]
  by_cases h1 : (L.length : Int) > 45
  · rw [decide_eq_true h1]; rfl
  obtain ⟨k, hk, e, h2, h3⟩ := bl10_eq h0
  rw [decide_eq_false h1, show cutOk 10 none (some (n.tmod 10)) none = true by unfold cutOk; simp only; rw [decide_eq_true_eq]; exact ⟨h2, h3⟩]
  have hbl : (bl10 n).length ≤ 10 := by rw [e, blk, List.length_replicate]; omega
  rw [show ok36 (bl10 n) [] [] L (L.length : Nat) 0 = true by unfold ok36; rw [decide_eq_true_eq]; exact ⟨rfl, rfl, rfl, rfl, by omega, hbl⟩]
  simp only [cond_true, cond_false]
  cases hl : lng L with
  | true => rfl
  | false =>
    simp only [cond_false]
    have ha : (tA L).length ≤ 0 + 61 * L.length := joA_len L false [] hl
    have hb : (tB L n).length ≤ 0 + 81 * L.length := joB_len (bl10 n) hbl L false [] hl
    refine both_val (by simp only [shB, decide_eq_true_eq]; omega) (by simp only [shB, decide_eq_true_eq]; omega) (prg_trs ?_)
    unfold tA tB
    rw [e]
    exact jo_trs k L false [] [] rfl (fun _ => ⟨rfl, rfl⟩)
/-- THE LAW SchedBlanks, at all texts and every byte. -/
theorem blanks3_ok : (Con.mk [.v (.sl (.one .str)), .v (.int .u8)] [boo] (fun x => decide (0 ≤ x.2.1)) fun _ => (true, ())).Ok Tryz.prog Q 3 := con_at fun x hx => by
  obtain ⟨L, n, u⟩ := x
  exact at_ok t27 (T := T3 L n) rfl (T3_run L n) (T3_val L n (by simpa using hx))
#print axioms blanks3_ok
end Go.Proofs.YtbhjimflcfnpaaaGreatDoor.Sd

set_option linter.all false
set_option maxRecDepth 100000
/-! SchedBlanks, at what is read as texts and a byte. -/
namespace Go.Proofs.YtbhjimflcfnpaaaGreatDoor.Sd
open Go Go.Proofs Mo
theorem u8_has {W : World} {r : Reach} {base : Nat} {z : Int} (h : Value.okWide Tryz.prog W r base 5 (.int .u8 z)) : 0 ≤ z := by
  unfold Value.okWide at h
  rw [Tryz.underlying5] at h
  unfold Cell.okWide at h
  rw [Tryz.underlying5] at h
  unfold Cell.ok at h
  rw [Tryz.underlying5] at h
  exact h.2.1
theorem law3 {W : World} (hL : laidMet Tryz.prog Rows.schedRightRow.laid W) {u v : Value} {x : List (List UInt8)} {z : Int} (hx : (Ty.sl (.one .str)).Rd (pt0 W) x u) (hz : (AT.v (.int .u8)).Rd (pt0 W) z v ∧ 0 ≤ z) : Calls Tryz.prog 3 #[u, v] W fun e w' => e = .returned (.bool true) ∧ RowKit.Below W.heap.size W w' :=
  (blanks3_ok (pt0 W) W #[u, v] (x, z, ()) (true, ()) (qt0 hL) (pt0_ok W) ⟨hx, hz.1, trivial⟩ (by
    show Con.F _ _ = _
    unfold Con.F
    simp only
    rw [decide_eq_true hz.2])).mono fun e w' ⟨y, pr', h1, h2, _, _, _, h3⟩ => ⟨by rw [h1, bool_arg (show (AT.v .bool).Rd pr' true y from h3)], h2⟩
end Go.Proofs.YtbhjimflcfnpaaaGreatDoor.Sd


namespace Go.Proofs.YtbhjimflcfnpaaaGreatDoor.schedBlanks
open Go.ChangeShapes Go.WideShapes Go.ChangeAt Go.RowKit Mo Sd
set_option linter.unusedVariables false

theorem own : ownKnob Tryz.prog.godebug = none := by kernel_rfl
theorem laidOut : laidOutB Tryz.prog = true := by kernel_rfl

set_option maxRecDepth 100000 in
theorem lifted (os : Os) (started : os.Started) (H : Type) (enc : TypeId × Value → H) :
    ReturnsInHanded {} Tryz.checked os 3 .any (fun w args => (Rows.schedBlanksSpec.pre enc Tryz.prog Tryz.f3 Rows.schedBlanksRow.domain false w args ∧ laidMetH Tryz.prog Rows.schedBlanksRow.laid w) ∧ sizedMet enc Tryz.prog Tryz.f3 (OpenSpec.ofChange Rows.schedBlanksSpec) false w args)
      (Rows.schedBlanksSpec.post enc Tryz.prog Tryz.f3 false true false false) := by
  refine returnsInHanded_of_change_and (C := Tryz.checked) (X := fun w _ => laidMetH Tryz.prog Rows.schedBlanksRow.laid w) (fun _ _ _ hh h => h.of_heap hh) own started (by kernel_rfl) Tryz.func3
    (ChangeSpec.witness_shaped (enc := enc) (C := Tryz.checked) (os := os) (X := fun w _ => laidMetH Tryz.prog Rows.schedBlanksRow.laid w) false (World.laidAll Tryz.prog os Rows.schedBlanksRow.laid) #[.slice none 0 0, .int .u8 0] 8 (World.laidAll_os _ _ _)
      (World.shaped_of_ZipB (by kernel_rfl) (by kernel_rfl)) (by kernel_rfl) (by kernel_rfl) (by kernel_rfl)
      (by rw [MakeChecks.laidMetH_plain _ _ _ (by kernel_rfl)]; exact laidMet_laidAll _ (by kernel_rfl) (by kernel_rfl))) ?_
  intro W base args ds gs before hval0 hW hcnd _ hL _
  have hval : ∀ (j : Nat) t v, Tryz.f3.params[j]? = some t → args[j]? = some v → Value.okWide Tryz.prog W .any base t v := hval0
  have hW2 := hW
  obtain ⟨p, q, hA0, hV, rfl, hfz, hnd⟩ := hW
  have hA : DataW.TrodAll enc Tryz.prog W 0 (fun _ => true) true Tryz.f3.params.toList args.toList ds p := hA0
  rw [Tryz.params3] at hA hval
  obtain ⟨v0, vs0, d0, ds0, p0, q0, hargs, rfl, rfl, h0, r0⟩ := trodAll_cons hA
  obtain ⟨v1, vs1, d1, ds1, p1, q1, rfl, rfl, rfl, h1, r1⟩ := trodAll_cons r0
  obtain ⟨rfl, rfl, rfl⟩ := trodAll_nil r1
  obtain rfl : args = #[v0, v1] := by cases args; simp_all
  obtain ⟨rfl, rfl⟩ := trodVars_none hV
  have ok0 := hval 0 22 v0 rfl rfl
  obtain ⟨a0, len0, cap0, rfl⟩ := okWide_slice Tryz.underlying22 ok0
  have ok1 := hval 1 5 v1 rfl rfl
  obtain ⟨z1, rfl⟩ := okWide_int Tryz.underlying5 ok1
  have k0 := h0
  have k1 := h1
  have lt0 : ∀ x ∈ p0, x.block < W.heap.size := by obtain ⟨m, hm⟩ := k0; exact DataW.trod_lt m _ _ _ hm
  have lt1 : ∀ x ∈ p1, x.block < W.heap.size := by obtain ⟨m, hm⟩ := k1; exact DataW.trod_lt m _ _ _ hm
  obtain ⟨fuel0, g0⟩ := h0
  obtain ⟨x0, hx0⟩ := rd_strs (by unfold Value.okWide at ok0; rw [Tryz.underlying22] at ok0; exact ok0) g0
  obtain ⟨fuel1, g1⟩ := h1
  have hx1 : (AT.v (.int .u8)).Rd (pt0 W) z1 (.int .u8 z1) ∧ 0 ≤ z1 := ⟨int_rd (x := z1), u8_has ok1⟩
  clear hA0 hval0
  have hLd : laidMet Tryz.prog Rows.schedBlanksRow.laid W := by rw [← MakeChecks.laidMetH_plain _ _ _ (by kernel_rfl)]; exact hL
  refine (law3 hLd hx0 hx1).mono fun e W3 ⟨he, bel⟩ => ?_
  subst he
  exact ⟨_, rfl, _, _, _, [], _, [], hW2, trodAll_mk1 (shut_bool Tryz.underlying4 _), (trodAll_cons_mk (Below.trod laidOut (by kernel_rfl) (of_decide_eq_true (by kernel_rfl)) k0 bel lt0) (trodAll_cons_mk (Below.trod laidOut (by kernel_rfl) (of_decide_eq_true (by kernel_rfl)) k1 bel lt1) trodAll_mk0)), rfl, bel.frame _, fun h => by cases h⟩

theorem named : Tryz.pinned.checked.prog.funcNamed Rows.schedBlanksRow.func = some 3 := by kernel_rfl
theorem inst : (Tryz.f3).isInstance Tryz.prog Rows.schedBlanksRow.origin Rows.schedBlanksRow.targs := (of_decide_eq_true (by kernel_rfl))
theorem wrap : (Tryz.f3).isWrapper Tryz.prog Rows.schedBlanksRow.wrapper Rows.schedBlanksRow.mainSum := (by unfold Func.isWrapper; first | (rw [if_pos (by decide +kernel)]; kernel_rfl) | (rw [if_neg (by decide +kernel)]; exact ⟨rfl, rfl⟩))
theorem over : Rows.SchedBlanksSaid :=
  OpenClaim.holds_of_wide 3 Tryz.f3 rfl rfl rfl rfl rfl rfl rfl ⟨rfl, rfl, rfl, rfl, rfl⟩ rfl rfl rfl rfl rfl named Tryz.func3 jf3
    inst wrap
    (fun os started H enc _ => lifted os started H enc)
theorem still : (Tryz.pinned.checked.prog.funcs.any Func.goes) = false := by kernel_rfl
theorem goesBy_still {P : Program} {c : OpenClaim} (hs : c.start = .entering) (h : P.funcs.any Func.goes = false) : false = c.goesBy P := by
  have h0 : ∀ g, P.goes g = false := by
    intro g
    unfold Program.goes
    rw [h, Bool.and_false, Bool.or_false, List.any_eq_false]
    intro k _
    cases hk : P.funcs[k]? with
    | none => simp
    | some fn =>
      rw [Array.any_eq_false'] at h
      simpa using h fn (Array.mem_of_getElem? hk)
  unfold OpenClaim.goesBy Program.goesAt Program.goesFrom
  rw [hs]
  cases P.funcNamed c.func with
  | none => rfl
  | some g => simp [h0]
theorem goes : false = Rows.schedBlanksRow.goesBy Tryz.pinned.checked.prog := goesBy_still rfl still
theorem proved : Rows.SchedBlanksCardSaid :=
  Claim7.holds_tied_plain_at .later [] [.data, .data, .data, .data, .sentinel, .sentinel, .pinned, .pinned, .pinned, .pinned, .pinned, .pinned] true (true, "dda34d79712180ea3bc48905345507ad1562513cd6fd9382ec74165ffa23b5cf") true
    over (fun _ h => by cases h) (by as_aux_lemma => kernel_rfl) (fun _ h => by cases h) schedBlanks_row_tie rfl ⟨rfl, rfl⟩ (by as_aux_lemma => kernel_rfl) rfl
    (fun f fn hf hfn => by
      obtain rfl : f = 3 := Option.some.inj ((show Tryz.prog.funcNamed "caravel/caravellaw21.SchedBlanks" = some 3 by kernel_rfl).symm.trans hf) |>.symm
      obtain rfl : fn = Tryz.f3 := (Option.some.inj (Tryz.func3.symm.trans hfn)).symm
      exact ⟨(by as_aux_lemma => kernel_rfl), fun j t ht => by
        rw [Tryz.params3] at ht
        have hm : t ∈ [22, 5] := by simpa using Array.mem_of_getElem? ht
        have hall : ([22, 5].all fun u => !Tryz.prog.wantsStandIn u) = true := by kernel_rfl
        exact (show Tryz.prog.wantsStandIn t = false by simpa using List.all_eq_true.1 hall t hm)⟩)
    goes
#print axioms proved
end Go.Proofs.YtbhjimflcfnpaaaGreatDoor.schedBlanks

