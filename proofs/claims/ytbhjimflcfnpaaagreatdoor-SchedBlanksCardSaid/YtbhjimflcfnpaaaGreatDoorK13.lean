import Derived.Test.YtbhjimflcfnpaaaGreatDoorK12
import Derived.Lib.AtoiTie
import Derived.Lib.AtoiAllCases
import Derived.Test.YtbhjimflcfnpaaaGreatDoorRows
import Derived.Test.YtbhjimflcfnpaaaGreatDoorK10
import Derived.Stop.Joined
set_option linter.all false
set_option linter.all false
/-! The program's Parse, plainly. -/
namespace Go.Proofs.YtbhjimflcfnpaaaGreatDoor.Sd
open Go Go.Proofs Mo
noncomputable def goG (ok : List UInt8 → Bool) (od : List UInt8 → Ord) : List (List UInt8) → List Ord → List Ord × Int
  | [], L => (L, 0)
  | p :: r, L => bif !ok p then ([], 7) else bif (L.length : Int) == 40 then ([], 4) else goG ok od r (L ++ [od p])
noncomputable def okQ (t : List UInt8) : Bool := hasM wTab (wOf 32 t) && (bif fnd 32 t then getM false wTab (wOf 32 t) && fitB (wOf 32 t) (aOf 32 t) else !getM false wTab (wOf 32 t))
noncomputable def okP (p : List UInt8) : Bool := okQ (Lib.trimB p 32)
noncomputable def resV (x : List Ord × Int) : VD parR := bif x.2 == 0 then (some x.1, (0 : Int), ()) else (none, x.2, ())
theorem trimB_le (p : List UInt8) (c : UInt8) : (Lib.trimB p c).length ≤ p.length := by
  unfold Lib.trimB Lib.trimLeftB Lib.trimRightB
  refine Nat.le_trans (List.dropWhile_sublist _).length_le ?_
  rw [List.length_reverse]; refine Nat.le_trans (List.dropWhile_sublist _).length_le ?_; rw [List.length_reverse]; exact Nat.le_refl _
theorem atoi_bound {l : List UInt8} {v : Int} (h : Lib.atoiAll l = .ok v) : -9223372036854775808 ≤ v ∧ v ≤ 9223372036854775807 := by
  unfold Lib.atoiAll at h
  split at h
  · cases h
  · simp only at h
    split at h
    · cases h
    · cases h
    · split at h
      · cases h
      · split at h
        · cases h
        · cases h
          split <;> omega
theorem numA_in (a : List UInt8) : inI (numA a) = true := by
  unfold numA inI
  rw [decide_eq_true_eq]
  split
  · rename_i v h; exact atoi_bound h
  · unfold Lib.atoiSat
    split <;> omega
  · omega
theorem aOf_le (c : UInt8) (t : List UInt8) : (aOf c t).length ≤ t.length := by
  unfold aOf
  cases fnd c t with
  | false => simp
  | true =>
    show (t.drop _).length ≤ _
    rw [List.length_drop]
    omega
theorem dec_val {t : List UInt8} {k : DT (VD parR)} (h : shB t = true) : (dec t k).val = bif okQ t then k.val else some (none, (7 : Int), ()) := by
  have ha : shB (aOf 32 t) = true := by
    have := shB_lt h
    have := aOf_le 32 t
    simp only [shB, decide_eq_true_eq]; omega
  have h1 : (one1 [32] && shB t) = true := by rw [h]; rfl
  unfold dec okQ bad7
  simp only [DT.val, h1, ha, numA_in, cond_true]
  cases fnd 32 t <;> cases hasM wTab (wOf 32 t) <;> cases getM false wTab (wOf 32 t) <;> cases fitB (wOf 32 t) (aOf 32 t) <;> rfl
theorem okT1_val {p : List UInt8} {k : DT (VD parR)} (h : p.length < 1073741824) : (okT1 p k).val = bif okP p then k.val else some (none, (7 : Int), ()) := by
  have h1 : trmC.pre (p, [32], ()) = true := by
    show decide (p.length ≤ 9223372036854775807 ∧ (32 : UInt8).toNat < 128) = true
    rw [decide_eq_true_eq]
    exact ⟨by omega, by decide⟩
  show (bif trmC.pre (p, [32], ()) then (dec (Lib.trimB p 32) k).val else none) = _
  rw [h1]
  exact dec_val (by simp only [shB, decide_eq_true_eq]; have := trimB_le p 32; omega)
theorem node_val : ∀ (n : Nat) (s : List UInt8) (acc : List Ord), acc.length + n = 40 → s.length < 1073741824 → (node n s acc).val = some (resV (goG okP oAt (Pa.splitL s 59) acc))
  | 0, s, acc, ha, hs => by
    have hacc : ((acc.length : Int) == 40) = true := by rw [show acc.length = 40 by omega]; rfl
    unfold node
    simp only [DT.val]
    rcases index_cases s 59 with ⟨g1, g2⟩ | ⟨x, y, rfl, g2, g3⟩
    · have e : ix 59 s = -1 := g1
      rw [e, splitL_none g2, okT1_val hs]
      unfold goG
      rw [hacc]
      cases okP s <;> rfl
    · have e : ix 59 (x ++ 59 :: y) = (x.length : Nat) := g3
      have hl : (x ++ 59 :: y).length = x.length + (y.length + 1) := by simp
      have ep : part (x ++ 59 :: y) = x := by
        unfold part
        rw [e, w_id (by omega) (by omega)]
        show (x ++ 59 :: y).take (((x.length : Nat) : Int) + 0).toNat = x
        rw [show (((x.length : Nat) : Int) + 0).toNat = x.length by omega, List.take_left]
      have ec : cutOk (x ++ 59 :: y).length none (some (w64 (ix 59 (x ++ 59 :: y) + 0))) none = true := by
        rw [e, w_id (by omega) (by omega)]
        simp only [cutOk, decide_eq_true_eq, hl]; omega
      rw [ec, ep, e, decide_eq_false (by omega), splitL_some g2]
      simp only [cond_true, cond_false]
      rw [okT1_val (p := x) (by omega)]
      unfold goG
      rw [hacc]
      cases okP x <;> rfl
  | n + 1, s, acc, ha, hs => by
    have hacc : ((acc.length : Int) == 40) = false := by
      cases h : ((acc.length : Int) == 40) with
      | false => rfl
      | true => have : (acc.length : Int) = 40 := by simpa using h
                omega
    unfold node
    simp only [DT.val]
    rcases index_cases s 59 with ⟨g1, g2⟩ | ⟨x, y, rfl, g2, g3⟩
    · have e : ix 59 s = -1 := g1
      rw [e, splitL_none g2, okT1_val hs]
      unfold goG
      rw [hacc]
      cases okP s <;> rfl
    · have e : ix 59 (x ++ 59 :: y) = (x.length : Nat) := g3
      have hl : (x ++ 59 :: y).length = x.length + (y.length + 1) := by simp
      have ep : part (x ++ 59 :: y) = x := by
        unfold part
        rw [e, w_id (by omega) (by omega)]
        show (x ++ 59 :: y).take (((x.length : Nat) : Int) + 0).toNat = x
        rw [show (((x.length : Nat) : Int) + 0).toNat = x.length by omega, List.take_left]
      have er : rest (x ++ 59 :: y) = y := by
        unfold rest
        rw [e, w_id (by omega) (by omega)]
        show (x ++ 59 :: y).drop (((x.length : Nat) : Int) + 1).toNat = y
        rw [show (((x.length : Nat) : Int) + 1).toNat = x.length + 1 by omega, List.drop_append, List.drop_eq_nil_of_le (by omega)]
        simp
      have ec : cutOk (x ++ 59 :: y).length none (some (w64 (ix 59 (x ++ 59 :: y) + 0))) none = true := by
        rw [e, w_id (by omega) (by omega)]
        simp only [cutOk, decide_eq_true_eq, hl]; omega
      have ec2 : cutOk (x ++ 59 :: y).length (some (w64 (ix 59 (x ++ 59 :: y) + 1))) none none = true := by
        rw [e, w_id (by omega) (by omega)]
        simp only [cutOk, decide_eq_true_eq, hl]; omega
      rw [ec, ep, er, ec2, e, decide_eq_false (by omega), splitL_some g2]
      simp only [cond_true, cond_false]
      rw [okT1_val (p := x) (by omega)]
      simp only [cond_true, DT.val]
      rw [node_val n y (acc ++ [oAt x]) (by simp; omega) (by omega), goG, hacc]
      cases okP x <;> rfl
/-- What the program's Parse answers. -/
noncomputable def prgP (s : List UInt8) : List Ord × Int := goG okP oAt (Pa.splitL s 59) []
noncomputable def D7 (s : List UInt8) : DT (VD parR) := .br (shB s) (.br ((prgP s).2 == 0) (.lf (some (prgP s).1, (0 : Int), ())) (.lf (none, (prgP s).2, ()))) .no
noncomputable abbrev prgC : VCon := ⟨[str], parR, fun x => D7 x.1⟩
theorem D7_val (s : List UInt8) (h : shB s = true) : (D7 s).val = some (resV (prgP s)) := by
  unfold D7 resV
  simp only [DT.val, h, cond_true]
  cases h2 : (prgP s).2 == 0 <;> rfl
theorem prg7_ok : prgC.Ok Tryz.prog Q 7 := vt_ok t17 rfl fun x r hr => by
  obtain ⟨s, u⟩ := x
  have hr' : (D7 s).val = some r := hr
  cases h : shB s with
  | false => unfold D7 at hr'; simp only [DT.val, h, cond_false] at hr'; cases hr'
  | true =>
    refine ⟨node 40 s [], run7 s, ?_⟩
    rw [node_val 40 s [] rfl (shB_lt h), ← hr', D7_val s h]
    rfl
noncomputable def xt6 : Tr CallC := Tr.put (some prgC.call) 31 xt5 7
theorem t18 : TOk Tryz.prog Q kt8 lt6 (Tr.put (some prgC.call) 31 xt5 7) := t17.addX (VCon.xok Qm prg7_ok) rfl
end Go.Proofs.YtbhjimflcfnpaaaGreatDoor.Sd

set_option linter.all false
/-! Both Parse are one: trims, words. -/
namespace Go.Proofs.YtbhjimflcfnpaaaGreatDoor.Sd
open Go Go.Proofs Mo
section
variable {α : Type} (p : α → Bool)
def trR (l : List α) : List α := (l.reverse.dropWhile p).reverse
theorem dropWhile_all : ∀ {l : List α}, l.all p = true → l.dropWhile p = []
  | [], _ => rfl
  | b :: t, h => by
    simp only [List.all_cons, Bool.and_eq_true] at h
    rw [List.dropWhile_cons_of_pos h.1, dropWhile_all h.2]
theorem dropWhile_app : ∀ {l r : List α}, l.all p = false → (l ++ r).dropWhile p = l.dropWhile p ++ r
  | [], _, h => by simp at h
  | b :: t, r, h => by
    cases hb : p b with
    | true =>
      have ht : t.all p = false := by simpa [hb] using h
      rw [List.cons_append, List.dropWhile_cons_of_pos hb, List.dropWhile_cons_of_pos hb, dropWhile_app ht]
    | false => rw [List.cons_append, List.dropWhile_cons_of_neg (by simp [hb]), List.dropWhile_cons_of_neg (by simp [hb])]; rfl
theorem all_rev (l : List α) : l.reverse.all p = l.all p := List.all_reverse
theorem trR_all {l : List α} (h : l.all p = true) : trR p l = [] := by
  unfold trR
  rw [dropWhile_all p (by rw [all_rev]; exact h)]
  rfl
theorem trR_cons {b : α} {t : List α} (h : t.all p = false) : trR p (b :: t) = b :: trR p t := by
  unfold trR
  rw [List.reverse_cons, dropWhile_app p (by rw [all_rev]; exact h), List.reverse_append]
  rfl
theorem trR_one {b : α} {t : List α} (hb : p b = false) (h : t.all p = true) : trR p (b :: t) = [b] := by
  have key : ∀ (l : List α), l.all p = true → (l ++ [b]).dropWhile p = [b] := by
    intro l hl
    induction l with
    | nil => exact List.dropWhile_cons_of_neg (by simp [hb])
    | cons a l ih =>
      simp only [List.all_cons, Bool.and_eq_true] at hl
      rw [List.cons_append, List.dropWhile_cons_of_pos hl.1, ih hl.2]
  unfold trR
  rw [List.reverse_cons, key _ (by rw [all_rev]; exact h)]
  rfl
theorem trims_comm : ∀ l : List α, (trR p l).dropWhile p = trR p (l.dropWhile p)
  | [] => rfl
  | b :: t => by
    cases hb : p b with
    | true =>
      rw [List.dropWhile_cons_of_pos hb]
      cases ht : t.all p with
      | true =>
        rw [trR_all p (l := b :: t) (by simp [hb, ht]), dropWhile_all p ht]
        rfl
      | false => rw [trR_cons p ht, List.dropWhile_cons_of_pos hb, trims_comm t]
    | false =>
      rw [List.dropWhile_cons_of_neg (by simp [hb])]
      cases ht : t.all p with
      | true => rw [trR_one p hb ht]; exact List.dropWhile_cons_of_neg (by simp [hb])
      | false => rw [trR_cons p ht]; exact List.dropWhile_cons_of_neg (by simp [hb])
end
theorem c32_eq (b : UInt8) : c32 b = (b == 32) := by
  unfold c32
  have : ((b.toNat : Int) = 32) ↔ b = 32 := ⟨fun h => UInt8.toNat_inj.1 (show b.toNat = 32 by omega), fun h => by rw [h]; rfl⟩
  rw [Bool.eq_iff_iff]
  simp [this]
theorem trim_eq (s : List UInt8) : Lib.trimB s 32 = trmF s := by
  have e : c32 = (fun b => b == (32 : UInt8)) := funext c32_eq
  show Lib.trimLeftB (Lib.trimRightB s 32) 32 = trimR (trimL s)
  unfold Lib.trimLeftB Lib.trimRightB trimR trimL
  rw [e]
  exact trims_comm (fun b => b == (32 : UInt8)) s
/-! ### Words -/
theorem n32_eq (b : UInt8) : n32 b = !(b == 32) := by
  have h := c32_eq b
  unfold c32 at h
  unfold n32
  rw [← h]
  rfl
theorem tw_all {t : List UInt8} (h : t.all (fun b => !(b == 32)) = true) : t.takeWhile n32 = t := by
  induction t with
  | nil => rfl
  | cons a t ih =>
    simp only [List.all_cons, Bool.and_eq_true] at h
    rw [List.takeWhile_cons_of_pos (by rw [n32_eq]; exact h.1), ih h.2]
theorem tw_app {x y : List UInt8} (h : x.all (fun b => !(b == 32)) = true) : (x ++ 32 :: y).takeWhile n32 = x := by
  induction x with
  | nil => exact List.takeWhile_cons_of_neg (by rw [n32_eq]; decide)
  | cons a x ih =>
    simp only [List.all_cons, Bool.and_eq_true] at h
    rw [List.cons_append, List.takeWhile_cons_of_pos (by rw [n32_eq]; exact h.1), ih h.2]
/-- What the program cuts, and what the document does. -/
theorem cut_cases (t : List UInt8) (hs : t.length < 1073741824) : (fnd 32 t = false ∧ wOf 32 t = t ∧ aOf 32 t = [] ∧ ordR t = ((t, []), oneB t)) ∨
    (∃ x y, fnd 32 t = true ∧ wOf 32 t = x ∧ aOf 32 t = y ∧ ordR t = ((x, y), argB x y) ∧ y.length < t.length) := by
  rcases index_cases t 32 with ⟨g1, g2⟩ | ⟨x, y, rfl, g2, g3⟩
  · have e : ix 32 t = -1 := g1
    have hf : fnd 32 t = false := by unfold fnd; rw [e]; rfl
    refine .inl ⟨hf, by unfold wOf; rw [hf]; rfl, by unfold aOf; rw [hf]; rfl, ?_⟩
    unfold ordR wdL
    rw [tw_all g2]
    simp
  · have e : ix 32 (x ++ 32 :: y) = (x.length : Nat) := g3
    have hl : (x ++ 32 :: y).length = x.length + (y.length + 1) := by simp
    have hf : fnd 32 (x ++ 32 :: y) = true := by unfold fnd; rw [e, decide_eq_true_eq]; omega
    refine .inr ⟨x, y, hf, ?_, ?_, ?_, by omega⟩
    · unfold wOf
      rw [hf, e]
      show (x ++ 32 :: y).take ((x.length : Nat) : Int).toNat = x
      rw [Int.toNat_natCast, List.take_left]
    · unfold aOf
      rw [hf, e, w_id (by omega) (by omega)]
      show (x ++ 32 :: y).drop (((x.length : Nat) : Int) + 1).toNat = y
      rw [show (((x.length : Nat) : Int) + 1).toNat = x.length + 1 by omega, List.drop_append, List.drop_eq_nil_of_le (by omega)]
      simp
    · unfold ordR wdL
      rw [tw_app g2]
      have hne : (((x.length : Nat) : Int) == ((x ++ 32 :: y).length : Int)) = false := by
        rw [hl]
        simp
        omega
      have hd : (x ++ 32 :: y).drop (x.length + 1) = y := by
        rw [List.drop_append, List.drop_eq_nil_of_le (by omega)]
        simp
      rw [hne, hd]
      rfl
theorem one_eq (t : List UInt8) : (hasM wTab t && !getM false wTab t) = oneB t := by
  by_cases h1 : t = [108, 105, 115, 116, 101, 110]
  · subst h1; rfl
  by_cases h2 : t = [97, 99, 99, 101, 112, 116]
  · subst h2; rfl
  by_cases h3 : t = [99, 111, 110, 110, 101, 99, 116]
  · subst h3; rfl
  by_cases h4 : t = [114, 101, 97, 100]
  · subst h4; rfl
  by_cases h5 : t = [119, 114, 105, 116, 101]
  · subst h5; rfl
  by_cases h6 : t = [101, 99, 104, 111]
  · subst h6; rfl
  by_cases h7 : t = [107, 101, 101, 112]
  · subst h7; rfl
  by_cases h8 : t = [115, 104, 111, 119]
  · subst h8; rfl
  by_cases h9 : t = [99, 108, 111, 115, 101]
  · subst h9; rfl
  by_cases h10 : t = [108, 111, 111, 112]
  · subst h10; rfl
  unfold oneB wTab hasM hasM hasM hasM hasM hasM hasM hasM hasM hasM hasM
  simp only [beq_eq_false_iff_ne.2 h1, beq_eq_false_iff_ne.2 h2, beq_eq_false_iff_ne.2 h3, beq_eq_false_iff_ne.2 h4, beq_eq_false_iff_ne.2 h5, beq_eq_false_iff_ne.2 h6, beq_eq_false_iff_ne.2 h7, beq_eq_false_iff_ne.2 h8, beq_eq_false_iff_ne.2 h9, beq_eq_false_iff_ne.2 h10]
  rfl
end Go.Proofs.YtbhjimflcfnpaaaGreatDoor.Sd

set_option linter.all false
/-! Both Parse are one: numbers. -/
namespace Go.Proofs.YtbhjimflcfnpaaaGreatDoor.Sd
open Go Go.Proofs Mo
theorem dig48 {d : Nat} (hd : d < 10) : dig (UInt8.ofNat (48 + d)) = d := by
  have e := Pa.of48 hd
  unfold dig
  rw [e, IntKind.wrap_u8]
  omega
theorem numGo_dec : ∀ (k n : Nat), n < k → ∀ l : List UInt8, numGo (Lib.decDigits n ++ l) 0 = numGo l (n : Int)
  | 0, n, h, l => by omega
  | k + 1, n, h, l => by
    rw [Lib.decDigits]
    split
    · rename_i h1
      show numGo l (10 * 0 + dig (UInt8.ofNat (48 + n))) = _
      rw [dig48 h1]
      congr 1; omega
    · rename_i h1
      rw [List.append_assoc, numGo_dec k (n / 10) (by omega)]
      show numGo l (10 * ((n / 10 : Nat) : Int) + dig (UInt8.ofNat (48 + n % 10))) = _
      rw [dig48 (by omega)]
      congr 1; omega
theorem numGo_dd (n : Nat) : numGo (Lib.decDigits n) 0 = n := by
  have := numGo_dec _ n (Nat.lt_succ_self _) []
  rw [List.append_nil] at this
  rw [this]; rfl
theorem digitVal48 {d : Nat} (hd : d < 10) : Lib.digitVal (UInt8.ofNat (48 + d)) = some d := by
  have e := Pa.of48 hd
  unfold Lib.digitVal
  simp only [e]
  first
    | (rw [if_pos (by omega)]; congr 1; omega)
    | (simp; omega)
theorem decFrom_dec : ∀ (k n : Nat), n < k → ∀ l : List UInt8, Lib.decFrom 0 (Lib.decDigits n ++ l) = Lib.decFrom n l
  | 0, n, h, l => by omega
  | k + 1, n, h, l => by
    rw [Lib.decDigits]
    split
    · rename_i h1
      have e := Pa.of48 h1
      rw [List.cons_append, List.nil_append, Lib.decFrom, digitVal48 h1]
      show Lib.decFrom (0 * 10 + n) l = _
      congr 1
      omega
    · rename_i h1
      rw [List.append_assoc, decFrom_dec k (n / 10) (by omega), List.cons_append, List.nil_append, Lib.decFrom, digitVal48 (by omega)]
      show Lib.decFrom (n / 10 * 10 + n % 10) l = _
      congr 1
      omega
theorem atoi_dec (n : Nat) (h : n < 100000) : Lib.atoiAll (Lib.decDigits n) = .ok (n : Int) := by
  have hl : (Lib.decDigits n).length ≤ 5 := Pa.dd_lenN 4 n (by omega)
  have hd := decFrom_dec _ n (Nat.lt_succ_self _) []
  rw [List.append_nil] at hd
  cases hc : Lib.decDigits n with
  | nil => exact absurd hc (Pa.dec_ne n)
  | cons c r =>
    have hc1 : Pa.isDig c := Pa.dec_dig _ n (Nat.lt_succ_self _) c (by rw [hc]; exact List.mem_cons_self ..)
    rw [Lib.atoiAll_plain c r (by unfold Pa.isDig at hc1; omega) (by unfold Pa.isDig at hc1; omega), ← hc, Lib.signless_short (by omega)]
    have hn : Lib.decNat (Lib.decDigits n) = some n := by
      unfold Lib.decNat
      rw [if_neg (by rw [hc]; exact Bool.false_ne_true), hd]
      rfl
    rw [hn]
    rfl
theorem itoa_dec {n : Int} (h : 0 ≤ n) : Lib.itoa n = Lib.decDigits n.toNat := by
  have := Lib.itoa_nonneg n.toNat
  rw [show ((n.toNat : Nat) : Int) = n by omega] at this
  exact this
/-- What stands behind listen, read, loop. -/
theorem num_eq (a : List UInt8) (le mo : Int) (h0 : 0 ≤ le) (h1 : mo < 100000) : (okA a && (Lib.itoa (numA a) == a && (decide (numA a ≥ le) && decide (numA a ≤ mo)))) = numD a le mo := by
  rw [Bool.eq_iff_iff]
  unfold numD
  simp only [Bool.and_eq_true, beq_iff_eq, decide_eq_true_eq]
  constructor
  · rintro ⟨g1, g2, g3, g4⟩
    have e : a = Lib.decDigits (numA a).toNat := by rw [← itoa_dec (by omega), g2]
    have hl : a.length ≤ 5 := by rw [e]; exact Pa.dd_lenN 4 _ (by omega)
    have ht : numGo (a.take 6) 0 = numA a := by
      rw [List.take_of_length_le (by omega)]
      have := numGo_dd (numA a).toNat
      rw [← e] at this
      rw [this]
      omega
    rw [ht]
    exact ⟨g2, g3, g4⟩
  · rintro ⟨g1, g2, g3⟩
    have e : a = Lib.decDigits (numGo (a.take 6) 0).toNat := by rw [← itoa_dec (by omega), g1]
    have ha := atoi_dec (numGo (a.take 6) 0).toNat (by omega)
    rw [← e] at ha
    have hn : numA a = numGo (a.take 6) 0 := by
      unfold numA
      rw [ha]
      show (((numGo (a.take 6) 0).toNat : Nat) : Int) = _
      omega
    have ho : okA a = true := by unfold okA; rw [ha]
    rw [hn]
    exact ⟨ho, g1, g2, g3⟩
end Go.Proofs.YtbhjimflcfnpaaaGreatDoor.Sd

set_option linter.all false
/-! Both Parse are one: texts, and the whole. -/
namespace Go.Proofs.YtbhjimflcfnpaaaGreatDoor.Sd
open Go Go.Proofs Mo
theorem okT_f {b : UInt8} (h : ((b.toNat : Nat) : Int) < 32 ∨ 126 < ((b.toNat : Nat) : Int)) : okT b = false := by
  unfold okT
  rcases h with h | h
  · rw [decide_eq_true h]; rfl
  · rw [decide_eq_true (show ((b.toNat : Nat) : Int) > 126 from h), Bool.not_true, Bool.and_false]
theorem okT_t {b : UInt8} (h : ¬ (((b.toNat : Nat) : Int) < 32 ∨ 126 < ((b.toNat : Nat) : Int))) : okT b = true := by
  unfold okT
  rw [decide_eq_false (by omega), decide_eq_false (by omega)]
  rfl
theorem wrF_eq (l : List UInt8) : ∀ (b pos : Nat), l.length ≤ pos + b → Sdn.wrF ⟨⟨l⟩⟩ b pos = (l.drop pos).all okT
  | 0, pos, h => by
    rw [List.drop_eq_nil_of_le (by omega)]
    rfl
  | b + 1, pos, h => by
    have hsz : (⟨⟨l⟩⟩ : ByteArray).size = l.length := rfl
    by_cases hp : pos < l.length
    · have hp' : pos < (⟨⟨l⟩⟩ : ByteArray).size := hp
      have e : l.drop pos = l.getD pos 0 :: l.drop (pos + 1) := by
        rw [List.drop_eq_getElem_cons hp]
        simp [List.getD, hp]
      have hb : ((⟨⟨l⟩⟩ : ByteArray)[pos]'hp') = l.getD pos 0 := by
        have : ((⟨⟨l⟩⟩ : ByteArray)[pos]'hp') = l[pos] := rfl
        rw [this]
        simp [List.getD, hp]
      rw [e, List.all_cons]
      rw [Sdn.wrF, if_pos hp']
      by_cases ha : (l.getD pos 0).toNat < 128
      · have hd := decode_ascii ⟨⟨l⟩⟩ pos hp' (by rw [hb]; exact ha)
        rw [hb] at hd
        rw [hd]
        by_cases hk : (((l.getD pos 0).toNat : Nat) : Int) < 32 ∨ 126 < (((l.getD pos 0).toNat : Nat) : Int)
        · rw [if_pos hk]
          rw [okT_f hk]; rfl
        · rw [if_neg hk]
          rw [okT_t hk, Bool.true_and]
          exact wrF_eq l b (pos + 1) (by omega)
      · have hd := decode_high ⟨⟨l⟩⟩ pos hp' (by rw [hb]; omega)
        have : okT (l.getD pos 0) = false := okT_f (.inr (by omega))
        rw [if_pos (.inr (by have := hd.1; omega)), this]
        rfl
    · rw [List.drop_eq_nil_of_le (by omega), Sdn.wrF_end _ _ _ (by rw [hsz]; exact hp)]
      rfl
theorem wr_eq (a : List UInt8) : Sdn.wrR ⟨⟨a⟩⟩ = txtD a := by
  unfold Sdn.wrR txtD
  have hsz : (⟨⟨a⟩⟩ : ByteArray).size = a.length := rfl
  rw [hsz, wrF_eq a a.length 0 (by omega), List.drop_zero]
  have : (⟨⟨a⟩⟩ : ByteArray).toList.isEmpty = (a == []) := by
    rw [bytes_toList]
    cases a <;> rfl
  rw [this]
theorem fit_eq (x y : List UInt8) : (hasM wTab x && (getM false wTab x && fitB x y)) = argB x y := by
  by_cases h1 : x = [108, 105, 115, 116, 101, 110]
  · subst h1; exact num_eq y 1 65535 (by omega) (by omega)
  by_cases h2 : x = [97, 99, 99, 101, 112, 116]
  · subst h2; rfl
  by_cases h3 : x = [99, 111, 110, 110, 101, 99, 116]
  · subst h3; rfl
  by_cases h4 : x = [114, 101, 97, 100]
  · subst h4; exact num_eq y 1 256 (by omega) (by omega)
  by_cases h5 : x = [119, 114, 105, 116, 101]
  · subst h5; exact wr_eq y
  by_cases h6 : x = [101, 99, 104, 111]
  · subst h6; rfl
  by_cases h7 : x = [107, 101, 101, 112]
  · subst h7; rfl
  by_cases h8 : x = [115, 104, 111, 119]
  · subst h8; rfl
  by_cases h9 : x = [99, 108, 111, 115, 101]
  · subst h9; rfl
  by_cases h10 : x = [108, 111, 111, 112]
  · subst h10; exact num_eq y 0 39 (by omega) (by omega)
  unfold argB wTab hasM hasM hasM hasM hasM hasM hasM hasM hasM hasM hasM
  simp only [beq_eq_false_iff_ne.2 h1, beq_eq_false_iff_ne.2 h2, beq_eq_false_iff_ne.2 h3, beq_eq_false_iff_ne.2 h4, beq_eq_false_iff_ne.2 h5, beq_eq_false_iff_ne.2 h6, beq_eq_false_iff_ne.2 h7, beq_eq_false_iff_ne.2 h8, beq_eq_false_iff_ne.2 h9, beq_eq_false_iff_ne.2 h10]
  rfl
theorem part_eq (p : List UInt8) (h : p.length < 1073741824) : okP p = bOf p ∧ oAt p = oOf p := by
  have hl := trmF_le p
  unfold okP oAt bOf oOf
  rw [trim_eq]
  generalize trmF p = t at *
  rcases cut_cases t (by omega) with ⟨e1, e2, e3, e4⟩ | ⟨x, y, e1, e2, e3, e4, e5⟩
  · unfold okQ
    rw [e1, e2, e3, e4]
    exact ⟨one_eq t, rfl⟩
  · unfold okQ
    rw [e1, e2, e3, e4]
    exact ⟨fit_eq x y, rfl⟩
theorem go_eq : ∀ (L : List (List UInt8)) (acc : List Ord), (∀ p ∈ L, p.length < 1073741824) → goG okP oAt L acc = goP L acc
  | [], acc, _ => rfl
  | p :: r, acc, h => by
    obtain ⟨h1, h2⟩ := part_eq p (h p (List.mem_cons_self ..))
    rw [goG, goP, h1, h2, go_eq r _ fun q hq => h q (List.mem_cons_of_mem _ hq)]
theorem split_mem (c : UInt8) : ∀ (l : List UInt8), ∀ p ∈ Pa.splitL l c, p.length ≤ l.length
  | [], p, h => by
    simp [Pa.splitL] at h
    subst h
    exact Nat.le_refl _
  | b :: l, p, h => by
    obtain ⟨x, r, e⟩ := Pa.splitL_ne l c
    have ih := split_mem c l
    rw [Pa.splitL, e] at h
    rw [e] at ih
    rw [List.length_cons]
    split at h
    · rcases List.mem_cons.1 h with h | h
      · subst h; simp
      · exact Nat.le_succ_of_le (ih p h)
    · rcases List.mem_cons.1 h with h | h
      · subst h
        have := ih x (List.mem_cons_self ..)
        rw [List.length_cons]; omega
      · exact Nat.le_succ_of_le (ih p (List.mem_cons_of_mem _ h))
/-- BOTH PARSE ARE ONE. -/
theorem parse_eq (s : List UInt8) (h : s.length < 1073741824) : prgP s = docP s :=
  go_eq _ _ fun p hp => Nat.lt_of_le_of_lt (split_mem 59 s p hp) h
end Go.Proofs.YtbhjimflcfnpaaaGreatDoor.Sd

set_option linter.all false
/-! New and Right. -/
namespace Go.Proofs.YtbhjimflcfnpaaaGreatDoor.Sd
open Go Go.Proofs Mo
abbrev thT : Tys := .cons .str (.cons (.int .i64) (.cons (.int .i64) (.cons (.int .i64) (.cons (.sl (.one (.int .u8))) (.cons (.int .i64) (.cons (.int .i64) (.cons .bool (.one (.sl (.one .str))))))))))
theorem t18' : TOk Tryz.prog Q kt8 lt6 xt6 := t18
noncomputable abbrev newR : List AT := [.a thT, i64]
noncomputable def newF (s : List UInt8) : AD newR := bif (prgP s).2 == 0 then ((s, 0, 0, 0, [], 0, -1, false, []), 0, ()) else (([], 0, 0, 0, [], 0, 0, false, []), (prgP s).2, ())
noncomputable def T9 (s : List UInt8) : DT (AD newR) := .br (shB s) (.br ((prgP s).2 == 0) (.lf ((s, 0, 0, 0, [], 0, -1, false, []), 0, ())) (.br ((prgP s).2 != 0) (.lf (([], 0, 0, 0, [], 0, 0, false, []), (prgP s).2, ())) (.lf ((s, 0, 0, 0, [], 0, -1, false, []), 0, ())))) .no
noncomputable abbrev newC : Con := ⟨[str], newR, fun x => shB x.1, fun x => newF x.1⟩
theorem new9 (s : List UInt8) (h : shB s = true) : OkAt Tryz.prog Q 9 [str] newR (s, ()) (newF s) := by
  refine at_ok t18' (T := T9 s) rfl (by kernel_rfl) ?_
  unfold T9 newF
  simp only [DT.val, h, cond_true]
  have hne : ((prgP s).2 != 0) = !((prgP s).2 == 0) := rfl
  rw [hne]
  cases (prgP s).2 == 0 <;> rfl
theorem new9_ok : newC.Ok Tryz.prog Q 9 := con_at fun x hx => new9 x.1 hx
/-- None of these. -/
noncomputable def fl : List Bool → DT (AD [boo])
  | [] => .lf (true, ())
  | c :: r => .br c (.lf (false, ())) (fl r)
theorem fl_val : ∀ l : List Bool, (fl l).val = some (!l.any id, ())
  | [] => rfl
  | c :: r => by
    show (bif c then some (false, ()) else (fl r).val) = _
    rw [fl_val r]
    cases c <;> rfl
noncomputable def rtL (n : Int) (t : thT.D) : List Bool :=
  [decide (t.2.1 < 0), decide (t.2.1 > n), !(t.2.2.2.2.2.2.2.1 == (t.2.1 == n)), decide (t.2.2.1 < 0), decide (t.2.2.1 > 8), decide (t.2.2.2.1 < 0), decide (t.2.2.2.1 > 8), decide (((List.length (α := Int) t.2.2.2.2.1 : Nat) : Int) > 256), decide (t.2.2.2.2.2.1 < 0), decide (t.2.2.2.2.2.1 > 256), decide (t.2.2.2.2.2.2.1 < -1), decide (t.2.2.2.2.2.2.1 ≥ 4096), decide (((List.length (α := List UInt8) t.2.2.2.2.2.2.2.2 : Nat) : Int) > 40)]
noncomputable def rtF (t : thT.D) : Bool := (prgP t.1).2 == 0 && !(rtL ((prgP t.1).1.length : Nat) t).any id
noncomputable def T11 (t : thT.D) : DT (AD [boo]) := .br (shB t.1) (.br ((prgP t.1).2 == 0) (fl (rtL ((prgP t.1).1.length : Nat) t)) (.br ((prgP t.1).2 != 0) (.lf (false, ())) (fl (rtL 0 t)))) .no
noncomputable abbrev rtC : Con := ⟨[.a thT], [boo], fun x => shB x.1.1, fun x => (rtF x.1, ())⟩
theorem rt11 (t : thT.D) (h : shB t.1 = true) : OkAt Tryz.prog Q 11 [.a thT] [boo] (t, ()) (rtF t, ()) := by
  obtain ⟨prog, a, li, co, la, se, bl, dn, lo⟩ := t
  refine at_ok t18' (T := T11 (prog, a, li, co, la, se, bl, dn, lo)) rfl (by kernel_rfl) ?_
  have h' : shB prog = true := h
  unfold T11 rtF
  simp only [DT.val, h', cond_true]
  have hne : ((prgP prog).2 != 0) = !((prgP prog).2 == 0) := rfl
  rw [hne, fl_val, fl_val]
  cases (prgP prog).2 == 0 <;> rfl
theorem rt11_ok : rtC.Ok Tryz.prog Q 11 := con_at fun x hx => rt11 x.1 hx
noncomputable def kt9 : Tr Con := Tr.put (some rtC) 31 (Tr.put (some newC) 31 kt8 9) 11
theorem t19 : TOk Tryz.prog Q kt9 lt6 xt6 := (t18'.addK new9_ok rfl).addK rt11_ok rfl
end Go.Proofs.YtbhjimflcfnpaaaGreatDoor.Sd

set_option linter.all false
/-! The document's Right. -/
namespace Go.Proofs.YtbhjimflcfnpaaaGreatDoor.Sd
open Go Go.Proofs Mo
/-- None of the first, and then all. -/
noncomputable def tl : List Bool → Bool → DT (AD [boo])
  | [], b => .lf (b, ())
  | c :: r, b => .br c (tl r b) (.lf (false, ()))
noncomputable def ng : List Bool → DT (AD [boo]) → DT (AD [boo])
  | [], T => T
  | c :: r, T => .br c (.lf (false, ())) (ng r T)
noncomputable def gl (l m : List Bool) (b : Bool) : DT (AD [boo]) := ng l (tl m b)
theorem tl_val : ∀ (m : List Bool) (b : Bool), (tl m b).val = some (m.all id && b, ())
  | [], b => rfl
  | c :: r, b => by
    show (bif c then (tl r b).val else some (false, ())) = _
    rw [tl_val r b]
    cases c <;> rfl
theorem gl_val : ∀ (l m : List Bool) (b : Bool), (gl l m b).val = some (!l.any id && (m.all id && b), ())
  | [], m, b => tl_val m b
  | c :: r, m, b => by
    show (bif c then some (false, ()) else (gl r m b).val) = _
    rw [gl_val r m b]
    cases c <;> rfl
noncomputable def r1L (n : Int) (t : thT.D) : List Bool := [decide (t.2.1 < 0), decide (t.2.1 > n), !(t.2.2.2.2.2.2.2.1 == (t.2.1 == n))]
noncomputable def r2L (t : thT.D) : List Bool := [decide (t.2.2.1 ≥ 0), decide (t.2.2.1 ≤ 8), decide (t.2.2.2.1 ≥ 0), decide (t.2.2.2.1 ≤ 8), decide (((List.length (α := Int) t.2.2.2.2.1 : Nat) : Int) ≤ 256), decide (t.2.2.2.2.2.1 ≥ 0), decide (t.2.2.2.2.2.1 ≤ 256), decide (t.2.2.2.2.2.2.1 ≥ -1), decide (t.2.2.2.2.2.2.1 < 4096)]
noncomputable def r3B (t : thT.D) : Bool := decide (((List.length (α := List UInt8) t.2.2.2.2.2.2.2.2 : Nat) : Int) ≤ 40)
noncomputable def rdF (t : thT.D) : Bool := (docP t.1).2 == 0 && (!(r1L ((docP t.1).1.length : Nat) t).any id && ((r2L t).all id && r3B t))
noncomputable def T12 (t : thT.D) : DT (AD [boo]) := .br (shB t.1) (.br ((docP t.1).2 == 0) (gl (r1L ((docP t.1).1.length : Nat) t) (r2L t) (r3B t)) (.br ((docP t.1).2 != 0) (.lf (false, ())) (gl (r1L 0 t) (r2L t) (r3B t)))) .no
noncomputable abbrev rdrC : Con := ⟨[.a thT], [boo], fun x => shB x.1.1, fun x => (rdF x.1, ())⟩
theorem rt12 (t : thT.D) (h : shB t.1 = true) : OkAt Tryz.prog Q 12 [.a thT] [boo] (t, ()) (rdF t, ()) := by
  obtain ⟨prog, a, li, co, la, se, bl, dn, lo⟩ := t
  refine at_ok t19 (T := T12 (prog, a, li, co, la, se, bl, dn, lo)) rfl (by kernel_rfl) ?_
  have h' : shB prog = true := h
  unfold T12 rdF
  simp only [DT.val, h', cond_true]
  have hne : ((docP prog).2 != 0) = !((docP prog).2 == 0) := rfl
  rw [hne, gl_val, gl_val]
  cases (docP prog).2 == 0 <;> rfl
theorem rt12_ok : rdrC.Ok Tryz.prog Q 12 := con_at fun x hx => rt12 x.1 hx
noncomputable def kt10 : Tr Con := Tr.put (some rdrC) 31 kt9 12
theorem t20 : TOk Tryz.prog Q kt10 lt6 xt6 := t19.addK rt12_ok rfl
/-- Both Right are one. -/
theorem right_eq (t : thT.D) (h : List.length (α := UInt8) t.1 < 1073741824) : rtF t = rdF t := by
  obtain ⟨prog, a, li, co, la, se, bl, dn, lo⟩ := t
  have h' : List.length (α := UInt8) prog < 1073741824 := h
  unfold rtF rdF
  show ((prgP prog).2 == 0 && _) = ((docP prog).2 == 0 && _)
  rw [parse_eq prog h']
  congr 1
  have key : ∀ (n a li co L se bl M : Int) (dn : Bool), (![decide (a < 0), decide (a > n), !(dn == (a == n)), decide (li < 0), decide (li > 8), decide (co < 0), decide (co > 8), decide (L > 256), decide (se < 0), decide (se > 256), decide (bl < -1), decide (bl ≥ 4096), decide (M > 40)].any id) =
      (![decide (a < 0), decide (a > n), !(dn == (a == n))].any id && ([decide (li ≥ 0), decide (li ≤ 8), decide (co ≥ 0), decide (co ≤ 8), decide (L ≤ 256), decide (se ≥ 0), decide (se ≤ 256), decide (bl ≥ -1), decide (bl < 4096)].all id && decide (M ≤ 40))) := by
    intro n a li co L se bl M dn
    have e1 : ∀ x y : Int, decide (x < y) = !decide (x ≥ y) := fun x y => by rw [Bool.eq_iff_iff]; simp
    have e2 : ∀ x y : Int, decide (x > y) = !decide (x ≤ y) := fun x y => by rw [Bool.eq_iff_iff]; simp
    simp only [List.any_cons, List.any_nil, List.all_cons, List.all_nil, id, e1 li, e2 li, e1 co, e2 co, e2 L, e1 se, e2 se, e1 bl, e2 M]
    cases decide (a < 0) <;> cases decide (a > n) <;> cases (dn == (a == n)) <;> cases decide (li ≥ 0) <;> cases decide (li ≤ 8) <;> cases decide (co ≥ 0) <;> cases decide (co ≤ 8) <;> simp [Bool.and_assoc]
  exact key _ a li co _ se bl _ dn
end Go.Proofs.YtbhjimflcfnpaaaGreatDoor.Sd

set_option linter.all false
/-! slices.Clone, CloneThread. -/
namespace Go.Proofs.YtbhjimflcfnpaaaGreatDoor.Sd
open Go Go.Proofs Mo
abbrev byR : List AT := [.v (.sl (.one (.int .u8)))]
abbrev tsR : List AT := [.v (.sl (.one .str))]
noncomputable abbrev cbC : Con := ⟨byR, byR, fun x => appB (List.length (α := Int) x.1) 1, fun x => (x.1, ())⟩
noncomputable abbrev csC : Con := ⟨tsR, tsR, fun x => appB (List.length (α := List UInt8) x.1) 16, fun x => (x.1, ())⟩
theorem cb_run (l : List Int) : Mo.runN Tryz.prog (syL kt10 lt6 xt6) Moz.tb 1000 30 23 (.one (.int .u8)) byR l = (DT.br (appB (List.length (α := Int) l) 1) (.lf ((l, ()) : AD byR)) .no).run (canon byR) := by kernel_rfl
theorem cb_nil : Mo.run0 Tryz.prog (syL kt10 lt6 xt6) Moz.tb 1000 30 23 byR = canon byR ([], ()) := by kernel_rfl
theorem cs_run (l : List (List UInt8)) : Mo.runN Tryz.prog (syL kt10 lt6 xt6) Moz.tb 1000 30 24 (.one .str) tsR l = (DT.br (appB (List.length (α := List UInt8) l) 16) (.lf ((l, ()) : AD tsR)) .no).run (canon tsR) := by kernel_rfl
theorem cs_nil : Mo.run0 Tryz.prog (syL kt10 lt6 xt6) Moz.tb 1000 30 24 tsR = canon tsR ([], ()) := by kernel_rfl
theorem cb23_ok : cbC.Ok Tryz.prog Q 23 := con_of_nil (c := .one (.int .u8)) (rs := byR) (pre := fun l => appB (List.length (α := Int) l) 1) (F := fun l => (l, ())) (fun w0 hq => Moz.pokL Qm t20 w0 hq) Moz.tb_ok (L := 1000) (n := 30)
  (fun _ => by rw [cb_nil]; exact canon_ok (rs := byR) rfl)
  (fun l h => by
    have h' : appB (List.length (α := Int) l) 1 = true := h
    rw [cb_run l, DT.run_val]
    simp only [DT.val, h', cond_true]
    exact canon_ok (rs := byR) rfl)
theorem cs24_ok : csC.Ok Tryz.prog Q 24 := con_of_nil (c := .one .str) (rs := tsR) (pre := fun l => appB (List.length (α := List UInt8) l) 16) (F := fun l => (l, ())) (fun w0 hq => Moz.pokL Qm t20 w0 hq) Moz.tb_ok (L := 1000) (n := 30)
  (fun _ => by rw [cs_nil]; exact canon_ok (rs := tsR) rfl)
  (fun l h => by
    have h' : appB (List.length (α := List UInt8) l) 16 = true := h
    rw [cs_run l, DT.run_val]
    simp only [DT.val, h', cond_true]
    exact canon_ok (rs := tsR) rfl)
noncomputable def kt11 : Tr Con := Tr.put (some csC) 31 (Tr.put (some cbC) 31 kt10 23) 24
theorem t21 : TOk Tryz.prog Q kt11 lt6 xt6 := (t20.addK cb23_ok rfl).addK cs24_ok rfl
noncomputable abbrev clC : Con := ⟨[.a thT], [.a thT], fun x => appB (List.length (α := Int) x.1.2.2.2.2.1) 1 && appB (List.length (α := List UInt8) x.1.2.2.2.2.2.2.2.2) 16, fun x => (x.1, ())⟩
theorem cl13_ok : clC.Ok Tryz.prog Q 13 := con_at fun x hx => by
  obtain ⟨⟨prog, a, li, co, la, se, bl, dn, lo⟩, u⟩ := x
  refine at_ok t21 (T := gd [appB (List.length (α := Int) la) 1, appB (List.length (α := List UInt8) lo) 16] (.lf ((prog, a, li, co, la, se, bl, dn, lo), ()))) rfl (by kernel_rfl) ?_
  have hx' : (appB (List.length (α := Int) la) 1 && appB (List.length (α := List UInt8) lo) 16) = true := hx
  rw [Bool.and_eq_true] at hx'
  rw [gd_val (fun c hc => by
    simp only [List.mem_cons, List.not_mem_nil, or_false] at hc
    rcases hc with rfl | rfl
    · exact hx'.1
    · exact hx'.2)]
  rfl
noncomputable def kt12 : Tr Con := Tr.put (some clC) 31 kt11 13
theorem t22 : TOk Tryz.prog Q kt12 lt6 xt6 := t21.addK cl13_ok rfl
end Go.Proofs.YtbhjimflcfnpaaaGreatDoor.Sd

set_option linter.all false
/-! The loop of Same. -/
namespace Go.Proofs.YtbhjimflcfnpaaaGreatDoor.Sd
open Go Go.Proofs Mo
noncomputable abbrev S10_4 : LS := ⟨89, [2, 3, 5], [.p thT, .p thT, .t (.v (.int .i64))], [4, 71, 72, 73, 74, 75, 76, 77, 78, 79, 80, 81, 82, 83, 84, 85, 86, 87, 88], fun e => Ex.rec (motive := fun _ => List Nat) [] (fun i => []) [4] e, fun e => Ex.rec (motive := fun _ => List VT) [] (fun i => []) [.t (.v (.bool))] e⟩
noncomputable def lgs (t : thT.D) : Bys := t.2.2.2.2.2.2.2.2
noncomputable def st10 (a b : thT.D) (i : Int) : Option (LRes S10_4) := if 0 ≤ i ∧ (lgs a).length = (lgs b).length ∧ (lgs a).length < 1073741824 then
    some (bif decide (i < ((lgs a).length : Int)) then bif (lgs a).getD i.toNat [] == (lgs b).getD i.toNat [] then .cont (a, b, i + 1, ()) else .out .ret (false, ()) else .out (.exit 0) ()) else none
noncomputable def st10_4 (v : VD S10_4.vs) : Option (LRes S10_4) := st10 v.1 v.2.1 v.2.2.1
noncomputable def T10 (a b : thT.D) (i : Int) : DT (LRes S10_4) := .br (decide (i < ((lgs a).length : Int))) (gd [ixB i (lgs a).length, ixB i (lgs b).length] (.br (!((lgs a).getD i.toNat [] == (lgs b).getD i.toNat [])) (.lf (.out .ret (false, ()))) (.lf (.cont (a, b, w64 (i + 1), ()))))) (.lf (.out (.exit 0) ()))
theorem v10 (a b : thT.D) (i : Int) (r : LRes S10_4) (hr : st10 a b i = some r) : (T10 a b i).val = some r := by
  unfold st10 at hr
  split at hr
  · rename_i h
    obtain ⟨h0, h1, h2⟩ := h
    rw [← hr]
    unfold T10
    simp only [DT.val]
    by_cases hi : i < ((lgs a).length : Int)
    · rw [decide_eq_true hi]
      simp only [cond_true]
      rw [gd_val, w_id (x := i + 1) (by omega) (by omega)]
      · simp only [DT.val]
        cases (lgs a).getD i.toNat [] == (lgs b).getD i.toNat [] <;> rfl
      · intro c hc
        simp only [List.mem_cons, List.not_mem_nil, or_false] at hc
        rcases hc with rfl | rfl
        · simp only [ixB, decide_eq_true_eq]; omega
        · simp only [ixB, decide_eq_true_eq]; omega
    · rw [decide_eq_false hi]
      rfl
  · cases hr
noncomputable def smS (x : Bool) : Sigma fun e => VD (S10_4.oV e) := bif x then ⟨.exit 0, ()⟩ else ⟨.ret, (false, ())⟩
theorem it10 (a b : thT.D) (hl : (lgs a).length = (lgs b).length) (hs : (lgs a).length < 1073741824) : ∀ (j k : Nat), k + j = (lgs a).length → iterL st10_4 (j + 1) (a, b, (k : Int), ()) = some (smS ((lgs a).drop k == (lgs b).drop k))
  | 0, k, hk => by
    have e0 : st10 a b (k : Int) = some (.out (.exit 0) ()) := by
      unfold st10
      rw [if_pos (by omega), decide_eq_false (by omega)]
      rfl
    rw [List.drop_eq_nil_of_le (by omega), List.drop_eq_nil_of_le (by omega)]
    exact iterL_out (S := S10_4) (step := st10_4) (v := (a, b, (k : Int), ())) (e := .exit 0) (o := ()) e0
  | j + 1, k, hk => by
    have d : ∀ l : Bys, k < l.length → l.drop k = l.getD k [] :: l.drop (k + 1) := fun l h => by
      rw [List.drop_eq_getElem_cons h]
      simp [List.getD, h]
    rw [d _ (by omega), d (lgs b) (by omega)]
    cases hc : (lgs a).getD k [] == (lgs b).getD k [] with
    | true =>
      have e0 : st10 a b (k : Int) = some (.cont (a, b, ((k + 1 : Nat) : Int), ())) := by
        unfold st10
        rw [if_pos (by omega), decide_eq_true (by omega), Int.toNat_natCast, hc]
        rfl
      rw [iterL_cont (S := S10_4) (step := st10_4) (v := (a, b, (k : Int), ())) e0, it10 a b hl hs j (k + 1) (by omega), List.cons_beq_cons, hc, Bool.true_and]
    | false =>
      have e0 : st10 a b (k : Int) = some (.out .ret (false, ())) := by
        unfold st10
        rw [if_pos (by omega), decide_eq_true (by omega), Int.toNat_natCast, hc]
        rfl
      rw [iterL_out (S := S10_4) (step := st10_4) (v := (a, b, (k : Int), ())) (e := .ret) (o := (false, ())) e0, List.cons_beq_cons, hc, Bool.false_and]
      rfl
noncomputable def smB (a b : thT.D) : Bool := decide ((lgs a).length = (lgs b).length ∧ (lgs a).length < 1073741824)
noncomputable def G10 (a b : thT.D) (i : Int) : DT (Sigma fun e => VD (S10_4.oV e)) := .br (decide (i = 0)) (.br (smB a b) (.br (lgs a == lgs b) (.lf ⟨.exit 0, ()⟩) (.lf ⟨.ret, (false, ())⟩)) .no) .no
noncomputable def G10_4 (v : VD S10_4.vs) : DT (Sigma fun e => VD (S10_4.oV e)) := G10 v.1 v.2.1 v.2.2.1
theorem g10 (a b : thT.D) (i : Int) (r : Sigma fun e => VD (S10_4.oV e)) (hr : (G10 a b i).val = some r) : ∃ m, iterL st10_4 m (a, b, i, ()) = some r := by
  unfold G10 at hr
  simp only [DT.val] at hr
  by_cases h1 : i = 0
  · subst h1
    cases h2 : smB a b with
    | true =>
      obtain ⟨a1, a2⟩ : (lgs a).length = (lgs b).length ∧ (lgs a).length < 1073741824 := by simpa [smB] using h2
      simp only [h2, decide_true, cond_true] at hr
      refine ⟨(lgs a).length + 1, ?_⟩
      have key := it10 a b a1 a2 (lgs a).length 0 (by omega)
      rw [List.drop_zero, List.drop_zero] at key
      rw [show (0 : Int) = ((0 : Nat) : Int) from rfl]
      refine key.trans ?_
      rw [← hr]
      unfold smS
      cases lgs a == lgs b <;> rfl
    | false => simp [h2] at hr
  · simp [h1] at hr
theorem hso10 : ∀ e, Nat.ble (szV (S10_4.oV e)) 1000000 = true := fun e => by cases e <;> rfl
theorem lp10_4 : (LCon.of S10_4 st10_4 G10_4).Ok Tryz.prog Q 10 4 := loop_ok t22 (fn := Tryz.f10) (by kernel_rfl) (by kernel_rfl) (by kernel_rfl) (by kernel_rfl) rfl rfl hso10
  (fun v r hr => by
    obtain ⟨a, b, i, u⟩ := v
    obtain ⟨a1, a2, a3, a4, a5, a6, a7, a8, a9⟩ := a
    obtain ⟨b1, b2, b3, b4, b5, b6, b7, b8, b9⟩ := b
    exact ⟨T10 (a1, a2, a3, a4, a5, a6, a7, a8, a9) (b1, b2, b3, b4, b5, b6, b7, b8, b9) i, by kernel_rfl, v10 _ _ i r hr⟩)
  (fun v r hr => g10 v.1 v.2.1 v.2.2.1 r hr)
noncomputable def lt7 : Tr (List (Nat × LCon)) := Tr.put (some [(4, LCon.of S10_4 st10_4 G10_4)]) 31 lt6 10
theorem t23 : TOk Tryz.prog Q kt12 lt7 xt6 := t22.addL (lp_one lp10_4 lp_nil) rfl
end Go.Proofs.YtbhjimflcfnpaaaGreatDoor.Sd

set_option linter.all false
/-! Same. -/
namespace Go.Proofs.YtbhjimflcfnpaaaGreatDoor.Sd
open Go Go.Proofs Mo
theorem ng_val (T : DT (AD [boo])) : ∀ l : List Bool, (ng l T).val = bif l.any id then some (false, ()) else T.val
  | [] => rfl
  | c :: r => by
    show (bif c then some (false, ()) else (ng r T).val) = _
    rw [ng_val T r]
    cases c <;> rfl
noncomputable def lenI (l : Bys) : Int := (l.length : Nat)
noncomputable def smL (a b : thT.D) : List Bool :=
  [!(a.1 == b.1), a.2.1 != b.2.1, a.2.2.1 != b.2.2.1, a.2.2.2.1 != b.2.2.2.1, !(numsB a.2.2.2.2.1 == numsB b.2.2.2.2.1), a.2.2.2.2.2.1 != b.2.2.2.2.2.1, a.2.2.2.2.2.2.1 != b.2.2.2.2.2.2.1, !(a.2.2.2.2.2.2.2.1 == b.2.2.2.2.2.2.2.1), lenI (lgs a) != lenI (lgs b)]
noncomputable def samF (a b : thT.D) : Bool := !(smL a b).any id && lgs a == lgs b
noncomputable def T10f (a b : thT.D) : DT (AD [boo]) := ng (smL a b) (.br (smB a b) (.br (lgs a == lgs b) (.lf (true, ())) (.lf (false, ()))) .no)
noncomputable abbrev samC : Con := ⟨[.a thT, .a thT], [boo], fun x => decide ((lgs x.1).length < 1073741824), fun x => (samF x.1 x.2.1, ())⟩
theorem T10f_val (a b : thT.D) (h : (lgs a).length < 1073741824) : (T10f a b).val = some (samF a b, ()) := by
  unfold T10f samF
  rw [ng_val]
  cases ha : (smL a b).any id with
  | true => rfl
  | false =>
    have hl : (lenI (lgs a) != lenI (lgs b)) = false := by
      have h9 := List.any_eq_false.1 ha (lenI (lgs a) != lenI (lgs b)) (by simp [smL])
      simpa using h9
    have hl2 : (lgs a).length = (lgs b).length := by
      have : lenI (lgs a) = lenI (lgs b) := by simpa using hl
      unfold lenI at this
      omega
    have hb : smB a b = true := by simp only [smB, decide_eq_true_eq]; exact ⟨hl2, h⟩
    simp only [DT.val, hb, cond_true, cond_false]
    cases lgs a == lgs b <;> rfl
theorem sam10_ok : samC.Ok Tryz.prog Q 10 := con_at fun x hx => by
  obtain ⟨a, b, u⟩ := x
  have hx' : (lgs a).length < 1073741824 := by
    have h : decide ((lgs a).length < 1073741824) = true := hx
    simpa using h
  refine at_ok t23 (T := T10f a b) rfl ?_ (T10f_val a b hx')
  obtain ⟨a1, a2, a3, a4, a5, a6, a7, a8, a9⟩ := a
  obtain ⟨b1, b2, b3, b4, b5, b6, b7, b8, b9⟩ := b
  kernel_rfl
noncomputable def kt13 : Tr Con := Tr.put (some samC) 31 kt12 10
theorem t24 : TOk Tryz.prog Q kt13 lt7 xt6 := t23.addK sam10_ok rfl
end Go.Proofs.YtbhjimflcfnpaaaGreatDoor.Sd

set_option linter.all false
/-! The law SchedRight (but for lives). -/
namespace Go.Proofs.YtbhjimflcfnpaaaGreatDoor.Sd
open Go Go.Proofs Mo
noncomputable abbrev liC : Con := ⟨[], [boo], fun x => true, fun x => (true, ())⟩
noncomputable def T5 (t : thT.D) : DT (AD [boo]) :=
  .br (decide ((List.length (α := UInt8) t.1 : Int) > 1000)) (.lf (true, ())) (.br (decide ((List.length (α := Int) t.2.2.2.2.1 : Int) > 400)) (.lf (true, ())) (.br (decide ((List.length (α := List UInt8) t.2.2.2.2.2.2.2.2 : Int) > 100)) (.lf (true, ()))
  (gd [shB t.1, shB t.1] (.br (rtF t == rdF t) (gd [appB (List.length (α := Int) t.2.2.2.2.1) 1 && appB (List.length (α := List UInt8) t.2.2.2.2.2.2.2.2) 16, decide ((lgs t).length < 1073741824)] (.lf (samF t t, ()))) (.lf (false, ()))))))
theorem T5_run (t : thT.D) : run Tryz.prog (syL (Tr.put (some liC) 31 kt13 6) lt7 xt6) Moz.tb 1000 30 5 [.a thT] [boo] (t, ()) = (T5 t).run (canon [boo]) := by
  obtain ⟨a1, a2, a3, a4, a5, a6, a7, a8, a9⟩ := t
  kernel_rfl
theorem sam_self (t : thT.D) : samF t t = true := by
  unfold samF smL
  simp
theorem T5_val (t : thT.D) : (T5 t).val = some (true, ()) := by
  unfold T5
  simp only [DT.val]
  by_cases h1 : (List.length (α := UInt8) t.1 : Int) > 1000
  · rw [decide_eq_true h1]; rfl
  by_cases h2 : (List.length (α := Int) t.2.2.2.2.1 : Int) > 400
  · rw [decide_eq_false h1, decide_eq_true h2]; rfl
  by_cases h3 : (List.length (α := List UInt8) t.2.2.2.2.2.2.2.2 : Int) > 100
  · rw [decide_eq_false h1, decide_eq_false h2, decide_eq_true h3]; rfl
  rw [decide_eq_false h1, decide_eq_false h2, decide_eq_false h3]
  simp only [cond_false]
  have hs : shB t.1 = true := by simp only [shB, decide_eq_true_eq]; omega
  rw [gd_val (fun c hc => by simp only [List.mem_cons, List.not_mem_nil, or_false, or_self] at hc; subst hc; exact hs), right_eq t (by omega)]
  simp only [DT.val, beq_self_eq_true, cond_true]
  rw [gd_val, sam_self]
  · rfl
  · intro c hc
    simp only [List.mem_cons, List.not_mem_nil, or_false] at hc
    rcases hc with rfl | rfl
    · simp [appB]; omega
    · have : (lgs t).length = List.length (α := List UInt8) t.2.2.2.2.2.2.2.2 := rfl
      rw [decide_eq_true_eq]; omega
end Go.Proofs.YtbhjimflcfnpaaaGreatDoor.Sd

set_option linter.all false
/-! lives, and SchedRight. -/
namespace Go.Proofs.YtbhjimflcfnpaaaGreatDoor.Sd
open Go Go.Proofs Mo
theorem li6_ok : liC.Ok Tryz.prog Q 6 := con_at fun x hx =>
  okAt_tree (L := 10000) (n := 60) (T := .lf ((true, ()) : AD [boo])) (fun w0 hq => Moz.pokL Qm (TOk.nil (P := Tryz.prog) (Q := Q)) w0 hq) Moz.tb_ok rfl (by obtain ⟨⟩ := x; kernel_rfl) rfl
noncomputable def kt14 : Tr Con := Tr.put (some liC) 31 kt13 6
theorem t25 : TOk Tryz.prog Q kt14 lt7 xt6 := t24.addK li6_ok rfl
/-- THE LAW SchedRight, at every thread. -/
theorem right5_ok : (Con.mk [.a thT] [boo] (fun _ => true) fun _ => (true, ())).Ok Tryz.prog Q 5 := con_at fun x hx => by
  obtain ⟨t, u⟩ := x
  exact at_ok t25 (T := T5 t) rfl (T5_run t) (T5_val t)
#print axioms right5_ok
end Go.Proofs.YtbhjimflcfnpaaaGreatDoor.Sd

set_option linter.all false
set_option maxRecDepth 100000
/-! What a row lists gives what the library's contracts ask; a thread that comes in. -/
namespace Go.Proofs.YtbhjimflcfnpaaaGreatDoor.Sd
open Go Go.Proofs Mo
theorem star : "*" ++ "errors.errorString" = "*errors.errorString" := by decide
theorem rowEs (u : TypeId) (h : Tryz.prog.typeName? 3 u = some "*errors.errorString") : u = 258 :=
  typeName_ptr_named (nm := "errors.errorString") (by rw [star]; kernel_rfl) (by kernel_rfl) (by decide) u (by rw [star]; exact h)
theorem qt0 {W : World} (hL : laidMet Tryz.prog Rows.schedRightRow.laid W) : Q (pt0 W) := by
  have hT : Lib.TabIs Tryz.prog W "internal/strconv.uint64pow10" .u64 Lib.pow10Tab := Lib.tabIs_of_head (g := 5) (t := 262) (e := 54) (n := 20) (by kernel_rfl) (by kernel_rfl) (by kernel_rfl) (by kernel_rfl) (by kernel_rfl) (by kernel_rfl) hL.tail.tail
  obtain ⟨a1, s1, v1, -, -, -⟩ := laid_sentinel (g := 4) (ti := 108) (tp := 258) (te := 260) (ts := 9) hL.tail.tail.tail.tail (by kernel_rfl) (by kernel_rfl) Tryz.underlying108 rowEs Tryz.underlying258 Tryz.underlying260 rfl rfl Tryz.underlying9 (by kernel_rfl) (by kernel_rfl)
  obtain ⟨a2, s2, v2, -, -, -⟩ := laid_sentinel (g := 3) (ti := 108) (tp := 258) (te := 260) (ts := 9) hL.tail.tail.tail.tail.tail (by kernel_rfl) (by kernel_rfl) Tryz.underlying108 rowEs Tryz.underlying258 Tryz.underlying260 rfl rfl Tryz.underlying9 (by kernel_rfl) (by kernel_rfl)
  have c1 : W.cell? ⟨4, 0, none⟩ = some (.iface 258 (.pointer (some a1))) := by simpa using World.var?_cell (g := 4) (by kernel_rfl) v1 0
  have c2 : W.cell? ⟨3, 0, none⟩ = some (.iface 258 (.pointer (some a2))) := by simpa using World.var?_cell (g := 3) (by kernel_rfl) v2 0
  exact fun V hV => ⟨pt0_var hV hT, ⟨_, pt0_cell hV c2, .inr ⟨_, _, rfl⟩⟩, ⟨_, pt0_cell hV c1, .inr ⟨_, _, rfl⟩⟩⟩
section
variable {H : Type} {enc : TypeId × Value → H} {W : World} {base : Nat} {spare : Nat → Bool} {held : Bool}
theorem rd_by {r : Reach} {n : Nat} {c : Value} {y : DataW H × List MemPlace} {base' : Nat} (hok : Cell.okWide Tryz.prog W r base' 33 c) (h : DataW.trod enc Tryz.prog W base spare held n 33 [c] = some y) :
    ∃ l : List Int, (Ty.sl (.one (.int .u8))).Rd (pt0 W) l c :=
  rd_sl1 (ty := .int .u8) Tryz.underlying33 (by kernel_rfl) (fun n c y h => by
    obtain ⟨z, rfl⟩ := rd_i Tryz.underlying5 h
    exact ⟨z, by unfold Ty.Rd; rfl⟩) hok h
theorem rd_strs {r : Reach} {n : Nat} {c : Value} {y : DataW H × List MemPlace} {base' : Nat} (hok : Cell.okWide Tryz.prog W r base' 22 c) (h : DataW.trod enc Tryz.prog W base spare held n 22 [c] = some y) :
    ∃ l : List (List UInt8), (Ty.sl (.one .str)).Rd (pt0 W) l c :=
  rd_sl1 (ty := .str) Tryz.underlying22 (by kernel_rfl) (fun n c y h => by
    obtain ⟨s, h1, -⟩ := DataW.trod_string Tryz.underlying9 h
    simp only [List.cons.injEq, and_true] at h1
    subst h1
    exact ⟨s.data.toList, by unfold Ty.Rd; rfl⟩) hok h
theorem rd_th {r : Reach} {n : Nat} {v : Value} {base' : Nat} {y : DataW H × List MemPlace} {cs : Array Value} (hv : v = .agg cs) (hok : Value.okWide Tryz.prog W r base' 35 v) (h : DataW.trod enc Tryz.prog W base spare held n 35 cs.toList = some y) :
    ∃ x : thT.D, (AT.a thT).Rd (pt0 W) x v := by
  subst hv
  unfold Value.okWide at hok
  rw [Tryz.underlying35] at hok
  obtain ⟨cs', e1, hsz, ts, hts, -, hcell⟩ := hok
  cases e1
  have hts' : Tryz.prog.cellTypes Tryz.prog.depth 35 = some [9, 3, 3, 3, 33, 3, 3, 4, 22] := by kernel_rfl
  rw [hts'] at hts
  cases hts
  have hs9 : cs.size = 9 := hsz.trans (by kernel_rfl)
  obtain ⟨xs, m, _, _, hl, hxs, hf⟩ := DataW.trod_struct Tryz.underlying35 h
  obtain ⟨l⟩ := cs
  simp only at hl hf hcell
  have hl9 : l.length = 9 := hs9
  match l, hl9 with
  | [c0, c1, c2, c3, c4, c5, c6, c7, c8], _ =>
    have g0 : DataW.trod enc Tryz.prog W base spare held m 9 (([c0, c1, c2, c3, c4, c5, c6, c7, c8].drop 0).take (Tryz.prog.cellsOf 9)) = xs[0]? := hf 0 _ rfl
    have g1 : DataW.trod enc Tryz.prog W base spare held m 3 (([c0, c1, c2, c3, c4, c5, c6, c7, c8].drop 1).take (Tryz.prog.cellsOf 3)) = xs[1]? := hf 1 _ rfl
    have g2 : DataW.trod enc Tryz.prog W base spare held m 3 (([c0, c1, c2, c3, c4, c5, c6, c7, c8].drop 2).take (Tryz.prog.cellsOf 3)) = xs[2]? := hf 2 _ rfl
    have g3 : DataW.trod enc Tryz.prog W base spare held m 3 (([c0, c1, c2, c3, c4, c5, c6, c7, c8].drop 3).take (Tryz.prog.cellsOf 3)) = xs[3]? := hf 3 _ rfl
    have g4 : DataW.trod enc Tryz.prog W base spare held m 33 (([c0, c1, c2, c3, c4, c5, c6, c7, c8].drop 4).take (Tryz.prog.cellsOf 33)) = xs[4]? := hf 4 _ rfl
    have g5 : DataW.trod enc Tryz.prog W base spare held m 3 (([c0, c1, c2, c3, c4, c5, c6, c7, c8].drop 5).take (Tryz.prog.cellsOf 3)) = xs[5]? := hf 5 _ rfl
    have g6 : DataW.trod enc Tryz.prog W base spare held m 3 (([c0, c1, c2, c3, c4, c5, c6, c7, c8].drop 6).take (Tryz.prog.cellsOf 3)) = xs[6]? := hf 6 _ rfl
    have g7 : DataW.trod enc Tryz.prog W base spare held m 4 (([c0, c1, c2, c3, c4, c5, c6, c7, c8].drop 7).take (Tryz.prog.cellsOf 4)) = xs[7]? := hf 7 _ rfl
    have g8 : DataW.trod enc Tryz.prog W base spare held m 22 (([c0, c1, c2, c3, c4, c5, c6, c7, c8].drop 8).take (Tryz.prog.cellsOf 22)) = xs[8]? := hf 8 _ rfl
    have t9 : Tryz.prog.cellsOf 9 = 1 := by kernel_rfl
    have t3 : Tryz.prog.cellsOf 3 = 1 := by kernel_rfl
    have t33 : Tryz.prog.cellsOf 33 = 1 := by kernel_rfl
    have t4 : Tryz.prog.cellsOf 4 = 1 := by kernel_rfl
    have t22 : Tryz.prog.cellsOf 22 = 1 := by kernel_rfl
    rw [t9] at g0
    rw [t3] at g1 g2 g3 g5 g6
    rw [t33] at g4
    rw [t4] at g7
    rw [t22] at g8
    have hxl : xs.length = 9 := hxs
    match xs, hxl with
    | [y0, y1, y2, y3, y4, y5, y6, y7, y8], _ =>
      obtain ⟨s, e0, -⟩ := DataW.trod_string Tryz.underlying9 g0
      obtain ⟨z1, rfl⟩ := rd_i Tryz.underlying3 g1
      obtain ⟨z2, rfl⟩ := rd_i Tryz.underlying3 g2
      obtain ⟨z3, rfl⟩ := rd_i Tryz.underlying3 g3
      obtain ⟨z5, rfl⟩ := rd_i Tryz.underlying3 g5
      obtain ⟨z6, rfl⟩ := rd_i Tryz.underlying3 g6
      obtain ⟨b7, e7, -⟩ := DataW.trod_bool Tryz.underlying4 g7
      obtain rfl : c0 = .string s := (List.cons.inj (show [c0] = [.string s] from e0)).1
      obtain rfl : c7 = .bool b7 := (List.cons.inj (show [c7] = [.bool b7] from e7)).1
      obtain ⟨u4, k4, o4⟩ := hcell 4 c4 rfl
      obtain rfl : 33 = u4 := Option.some.inj k4
      obtain ⟨u8, k8, o8⟩ := hcell 8 c8 rfl
      obtain rfl : 22 = u8 := Option.some.inj k8
      obtain ⟨l4, r4⟩ := rd_by o4 g4
      obtain ⟨l8, r8⟩ := rd_strs o8 g8
      refine ⟨(s.data.toList, z1, z2, z3, l4, z5, z6, b7, l8), _, rfl, rfl, ?_⟩
      exact ⟨str_rd (x := s.data.toList), int_rd (x := z1), int_rd (x := z2), int_rd (x := z3), r4, int_rd (x := z5), int_rd (x := z6), bool_rd, r8⟩
end
/-- SchedRight, at what is read as a thread. -/
theorem law5 {W : World} (hL : laidMet Tryz.prog Rows.schedRightRow.laid W) {v : Value} {x : thT.D} (hx : (AT.a thT).Rd (pt0 W) x v) : Calls Tryz.prog 5 #[v] W fun e w' => e = .returned (.bool true) ∧ RowKit.Below W.heap.size W w' :=
  (right5_ok (pt0 W) W #[v] (x, ()) (true, ()) (qt0 hL) (pt0_ok W) ⟨hx, trivial⟩ rfl).mono fun e w' ⟨y, pr', h1, h2, _, _, _, h3⟩ => ⟨by rw [h1, bool_arg (show (AT.v .bool).Rd pr' true y from h3)], h2⟩
end Go.Proofs.YtbhjimflcfnpaaaGreatDoor.Sd

