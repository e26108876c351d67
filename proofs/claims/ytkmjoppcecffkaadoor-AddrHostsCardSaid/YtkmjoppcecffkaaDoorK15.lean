import Derived.Test.YtkmjoppcecffkaaDoorK8
import Derived.Test.YtkmjoppcecffkaaDoorK14
import Derived.Lib.LaidTab
import Derived.Lib.ItoaNum
import Derived.Stop.LaidErr
set_option linter.all false
set_option linter.all false
/-! Addresses, compared. -/
namespace Go.Proofs.YtkmjoppcecffkaaDoor
open Go Go.RowKit Caw
theorem eq_intG {t : TypeId} {k0 : IntKind} (hu : Tryd.prog.underlying t = some (.int k0)) (d : Nat) (k : IntKind) (a b : Int) : prun Tryd.prog (Op.equalIn (d + 1) t (.int k a) (.int k b)) = some (a == b) := by
  rw [Op.equalIn, prun_bind, prun_und hu]
  simp [prun_pure]
theorem eq_ipG (d : Nat) (a b c e p q r t : Int) : prun Tryd.prog (Op.equalIn (d + 2) 23 (.agg #[.int .u8 a, .int .u8 b, .int .u8 c, .int .u8 e]) (.agg #[.int .u8 p, .int .u8 q, .int .u8 r, .int .u8 t])) = some (a == p && b == q && c == r && e == t) := by
  have p0 : ∀ a b c e : Int, prun Tryd.prog (part 5 #[.int .u8 a, .int .u8 b, .int .u8 c, .int .u8 e] 0) = some (.int .u8 a) := fun _ _ _ _ => by kernel_rfl
  have p1 : ∀ a b c e : Int, prun Tryd.prog (part 5 #[.int .u8 a, .int .u8 b, .int .u8 c, .int .u8 e] 1) = some (.int .u8 b) := fun _ _ _ _ => by kernel_rfl
  have p2 : ∀ a b c e : Int, prun Tryd.prog (part 5 #[.int .u8 a, .int .u8 b, .int .u8 c, .int .u8 e] 2) = some (.int .u8 c) := fun _ _ _ _ => by kernel_rfl
  have p3 : ∀ a b c e : Int, prun Tryd.prog (part 5 #[.int .u8 a, .int .u8 b, .int .u8 c, .int .u8 e] 3) = some (.int .u8 e) := fun _ _ _ _ => by kernel_rfl
  have ps : prun Tryd.prog (Go.sizeOf 5) = some 1 := by kernel_rfl
  rw [Op.equalIn, prun_bind, prun_und Tryd.underlying23]
  by_cases h0 : a = p <;> by_cases h1 : b = q <;> by_cases h2 : c = r <;> by_cases h3 : e = t <;>
  simp [prun_bind, prun_pure, prun_prog, ps, p0, p1, p2, p3, eq_intG Tryd.underlying5, List.range', Std.Legacy.Range.forIn_eq_forIn_range', h0, h1, h2, h3]
end Go.Proofs.YtkmjoppcecffkaaDoor
namespace Go.Proofs.YtkmjoppcecffkaaDoor
open Go Go.RowKit Caw
@[simp] theorem ops_eq23 (x y : Operand) (n : TypeId) : (Op.binOp .eql 23 x y n).operands = #[x, y] := by simp [Op.operands]
def asIp : Value → Option (Int × Int × Int × Int)
  | .agg a => match a.toList with
    | [.int .u8 a, .int .u8 b, .int .u8 c, .int .u8 d] => some (a, b, c, d)
    | _ => none
  | _ => none
theorem asIp_eq {v : Value} {a b c d : Int} (h : asIp v = some (a, b, c, d)) : v = .agg #[.int .u8 a, .int .u8 b, .int .u8 c, .int .u8 d] := by
  unfold asIp at h
  split at h
  · rename_i xs
    split at h
    · rename_i e
      obtain ⟨l⟩ := xs
      simp only at e
      cases h
      rw [e]
    · cases h
  · cases h
def eqIp (x y : Value) : Option Value := match asIp x, asIp y with
  | some (a, b, c, d), some (p, q, r, t) => some (.bool (a == p && b == q && c == r && d == t))
  | _, _ => none
@[simp] theorem prun_eqIp (g : Operand → Value) (x y : Operand) (dd : Option Tmp) (n ty : TypeId) (pos : String) (af : Array Edge) (gu : Option (Nat × Bool)) (h : (eqIp (g x) (g y)).isSome = true) :
    prun Tryd.prog (execOp g ⟨dd, .binOp .eql 23 x y n, ty, pos, af, gu⟩) = (eqIp (g x) (g y)).map .value := by
  obtain ⟨v, hv⟩ := Option.isSome_iff_exists.1 h
  rw [hv]
  unfold eqIp at hv
  split at hv
  case h_2 => cases hv
  rename_i a b c d p q r t e1 e2
  cases hv
  have ex := asIp_eq e1
  have ey := asIp_eq e2
  have g0 : prun Tryd.prog (eqGuard .eql 23 x y (.agg #[.int .u8 a, .int .u8 b, .int .u8 c, .int .u8 d]) (.agg #[.int .u8 p, .int .u8 q, .int .u8 r, .int .u8 t])) = some () := by kernel_rfl
  have g1 : prun Tryd.prog (Op.equal 23 (.agg #[.int .u8 a, .int .u8 b, .int .u8 c, .int .u8 d]) (.agg #[.int .u8 p, .int .u8 q, .int .u8 r, .int .u8 t])) = some (a == p && b == q && c == r && d == t) := eq_ipG 9998 a b c d p q r t
  unfold execOp
  simp only []
  rw [ex, ey]
  simp [prun_bind, prun_pure, prun_map, g0, binOp, g1]
@[simp] theorem asIp_agg (a b c d : Int) : asIp (.agg #[.int .u8 a, .int .u8 b, .int .u8 c, .int .u8 d]) = some (a, b, c, d) := rfl
attribute [simp] eqIp
end Go.Proofs.YtkmjoppcecffkaaDoor

set_option linter.all false
/-! Cards' addresses, and addresses with a port, compared. -/
namespace Go.Proofs.YtkmjoppcecffkaaDoor
open Go Go.RowKit Caw
theorem eq_macG (d : Nat) (a b c e f h p q r t u v : Int) : prun Tryd.prog (Op.equalIn (d + 2) 45 (.agg #[.int .u8 a, .int .u8 b, .int .u8 c, .int .u8 e, .int .u8 f, .int .u8 h]) (.agg #[.int .u8 p, .int .u8 q, .int .u8 r, .int .u8 t, .int .u8 u, .int .u8 v])) = some (a == p && b == q && c == r && e == t && f == u && h == v) := by
  have p0 : ∀ a b c e f h : Int, prun Tryd.prog (part 5 #[.int .u8 a, .int .u8 b, .int .u8 c, .int .u8 e, .int .u8 f, .int .u8 h] 0) = some (.int .u8 a) := fun _ _ _ _ _ _ => by kernel_rfl
  have p1 : ∀ a b c e f h : Int, prun Tryd.prog (part 5 #[.int .u8 a, .int .u8 b, .int .u8 c, .int .u8 e, .int .u8 f, .int .u8 h] 1) = some (.int .u8 b) := fun _ _ _ _ _ _ => by kernel_rfl
  have p2 : ∀ a b c e f h : Int, prun Tryd.prog (part 5 #[.int .u8 a, .int .u8 b, .int .u8 c, .int .u8 e, .int .u8 f, .int .u8 h] 2) = some (.int .u8 c) := fun _ _ _ _ _ _ => by kernel_rfl
  have p3 : ∀ a b c e f h : Int, prun Tryd.prog (part 5 #[.int .u8 a, .int .u8 b, .int .u8 c, .int .u8 e, .int .u8 f, .int .u8 h] 3) = some (.int .u8 e) := fun _ _ _ _ _ _ => by kernel_rfl
  have p4 : ∀ a b c e f h : Int, prun Tryd.prog (part 5 #[.int .u8 a, .int .u8 b, .int .u8 c, .int .u8 e, .int .u8 f, .int .u8 h] 4) = some (.int .u8 f) := fun _ _ _ _ _ _ => by kernel_rfl
  have p5 : ∀ a b c e f h : Int, prun Tryd.prog (part 5 #[.int .u8 a, .int .u8 b, .int .u8 c, .int .u8 e, .int .u8 f, .int .u8 h] 5) = some (.int .u8 h) := fun _ _ _ _ _ _ => by kernel_rfl
  have ps : prun Tryd.prog (Go.sizeOf 5) = some 1 := by kernel_rfl
  rw [Op.equalIn, prun_bind, prun_und Tryd.underlying45]
  by_cases h0 : a = p
  case neg => simp [prun_bind, prun_pure, prun_prog, ps, p0, p1, p2, p3, p4, p5, eq_intG Tryd.underlying5, List.range', Std.Legacy.Range.forIn_eq_forIn_range', h0]
  by_cases h1 : b = q
  case neg => simp [prun_bind, prun_pure, prun_prog, ps, p0, p1, p2, p3, p4, p5, eq_intG Tryd.underlying5, List.range', Std.Legacy.Range.forIn_eq_forIn_range', h0, h1]
  by_cases h2 : c = r
  case neg => simp [prun_bind, prun_pure, prun_prog, ps, p0, p1, p2, p3, p4, p5, eq_intG Tryd.underlying5, List.range', Std.Legacy.Range.forIn_eq_forIn_range', h0, h1, h2]
  by_cases h3 : e = t
  case neg => simp [prun_bind, prun_pure, prun_prog, ps, p0, p1, p2, p3, p4, p5, eq_intG Tryd.underlying5, List.range', Std.Legacy.Range.forIn_eq_forIn_range', h0, h1, h2, h3]
  by_cases h4 : f = u
  case neg => simp [prun_bind, prun_pure, prun_prog, ps, p0, p1, p2, p3, p4, p5, eq_intG Tryd.underlying5, List.range', Std.Legacy.Range.forIn_eq_forIn_range', h0, h1, h2, h3, h4]
  by_cases h5 : h = v
  case neg => simp [prun_bind, prun_pure, prun_prog, ps, p0, p1, p2, p3, p4, p5, eq_intG Tryd.underlying5, List.range', Std.Legacy.Range.forIn_eq_forIn_range', h0, h1, h2, h3, h4, h5]
  simp [prun_bind, prun_pure, prun_prog, ps, p0, p1, p2, p3, p4, p5, eq_intG Tryd.underlying5, List.range', Std.Legacy.Range.forIn_eq_forIn_range', h0, h1, h2, h3, h4, h5]
theorem stood26 : Tryd.prog.stoodInHeld 26 = false := by kernel_rfl
theorem eq_addrG (d : Nat) (a b c e f p q r t u : Int) : prun Tryd.prog (Op.equalIn (d + 3) 26 (.agg #[.int .u8 a, .int .u8 b, .int .u8 c, .int .u8 e, .int .u16 f]) (.agg #[.int .u8 p, .int .u8 q, .int .u8 r, .int .u8 t, .int .u16 u])) = some ((a == p && b == q && c == r && e == t) && f == u) := by
  have p0 : ∀ a b c e p : Int, prun Tryd.prog (part 23 #[.int .u8 a, .int .u8 b, .int .u8 c, .int .u8 e, .int .u16 p] 0) = some (.agg #[.int .u8 a, .int .u8 b, .int .u8 c, .int .u8 e]) := fun _ _ _ _ _ => by kernel_rfl
  have p1 : ∀ a b c e p : Int, prun Tryd.prog (part 24 #[.int .u8 a, .int .u8 b, .int .u8 c, .int .u8 e, .int .u16 p] 4) = some (.int .u16 p) := fun _ _ _ _ _ => by kernel_rfl
  rw [Op.equalIn, prun_bind, prun_und Tryd.underlying26]
  cases hh : (a == p && b == q && c == r && e == t) <;> by_cases h5 : f = u <;>
  simp [prun_bind, prun_pure, prun_prog, stood26, p0, p1, eq_intG Tryd.underlying24, eq_ipG, hh, h5]
@[simp] theorem ops_eq45 (x y : Operand) (n : TypeId) : (Op.binOp .eql 45 x y n).operands = #[x, y] := by simp [Op.operands]
@[simp] theorem ops_eq26 (x y : Operand) (n : TypeId) : (Op.binOp .eql 26 x y n).operands = #[x, y] := by simp [Op.operands]
def asMac : Value → Option (Int × Int × Int × Int × Int × Int)
  | .agg a => match a.toList with
    | [.int .u8 a, .int .u8 b, .int .u8 c, .int .u8 d, .int .u8 e, .int .u8 f] => some (a, b, c, d, e, f)
    | _ => none
  | _ => none
theorem asMac_eq {v : Value} {a b c d e f : Int} (h : asMac v = some (a, b, c, d, e, f)) : v = .agg #[.int .u8 a, .int .u8 b, .int .u8 c, .int .u8 d, .int .u8 e, .int .u8 f] := by
  unfold asMac at h
  split at h
  · rename_i xs
    split at h
    · rename_i e
      obtain ⟨l⟩ := xs
      simp only at e
      cases h
      rw [e]
    · cases h
  · cases h
def asAd : Value → Option (Int × Int × Int × Int × Int)
  | .agg a => match a.toList with
    | [.int .u8 a, .int .u8 b, .int .u8 c, .int .u8 d, .int .u16 p] => some (a, b, c, d, p)
    | _ => none
  | _ => none
theorem asAd_eq {v : Value} {a b c d p : Int} (h : asAd v = some (a, b, c, d, p)) : v = .agg #[.int .u8 a, .int .u8 b, .int .u8 c, .int .u8 d, .int .u16 p] := by
  unfold asAd at h
  split at h
  · rename_i xs
    split at h
    · rename_i e
      obtain ⟨l⟩ := xs
      simp only at e
      cases h
      rw [e]
    · cases h
  · cases h
def eqMac (x y : Value) : Option Value := match asMac x, asMac y with
  | some (a, b, c, d, e, f), some (p, q, r, t, u, v) => some (.bool (a == p && b == q && c == r && d == t && e == u && f == v))
  | _, _ => none
def eqAd (x y : Value) : Option Value := match asAd x, asAd y with
  | some (a, b, c, d, e), some (p, q, r, t, u) => some (.bool ((a == p && b == q && c == r && d == t) && e == u))
  | _, _ => none
@[simp] theorem prun_eqMac (g : Operand → Value) (x y : Operand) (dd : Option Tmp) (n ty : TypeId) (pos : String) (af : Array Edge) (gu : Option (Nat × Bool)) (h : (eqMac (g x) (g y)).isSome = true) :
    prun Tryd.prog (execOp g ⟨dd, .binOp .eql 45 x y n, ty, pos, af, gu⟩) = (eqMac (g x) (g y)).map .value := by
  obtain ⟨v, hv⟩ := Option.isSome_iff_exists.1 h
  rw [hv]
  unfold eqMac at hv
  split at hv
  case h_2 => cases hv
  rename_i a b c d e f p q r t u v e1 e2
  cases hv
  have ex := asMac_eq e1
  have ey := asMac_eq e2
  have g0 : prun Tryd.prog (eqGuard .eql 45 x y (.agg #[.int .u8 a, .int .u8 b, .int .u8 c, .int .u8 d, .int .u8 e, .int .u8 f]) (.agg #[.int .u8 p, .int .u8 q, .int .u8 r, .int .u8 t, .int .u8 u, .int .u8 v])) = some () := by kernel_rfl
  have g1 : prun Tryd.prog (Op.equal 45 (.agg #[.int .u8 a, .int .u8 b, .int .u8 c, .int .u8 d, .int .u8 e, .int .u8 f]) (.agg #[.int .u8 p, .int .u8 q, .int .u8 r, .int .u8 t, .int .u8 u, .int .u8 v])) = some (a == p && b == q && c == r && d == t && e == u && f == v) := eq_macG 9998 a b c d e f p q r t u v
  unfold execOp
  simp only []
  rw [ex, ey]
  simp [prun_bind, prun_pure, prun_map, g0, binOp, g1]
@[simp] theorem prun_eqAd (g : Operand → Value) (x y : Operand) (dd : Option Tmp) (n ty : TypeId) (pos : String) (af : Array Edge) (gu : Option (Nat × Bool)) (h : (eqAd (g x) (g y)).isSome = true) :
    prun Tryd.prog (execOp g ⟨dd, .binOp .eql 26 x y n, ty, pos, af, gu⟩) = (eqAd (g x) (g y)).map .value := by
  obtain ⟨v, hv⟩ := Option.isSome_iff_exists.1 h
  rw [hv]
  unfold eqAd at hv
  split at hv
  case h_2 => cases hv
  rename_i a b c d e p q r t u e1 e2
  cases hv
  have ex := asAd_eq e1
  have ey := asAd_eq e2
  have g0 : prun Tryd.prog (eqGuard .eql 26 x y (.agg #[.int .u8 a, .int .u8 b, .int .u8 c, .int .u8 d, .int .u16 e]) (.agg #[.int .u8 p, .int .u8 q, .int .u8 r, .int .u8 t, .int .u16 u])) = some () := by kernel_rfl
  have g1 : prun Tryd.prog (Op.equal 26 (.agg #[.int .u8 a, .int .u8 b, .int .u8 c, .int .u8 d, .int .u16 e]) (.agg #[.int .u8 p, .int .u8 q, .int .u8 r, .int .u8 t, .int .u16 u])) = some ((a == p && b == q && c == r && d == t) && e == u) := eq_addrG 9997 a b c d e p q r t u
  unfold execOp
  simp only []
  rw [ex, ey]
  simp [prun_bind, prun_pure, prun_map, g0, binOp, g1]
@[simp] theorem asMac_agg (a b c d e f : Int) : asMac (.agg #[.int .u8 a, .int .u8 b, .int .u8 c, .int .u8 d, .int .u8 e, .int .u8 f]) = some (a, b, c, d, e, f) := rfl
@[simp] theorem asAd_agg (a b c d e : Int) : asAd (.agg #[.int .u8 a, .int .u8 b, .int .u8 c, .int .u8 d, .int .u16 e]) = some (a, b, c, d, e) := rfl
attribute [simp] eqMac eqAd
end Go.Proofs.YtkmjoppcecffkaaDoor

/-! Cards' addresses and addresses with a port that come in; the table of strconv's. -/
set_option linter.all false
namespace Caw
open Go Go.RowKit
theorem tabB_of {P : Program} {W : World} {n : Nat} (ht : Lib.TabIs P W "internal/strconv.uint64pow10" .u64 Lib.pow10Tab) : TabB P (base0 W n) := by
  intro g hg
  have hlt : g < W.heap.size := by
    have h2 := ht
    unfold Lib.TabIs World.var? at h2
    rw [hg, Option.bind_some] at h2
    split at h2
    · rename_i h; exact (Array.getElem?_eq_some_iff.1 h).1
    · cases h2
  exact ⟨hlt, fun _ => hlt, ht⟩
theorem tabB_laid {P : Program} {W : World} {n : Nat} {x y : String × DataW Unit} {rest : List (String × DataW Unit)} {g : Nat} {t e : TypeId}
    (hg : P.globalNamed "internal/strconv.uint64pow10" = some g) (hty : (P.globals[g]?).map (·.type) = some t) (ht : P.underlying t = some (.array 20 e)) (he : P.underlying e = some (.int .u64)) (hce : P.cellsOf e = 1) (hct : P.cellsOf t = 20)
    (h : laidMet P (x :: y :: ("internal/strconv.uint64pow10", Lib.tabData .u64 Lib.pow10Tab) :: rest) W) : TabB P (base0 W n) :=
  tabB_of (Lib.tabIs_of_head hg hty ht he hce hct h.tail.tail)
section
variable {H : Type} {enc : TypeId × Value → H} {P : Program} {W : World} {base : Nat} {spare : Nat → Bool} {held : Bool}
theorem b1_of {n : Int} (h : (Lit.int .u8 n).wf = true) : isB1 [n] := by
  have := bounds_u8 h
  unfold u8 at this
  exact isB1_of (by omega) (by omega)
theorem rd_macL {t e : TypeId} (ht : P.underlying t = some (.array 6 e)) (he : P.underlying e = some (.int .u8)) (hce : P.cellsOf e = 1) (hct : P.cellsOf t = 6) {n : Nat} {l : List Value} {y : DataW H × List MemPlace}
    (h : DataW.trod enc P W base spare held n t l = some y) : ∃ x : Mac, MacOk x ∧ l = [.int .u8 x.a, .int .u8 x.b, .int .u8 x.c, .int .u8 x.d, .int .u8 x.e, .int .u8 x.f] := by
  obtain ⟨xs, m, _, _, hl, hxs, hf⟩ := DataW.trod_array ht h
  rw [hct] at hl
  match l, hl with
  | [c0, c1, c2, c3, c4, c5], _ =>
    have g0 := hf 0 (by omega)
    have g1 := hf 1 (by omega)
    have g2 := hf 2 (by omega)
    have g3 := hf 3 (by omega)
    have g4 := hf 4 (by omega)
    have g5 := hf 5 (by omega)
    simp only [hce, Nat.zero_mul, Nat.one_mul, Nat.mul_one, List.drop, List.take] at g0 g1 g2 g3 g4 g5
    match xs, hxs with
    | [y0, y1, y2, y3, y4, y5], _ =>
      obtain ⟨z0, hz0, _, b0⟩ := DataW.trod_int he (by simpa using g0)
      obtain ⟨z1, hz1, _, b1⟩ := DataW.trod_int he (by simpa using g1)
      obtain ⟨z2, hz2, _, b2⟩ := DataW.trod_int he (by simpa using g2)
      obtain ⟨z3, hz3, _, b3⟩ := DataW.trod_int he (by simpa using g3)
      obtain ⟨z4, hz4, _, b4⟩ := DataW.trod_int he (by simpa using g4)
      obtain ⟨z5, hz5, _, b5⟩ := DataW.trod_int he (by simpa using g5)
      simp only [List.cons.injEq, and_true] at hz0 hz1 hz2 hz3 hz4 hz5
      subst hz0 hz1 hz2 hz3 hz4 hz5
      exact ⟨⟨z0, z1, z2, z3, z4, z5⟩, ⟨b1_of b0, b1_of b1, b1_of b2, b1_of b3, b1_of b4, b1_of b5⟩, rfl⟩
theorem pv_ints {l : List (IntKind × Int)} : PV W (pr0 W) (.agg (l.map fun p => .v (.int p.1 p.2))) (.agg (l.map fun p => Value.int p.1 p.2).toArray) := by
  refine .agg (by simp) (fun i hi => ?_)
  have hi2 : i < l.length := by simpa using hi
  have e : ((l.map fun p => Value.int p.1 p.2).toArray).getD i undef = .int l[i].1 l[i].2 := by simp [hi2]
  rw [e]
  simp
  exact .v _
theorem rd_mac {t e : TypeId} (ht : P.underlying t = some (.array 6 e)) (he : P.underlying e = some (.int .u8)) (hce : P.cellsOf e = 1) (hct : P.cellsOf t = 6) {n : Nat} {cs : Array Value} {y : DataW H × List MemPlace}
    (h : DataW.trod enc P W base spare held n t cs.toList = some y) : ∃ x : Mac, MacOk x ∧ PV W (pr0 W) (.agg (macCells x)) (.agg cs) := by
  obtain ⟨x, h1, h2⟩ := rd_macL ht he hce hct h
  obtain ⟨l⟩ := cs
  simp only at h2
  subst h2
  exact ⟨x, h1, pv_ints (l := [(.u8, x.a), (.u8, x.b), (.u8, x.c), (.u8, x.d), (.u8, x.e), (.u8, x.f)])⟩
theorem bounds_u16 {n : Int} (h : (Lit.int .u16 n).wf = true) : 0 ≤ n ∧ n < 65536 := by
  have e1 : IntKind.min .u16 = 0 := rfl
  have e2 : IntKind.max .u16 = 65535 := rfl
  simp [Lit.wf] at h
  omega
theorem rd_addr {t ti e : TypeId} {f0 f1 : Field} (ht : P.underlying t = some (.struct #[f0, f1])) (h0 : f0.type = ti) (hti : P.underlying ti = some (.array 4 e)) (he : P.underlying e = some (.int .u8)) (hP : P.underlying f1.type = some (.int .u16)) (hce : P.cellsOf e = 1) (hci : P.cellsOf ti = 4) (hc1 : P.cellsOf f1.type = 1) (hct : P.cellsOf t = 5)
    (o0 : f0.offset = 0) (o1 : f1.offset = 4) {n : Nat} {cs : Array Value} {y : DataW H × List MemPlace}
    (h : DataW.trod enc P W base spare held n t cs.toList = some y) : ∃ x : Addr, LowA x ∧ PV W (pr0 W) (.agg (addrCells x)) (.agg cs) := by
  obtain ⟨xs, m, _, _, hl, hxs, hf⟩ := DataW.trod_struct ht h
  rw [hct] at hl
  obtain ⟨l⟩ := cs
  simp only at hl hf
  have g0 := hf 0 f0 rfl
  have g1 := hf 1 f1 rfl
  match l, hl with
  | [c0, c1, c2, c3, c4], _ =>
    simp only [h0, o0, o1, hci, hc1, List.drop, List.take] at g0 g1
    match xs, hxs with
    | [y0, y1], _ =>
      obtain ⟨x, q, e0⟩ := rd_ipL hti he hce hci (by simpa using g0)
      obtain ⟨z, hz, _, b⟩ := DataW.trod_int hP (by simpa using g1)
      simp only [List.cons.injEq, and_true] at hz e0
      obtain ⟨rfl, rfl, rfl, rfl⟩ := e0
      subst hz
      have hp := bounds_u16 b
      have q0 := q.a
      have q1 := q.b
      have q2 := q.c
      have q3 := q.d
      unfold u8 at q0 q1 q2 q3
      exact ⟨⟨x.a, x.b, x.c, x.d, z⟩, ⟨⟨by show 0 ≤ x.a; omega, by show x.a < 256; omega, by show 0 ≤ x.b; omega, by show x.b < 256; omega, by show 0 ≤ x.c; omega, by show x.c < 256; omega, by show 0 ≤ x.d; omega, by show x.d < 256; omega⟩, hp.1, hp.2⟩,
        pv_ints (l := [(.u8, x.a), (.u8, x.b), (.u8, x.c), (.u8, x.d), (.u16, z)])⟩
/-- Two cards. -/
theorem rd_macs {t t1 e : TypeId} (ht0 : P.underlying t = some (.array 2 t1)) (ht : P.underlying t1 = some (.array 6 e)) (he : P.underlying e = some (.int .u8)) (hce : P.cellsOf e = 1) (hct : P.cellsOf t1 = 6) (hct0 : P.cellsOf t = 12) {n : Nat} {cs : Array Value} {y : DataW H × List MemPlace}
    (h : DataW.trod enc P W base spare held n t cs.toList = some y) : ∃ x y : Mac, (MacOk x ∧ MacOk y) ∧ PV W (pr0 W) (.agg (macCells x ++ macCells y)) (.agg cs) := by
  obtain ⟨xs, m, _, _, hl, hxs, hf⟩ := DataW.trod_array ht0 h
  rw [hct0] at hl
  obtain ⟨l⟩ := cs
  simp only at hl hf
  have g0 := hf 0 (by omega)
  have g1 := hf 1 (by omega)
  simp only [hct, Nat.zero_mul, Nat.one_mul, List.drop_zero] at g0 g1
  match xs, hxs with
  | [y0, y1], _ =>
    obtain ⟨x0, q0, e0⟩ := rd_macL ht he hce hct (by simpa using g0)
    obtain ⟨x1, q1, e1⟩ := rd_macL ht he hce hct (by simpa using g1)
    have hle : l = [.int .u8 x0.a, .int .u8 x0.b, .int .u8 x0.c, .int .u8 x0.d, .int .u8 x0.e, .int .u8 x0.f, .int .u8 x1.a, .int .u8 x1.b, .int .u8 x1.c, .int .u8 x1.d, .int .u8 x1.e, .int .u8 x1.f] := by
      match l, hl with
      | [a0, a1, a2, a3, a4, a5, a6, a7, a8, a9, a10, a11], _ =>
        simp at e0 e1
        simp [e0, e1]
    subst hle
    exact ⟨x0, x1, ⟨q0, q1⟩, pv_ints (l := [(.u8, x0.a), (.u8, x0.b), (.u8, x0.c), (.u8, x0.d), (.u8, x0.e), (.u8, x0.f), (.u8, x1.a), (.u8, x1.b), (.u8, x1.c), (.u8, x1.d), (.u8, x1.e), (.u8, x1.f)])⟩
end
end Caw

