import Derived.Test.YtlogglgfpeeheaaW6
import Derived.Test.YtlogglgfpeeheaaCavL
import Derived.KernelRfl
namespace Go.Proofs.Ytlogglgfpeeheaa
open Go Go.RowKit Cav

@[simp] theorem q_row2 : rowT Try.prog 2 = some (false, 1) := by kernel_rfl
@[simp] theorem q_row4 : rowT Try.prog 4 = some (false, 1) := by kernel_rfl
@[simp] theorem q_row25 : rowT Try.prog 25 = some (true, 3) := by kernel_rfl
@[simp] theorem q_size2 : sizeT Try.prog 2 = some 1 := by kernel_rfl
@[simp] theorem q_size25 : sizeT Try.prog 25 = some 3 := by kernel_rfl
@[simp] theorem q_zero25 : zeroT Try.prog 25 = some (.agg #[.int .i64 0, .int .i64 0, .int .i64 0]) := by kernel_rfl
@[simp] theorem q_f25_0 : fieldOff Try.prog 25 0 = some 0 := by kernel_rfl
@[simp] theorem q_f25_1 : fieldOff Try.prog 25 1 = some 1 := by kernel_rfl
@[simp] theorem q_f25_2 : fieldOff Try.prog 25 2 = some 2 := by kernel_rfl
@[simp] theorem q_int2 : intT Try.prog 2 = some .i64 := by kernel_rfl
@[simp] theorem q_int27 : intT Try.prog 27 = some .u64 := by kernel_rfl
@[simp] theorem q_u5 : (Try.prog.underlying 5).isSome = true := by kernel_rfl
@[simp] theorem q_u27 : (Try.prog.underlying 27).isSome = true := by kernel_rfl
@[simp] theorem q_bool4 : isBoolT Try.prog 4 = true := by kernel_rfl
theorem q_mixed : Try.prog.follows .mixedOrders = true := by kernel_rfl

/-- A clock's value. -/
def clk (s p t : Int) : AV := .v (.agg #[.int .i64 s, .int .i64 p, .int .i64 t])
def asClk : AV → Option (Int × Int × Int)
  | .v (.agg a) => match a.toList with
    | [.int .i64 s, .int .i64 p, .int .i64 t] => some (s, p, t)
    | _ => none
  | _ => none

def f7 : Fun
  | [] => some (.v (.bool true))
  | _ => none
def fRight : Fun
  | [a] => match asClk a with
    | some (s, p, t) => some (.v (.bool (rightB s p t)))
    | none => none
  | _ => none
/-- What a measure comes to. -/
def mS (s n : Int) : Int := if s = -1 then 8 * min n 240 else nxS s (min n 240)
def mP (s p n : Int) : Int := if s = -1 then 2 * min n 240 else nxP s p (min n 240)
def okcB (s p : Int) : Bool := decide ((s = -1 ∧ p = -1) ∨ (0 ≤ s ∧ s ≤ 1927 ∧ 0 ≤ p ∧ p ≤ 963))
def mClk (s p n : Int) : AV := clk (mS s n) (mP s p n) (wt (mS s n) (mP s p n))
def fMeasure : Fun
  | [a, .v (.int .u64 n)] => match asClk a with
    | some (s, p, _) => if 0 ≤ n ∧ okcB s p = true then some (mClk s p n) else none
    | none => none
  | _ => none
def fDouble : Fun
  | [a] => match asClk a with
    | some (s, p, t) => if rightB s p t = true then some (clk s p (bnd (t + t))) else none
    | none => none
  | _ => none
def f8 : Fun
  | [] => some (clk (-1) (-1) 10)
  | _ => none
noncomputable def Γ1 : Ctx
  | 7 => some f7
  | 8 => some f8
  | 9 => some fMeasure
  | 10 => some fRight
  | 11 => some fRight
  | 12 => some fDouble
  | 13 => some fMeasure
  | 14 => some fDouble
  | _ => none

theorem asClk_eq {a : AV} {s p t : Int} (h : asClk a = some (s, p, t)) : a = clk s p t := by
  unfold asClk at h
  split at h
  case h_2 => cases h
  rename_i arr
  split at h
  case h_2 => cases h
  rename_i s' p' t' he
  cases h
  have : arr = #[.int .i64 s, .int .i64 p, .int .i64 t] := by rw [← Array.toArray_toList (xs := arr), he]
  rw [this]; rfl

theorem okcB_iff (s p : Int) : okcB s p = true ↔ (s = -1 ∧ p = -1) ∨ (0 ≤ s ∧ s ≤ 1927 ∧ 0 ≤ p ∧ p ≤ 963) := by unfold okcB; simp
theorem okc_mS (s p n : Int) (hn : 0 ≤ n) (h : okcB s p = true) : okcB (mS s n) (mP s p n) = true := by
  rw [okcB_iff] at h ⊢
  unfold mS mP
  rcases h with ⟨rfl, rfl⟩ | ⟨a, b, c, d⟩
  · simp; omega
  · have x := nxS_bd s (min n 240) a b (by omega) (by omega)
    have y := nxP_bd s p (min n 240) a b (by omega) (by omega) c d
    rw [if_neg (by omega), if_neg (by omega)]
    exact .inr ⟨x.1, x.2, y.1, y.2⟩

theorem spec7 : Cav.Spec Try.prog 7 f7 := spec_of_calls fun xs r h => by
  unfold f7 at h
  split at h
  case h_2 => cases h
  cases h
  exact ⟨[], _, rfl, rfl, lives_any⟩
theorem spec8 : Cav.Spec Try.prog 8 f8 := spec_of_calls fun xs r h => by
  unfold f8 at h
  split at h
  case h_2 => cases h
  cases h
  exact ⟨[], _, rfl, rfl, new_any⟩
theorem fRight_of {xs : List AV} {r : AV} (h : fRight xs = some r) : ∃ s p t, xs = [clk s p t] ∧ r = .v (.bool (rightB s p t)) := by
  unfold fRight at h
  split at h
  case h_2 => cases h
  split at h
  case h_2 => cases h
  rename_i s p t ha
  cases h
  exact ⟨s, p, t, by rw [asClk_eq ha], rfl⟩
theorem spec10 : Cav.Spec Try.prog 10 fRight := spec_of_calls fun xs r h => by
  obtain ⟨s, p, t, rfl, rfl⟩ := fRight_of h
  exact ⟨[_], _, rfl, rfl, right_any s p t⟩
theorem spec11 : Cav.Spec Try.prog 11 fRight := spec_of_calls fun xs r h => by
  obtain ⟨s, p, t, rfl, rfl⟩ := fRight_of h
  exact ⟨[_], _, rfl, rfl, rright_any s p t⟩
theorem fMeasure_of {xs : List AV} {r : AV} (h : fMeasure xs = some r) : ∃ s p t n, xs = [clk s p t, .v (.int .u64 n)] ∧ r = mClk s p n ∧ 0 ≤ n ∧ ((s = -1 ∧ p = -1) ∨ (0 ≤ s ∧ s ≤ 1927 ∧ 0 ≤ p ∧ p ≤ 963)) := by
  unfold fMeasure at h
  split at h
  case h_2 => cases h
  split at h
  case h_2 => cases h
  rename_i s p t ha
  split at h
  case isFalse => cases h
  rename_i hc
  cases h
  exact ⟨s, p, t, _, by rw [asClk_eq ha], rfl, hc.1, (okcB_iff s p).1 hc.2⟩
theorem spec9 : Cav.Spec Try.prog 9 fMeasure := spec_of_calls fun xs r h => by
  obtain ⟨s, p, t, n, rfl, rfl, hn, ⟨rfl, rfl⟩ | ⟨a, b, c, d⟩⟩ := fMeasure_of h
  · exact ⟨[_, _], _, rfl, by simp [mClk, mS, mP, clk], fun w => measure_neg t w n hn⟩
  · have e : ¬ s = -1 := by omega
    exact ⟨[_, _], _, rfl, by simp [mClk, mS, mP, clk, e], fun w => measure_pos s p t w n hn a b c d⟩
theorem spec13 : Cav.Spec Try.prog 13 fMeasure := spec_of_calls fun xs r h => by
  obtain ⟨s, p, t, n, rfl, rfl, hn, ⟨rfl, rfl⟩ | ⟨a, b, c, d⟩⟩ := fMeasure_of h
  · exact ⟨[_, _], _, rfl, by simp [mClk, mS, mP, clk], fun w => rmeasure_neg t w n hn⟩
  · have e : ¬ s = -1 := by omega
    exact ⟨[_, _], _, rfl, by simp [mClk, mS, mP, clk, e], fun w => rmeasure_pos s p t w n hn a b c d⟩
theorem rightB_iff (s p t : Int) : rightB s p t = true ↔ (4 ≤ t ∧ t ≤ 240 ∧ ((s = -1 ∧ p = -1) ∨ (0 ≤ s ∧ s ≤ 1927 ∧ 0 ≤ p ∧ p ≤ 963))) := by
  unfold rightB; simp
theorem fDouble_of {xs : List AV} {r : AV} (h : fDouble xs = some r) : ∃ s p t, xs = [clk s p t] ∧ r = clk s p (bnd (t + t)) ∧ 4 ≤ t ∧ t ≤ 240 := by
  unfold fDouble at h
  split at h
  case h_2 => cases h
  split at h
  case h_2 => cases h
  rename_i s p t ha
  split at h
  case isFalse => cases h
  rename_i hc
  cases h
  have := (rightB_iff s p t).1 hc
  exact ⟨s, p, t, by rw [asClk_eq ha], rfl, this.1, this.2.1⟩
theorem spec12 : Cav.Spec Try.prog 12 fDouble := spec_of_calls fun xs r h => by
  obtain ⟨s, p, t, rfl, rfl, h0, h1⟩ := fDouble_of h
  have e : bnd (2 * bnd t) = bnd (t + t) := by unfold bnd; omega
  exact ⟨[_], _, rfl, rfl, fun w => by have := double_any s p t w; rw [e] at this; exact this⟩
theorem spec14 : Cav.Spec Try.prog 14 fDouble := spec_of_calls fun xs r h => by
  obtain ⟨s, p, t, rfl, rfl, h0, h1⟩ := fDouble_of h
  exact ⟨[_], _, rfl, rfl, fun w => rdouble_any s p t w h0 h1⟩

theorem g1 : GOk Try.prog Γ1 := by
  intro f F h
  unfold Γ1 at h
  split at h <;> cases h
  · exact ⟨spec7, enters_of Try.func7 rfl rfl⟩
  · exact ⟨spec8, enters_of Try.func8 rfl rfl⟩
  · exact ⟨spec9, enters_of Try.func9 rfl rfl⟩
  · exact ⟨spec10, enters_of Try.func10 rfl rfl⟩
  · exact ⟨spec11, enters_of Try.func11 rfl rfl⟩
  · exact ⟨spec12, enters_of Try.func12 rfl rfl⟩
  · exact ⟨spec13, enters_of Try.func13 rfl rfl⟩
  · exact ⟨spec14, enters_of Try.func14 rfl rfl⟩

end Go.Proofs.Ytlogglgfpeeheaa
