import Derived.Test.YtlogglgfpeeheaaA2
namespace Go.Proofs.Ytlogglgfpeeheaa
open Go Go.RowKit Cav

theorem pev_neq0 (x y : Operand) (g : Operand → Value) (o : Oper) (n) (ho : o.op = .binOp .neq 25 x y n) (s p t s' p' t' : Int) (hx : g x = .agg #[.int .i64 s, .int .i64 p, .int .i64 t]) (hy : g y = .agg #[.int .i64 s', .int .i64 p', .int .i64 t']) :
    pev Try.prog (execOp g o) = some (.value (.bool (!(s == s' && (p == p' && t == t'))))) := by
  refine pev_eq fun w => ?_
  unfold execOp
  rw [ho]
  simp only []
  rw [hx, hy]
  simp [go_sem]
  by_cases h1 : s = s' <;> by_cases h2 : p = p' <;> by_cases h3 : t = t' <;> simp [h1, h2, h3]
@[simp] theorem pev_neq (x y : Operand) (g : Operand → Value) (d : Option Tmp) (n ty : TypeId) (pos : String) (af : Array Edge) (gu : Option (Nat × Bool)) (hx : isClk (g x) = true) (hy : isClk (g y) = true) :
    pev Try.prog (execOp g ⟨d, .binOp .neq 25 x y n, ty, pos, af, gu⟩) = some (.value (.bool (!clkEq (g x) (g y)))) := by
  unfold isClk at hx hy
  cases e1 : asClk (.v (g x)) with
  | none => rw [e1] at hx; cases hx
  | some q =>
    cases e2 : asClk (.v (g y)) with
    | none => rw [e2] at hy; cases hy
    | some q' =>
      obtain ⟨s, p, t⟩ := q
      obtain ⟨s', p', t'⟩ := q'
      have h1 := asClk_eq e1
      have h2 := asClk_eq e2
      simp only [clk, AV.v.injEq] at h1 h2
      rw [pev_neq0 x y g _ n rfl s p t s' p' t' h1 h2]
      simp only [clkEq, e1, e2]
theorem pev_build (g : Operand → Value) (d : Option Tmp) (ty : TypeId) (pos : String) (af : Array Edge) (gu : Option (Nat × Bool)) (a b c : Operand) (hg : isClk (.agg #[g a, g b, g c]) = true) :
    pev Try.prog (execOp g ⟨d, .build 25 #[(0, a), (1, b), (2, c)], ty, pos, af, gu⟩) = some (.value (.agg #[g a, g b, g c])) := by
  unfold isClk at hg
  cases e : asClk (.v (.agg #[g a, g b, g c])) with
  | none => rw [e] at hg; cases hg
  | some q =>
    obtain ⟨s, p, t⟩ := q
    have h := asClk_eq e
    simp only [clk, AV.v.injEq, Value.agg.injEq] at h
    have h1 : g a = .int .i64 s := by simpa using congrArg (fun x : Array Value => x.getD 0 undef) h
    have h2 : g b = .int .i64 p := by simpa using congrArg (fun x : Array Value => x.getD 1 undef) h
    have h3 : g c = .int .i64 t := by simpa using congrArg (fun x : Array Value => x.getD 2 undef) h
    refine pev_eq fun w => ?_
    simp [go_sem, h1, h2, h3]
@[simp] theorem pev_buildc (g : Operand → Value) (d : Option Tmp) (ty : TypeId) (pos : String) (af : Array Edge) (gu : Option (Nat × Bool)) (a b c : Int) (hg : ∀ x, g (.const x) = x) :
    pev Try.prog (execOp g ⟨d, .build 25 #[(0, .const (.int .i64 a)), (1, .const (.int .i64 b)), (2, .const (.int .i64 c))], ty, pos, af, gu⟩) = some (.value (.agg #[.int .i64 a, .int .i64 b, .int .i64 c])) := by
  rw [pev_build _ _ _ _ _ _ _ _ _ (by simp [hg])]
  simp [hg]
@[simp] theorem ops_build (a b c : Operand) : (Op.build 25 #[(0, a), (1, b), (2, c)]).operands = #[a, b, c] := by simp [Op.operands]
@[simp] theorem q_sl22 : sliceT Try.prog 22 = some 1 := by kernel_rfl
@[simp] theorem q_sl33 : sliceT Try.prog 33 = some 1 := by kernel_rfl
@[simp] theorem q_row27 : rowT Try.prog 27 = some (false, 1) := by kernel_rfl
@[simp] theorem q_int3 : intT Try.prog 3 = some .i64 := by kernel_rfl

open Classical in
noncomputable def f5 : Fun := fun xs =>
  if ∃ (zs : List Int) (bs : List Bool), xs = [.sl 1 (zs.map fun z => .v (.int .u64 z)), .sl 1 (bs.map fun b => .v (.bool b))] ∧ (∀ z ∈ zs, 0 ≤ z) then some (.v (.bool true)) else none

def st5 (zs : List Int) (bs : List Bool) (s p t : Int) (i : Int) : St :=
  mkSt [(1, .sl 1 (bs.map fun b => .v (.bool b))), (5, .ptr 5 0), (6, .ptr 6 0), (25, .sl 1 (zs.map fun z => .v (.int .u64 z))), (26, .v (.int .i64 zs.length)), (27, .v (.int .i64 i))]
    [(5, [.v (.int .i64 s), .v (.int .i64 p), .v (.int .i64 t)]), (6, [.v (.int .i64 s), .v (.int .i64 p), .v (.int .i64 t)])]
def J5 (zs : List Int) (bs : List Bool) (n : Nat) (st : St) : Prop :=
  ∃ (i : Nat) (s p t : Int), n = 201 - i ∧ i ≤ zs.length ∧ rightB s p t = true ∧ st = st5 zs bs s p t i

theorem bnd_ge (t : Int) (h1 : 4 ≤ t) (h2 : t ≤ 240) : ¬ bnd (t + t) < t := by unfold bnd; omega
theorem right_dbl (s p t : Int) (h : rightB s p t = true) : rightB s p (bnd (t + t)) = true := by
  rw [rightB_iff] at h ⊢; exact ⟨by unfold bnd; omega, by unfold bnd; omega, h.2.2⟩
theorem right_meas (s p t n : Int) (hn : 0 ≤ n) (h : rightB s p t = true) : rightB (mS s n) (mP s p n) (wt (mS s n) (mP s p n)) = true := by
  have hok : okcB s p = true := by rw [okcB_iff]; exact ((rightB_iff s p t).1 h).2.2
  rw [rightB_iff]; exact ⟨by unfold wt bnd; omega, by unfold wt bnd; omega, (okcB_iff _ _).1 (okc_mS s p n hn hok)⟩

theorem th_exit {n : St → Prop} {Q : Exit → St → Prop} {id : Nat} {s : St} (h : Q (.exit id) s) : Then n Q (.exit id) s := h
theorem in_exit {Q : Exit → St → Prop} {id : Nat} {s : St} (h : Q .normal s) : InBlock id Q (.exit id) s := by simpa [InBlock] using h

set_option maxHeartbeats 4000000 in
theorem spec5 : Cav.Spec Try.prog 5 f5 := by
  refine spec_of_tri Try.func5 rfl ?_
  intro xs r h
  unfold f5 at h
  split at h
  case isFalse => cases h
  rename_i he
  cases h
  obtain ⟨zs, bs, rfl, hz⟩ := he
  refine ⟨Nat.le_of_ble_eq_true rfl, ?_⟩
  refine tri_step [0, 1] [] g1 nodraw ⟨_, by simp; exact Is.mk, ?_⟩
  by_cases hlen : (200 : Int) < zs.length
  · refine tri_seq (tri_step [0, 1, 21] [] g1 nodraw ⟨_, by simp [Γ1, f7, goInt, hlen]; exact Is.mk, ?_⟩)
    refine tri_cond (b := true) rfl (fun _ => ?_) (fun hb => by cases hb)
    refine tri_step [4] [] g1 nodraw ⟨_, by simp [Γ1, f7]; exact Is.mk, ?_⟩
    exact tri_ret ⟨_, rfl, rfl, rfl⟩
  by_cases hlen2 : (200 : Int) < bs.length
  · refine tri_seq (tri_step [0, 1, 21] [] g1 nodraw ⟨_, by simp [Γ1, f7, goInt, hlen, hlen2]; exact Is.mk, ?_⟩)
    refine tri_cond (b := true) rfl (fun _ => ?_) (fun hb => by cases hb)
    refine tri_step [4] [] g1 nodraw ⟨_, by simp [Γ1, f7]; exact Is.mk, ?_⟩
    exact tri_ret ⟨_, rfl, rfl, rfl⟩
  refine tri_seq (tri_step [0, 1, 21] [] g1 nodraw ⟨_, by simp [Γ1, f7, goInt, hlen, hlen2]; exact Is.mk, ?_⟩)
  refine tri_cond (b := false) rfl (fun hb => by cases hb) (fun _ => tri_skip ?_)
  show Tri _ _ _ _ _
  refine tri_step [0, 1, 5, 6] [5, 6] g1 nodraw ⟨_, by simp [Γ1, f8, clk]; exact Is.mk, ?_⟩
  refine tri_seq (tri_step [1, 5, 6, 25, 26, 27] [5, 6] g1 nodraw ⟨_, by simp [goInt]; exact Is.mk, ?_⟩)
  refine tri_block (tri_loop (J5 zs bs) 201 (st5 zs bs (-1) (-1) 10 0) (fun _ _ _ _ h => h) ⟨0, -1, -1, 10, rfl, Nat.zero_le _, by decide, rfl⟩ ?_)
  rintro n _ ⟨i, s, p, t, rfl, hi, hw, rfl⟩
  unfold st5
  by_cases hlt : (i : Int) < zs.length
  case neg =>
    refine tri_step [1, 5, 6, 25, 26, 27, 28] [5, 6] g1 nodraw ⟨_, by simp [hlt]; exact Is.mk, ?_⟩
    refine tri_seq (tri_cond (b := false) rfl (fun hb => by cases hb) (fun _ => tri_exit ?_))
    refine th_exit (th_exit (in_exit ?_))
    show Tri _ _ _ _ _
    refine tri_step [4] [] g1 nodraw ⟨_, by simp; exact Is.mk, ?_⟩
    exact tri_ret ⟨_, rfl, rfl, rfl⟩
  case pos =>
    obtain ⟨z, hzi⟩ : ∃ z, zs[i]? = some z := ⟨zs[i]'(by omega), by simp⟩
    have hz0 : 0 ≤ z := hz z (List.mem_of_getElem? hzi)
    have hok : okcB s p = true := by rw [okcB_iff]; exact ((rightB_iff s p t).1 hw).2.2
    have hb := (rightB_iff s p t).1 hw
    have hge := bnd_ge t hb.1 hb.2.1
    have hr1 := right_dbl s p t hw
    have hr2 := right_meas s p t z hz0 hw
    have hnn : (0 : Int) ≤ (i : Int) := by omega
    have hwr : IntKind.i64.wrap ((i : Int) + 1) = (i : Int) + 1 := IntWalk.i64_in _ (by omega)
    refine tri_step [1, 5, 6, 25, 26, 27, 28] [5, 6] g1 nodraw ⟨_, by simp [hlt]; exact Is.mk, ?_⟩
    refine tri_seq (tri_cond (b := true) rfl (fun _ => tri_skip ?_) (fun hb => by cases hb))
    show Tri _ _ _ _ _
    refine tri_seq (tri_block ?_)
    refine tri_step [1, 5, 6, 7, 8, 25, 26, 27] [5, 6] g1 nodraw ⟨_, by simp [hzi, hnn]; exact Is.mk, ?_⟩
    by_cases hl : (i : Int) < bs.length
    case neg =>
      refine tri_seq (tri_step [1, 5, 6, 8, 25, 26, 27, 41] [5, 6] g1 nodraw ⟨_, by simp [goInt, hl]; exact Is.mk, ?_⟩)
      refine tri_cond (b := false) rfl (fun hb => by cases hb) (fun _ => ?_)
      refine tri_last [1, 5, 6, 25, 26, 27] [5, 6] g1 (fun _ => ⟨q_mixed, by kernel_rfl⟩) ⟨_, by simp [Γ1, fMeasure, hok, hz0, mClk, clk]; exact Is.mk, ?_⟩
      show Tri _ _ _ _ _
      refine tri_step [1, 5, 6, 25, 26, 27, 65] [5, 6] g1 nodraw ⟨_, by simp [Γ1, fRight, hr2]; exact Is.mk, ?_⟩
      refine tri_cond (b := false) rfl (fun hb => by cases hb) (fun _ => tri_skip ?_)
      show Tri _ _ _ _ _
      refine tri_last [1, 5, 6, 25, 26, 27] [5, 6] g1 nodraw ⟨_, by simp [hwr]; exact Is.mk, ?_⟩
      exact ⟨201 - (i + 1), _, by omega, fun _ _ _ _ h => h, i + 1, _, _, _, rfl, by omega, hr2, rfl⟩
    case pos =>
      obtain ⟨b, hbi⟩ : ∃ b, bs[i]? = some b := ⟨bs[i]'(by omega), by simp⟩
      cases b with
      | false =>
        refine tri_seq (tri_step [1, 5, 6, 8, 25, 26, 27, 41] [5, 6] g1 nodraw ⟨_, by simp [goInt, hl, hbi, hnn]; exact Is.mk, ?_⟩)
        refine tri_cond (b := false) rfl (fun hb => by cases hb) (fun _ => ?_)
        refine tri_last [1, 5, 6, 25, 26, 27] [5, 6] g1 (fun _ => ⟨q_mixed, by kernel_rfl⟩) ⟨_, by simp [Γ1, fMeasure, hok, hz0, mClk, clk]; exact Is.mk, ?_⟩
        show Tri _ _ _ _ _
        refine tri_step [1, 5, 6, 25, 26, 27, 65] [5, 6] g1 nodraw ⟨_, by simp [Γ1, fRight, hr2]; exact Is.mk, ?_⟩
        refine tri_cond (b := false) rfl (fun hb => by cases hb) (fun _ => tri_skip ?_)
        show Tri _ _ _ _ _
        refine tri_last [1, 5, 6, 25, 26, 27] [5, 6] g1 nodraw ⟨_, by simp [hwr]; exact Is.mk, ?_⟩
        exact ⟨201 - (i + 1), _, by omega, fun _ _ _ _ h => h, i + 1, _, _, _, rfl, by omega, hr2, rfl⟩
      | true =>
        refine tri_seq (tri_step [1, 5, 6, 8, 25, 26, 27, 41] [5, 6] g1 nodraw ⟨_, by simp [goInt, hl, hbi, hnn]; exact Is.mk, ?_⟩)
        refine tri_cond (b := true) rfl (fun _ => ?_) (fun hb => by cases hb)
        refine tri_step [1, 5, 6, 9, 25, 26, 27] [5, 6] g1 nodraw ⟨_, by simp; exact Is.mk, ?_⟩
        refine tri_step [1, 5, 6, 9, 25, 26, 27] [5, 6] g1 (fun _ => ⟨q_mixed, by kernel_rfl⟩) ⟨_, by simp [Γ1, fDouble, hw, clk]; exact Is.mk, ?_⟩
        refine tri_step [1, 5, 6, 25, 26, 27, 51] [5, 6] g1 nodraw ⟨_, by simp [hge]; exact Is.mk, ?_⟩
        refine tri_cond (b := false) rfl (fun hb => by cases hb) (fun _ => tri_skip ?_)
        show Tri _ _ _ _ _
        refine tri_step [1, 5, 6, 25, 26, 27, 65] [5, 6] g1 nodraw ⟨_, by simp [Γ1, fRight, hr1]; exact Is.mk, ?_⟩
        refine tri_cond (b := false) rfl (fun hb => by cases hb) (fun _ => tri_skip ?_)
        show Tri _ _ _ _ _
        refine tri_last [1, 5, 6, 25, 26, 27] [5, 6] g1 nodraw ⟨_, by simp [hwr]; exact Is.mk, ?_⟩
        exact ⟨201 - (i + 1), _, by omega, fun _ _ _ _ h => h, i + 1, _, _, _, rfl, by omega, hr1, rfl⟩

end Go.Proofs.Ytlogglgfpeeheaa
