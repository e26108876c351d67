import Derived.Test.YtmaiomgopbjfoaaGreatDoorK16
set_option linter.all false
/- WorldArgs answers true, whatever the numbers are: what its tables say is so. -/
namespace Go.Proofs.YtmaiomgopbjfoaaGreatDoor
open Go Mir Go.RowKit
namespace Wa
/-- What the symbols mean. -/
def val (o i : Int) (n : Nat) : Int := match n with
  | 3 => i
  | 19 => i.tmod 7
  | 35 => 1000 + i.tmod 7
  | 51 => o
  | _ => 0
section
variable {o i : Int}
theorem dn (n : Nat) (h : n % 16 < 8) : den (mS (val o i)) 3 (s n) = .int (kindN (n % 16)) (val o i n) := den_n _ n 2 h
theorem says_cmp {b : BinOp} {n c : Nat} {v : Bool} {z : Int} (hn : n % 16 = 3) (hz : val o i n = z) (h : binOp b 3 (.int .i64 z) (.int .i64 (.ofNat c)) = pure (.bool v)) : (bn b (s n) (i64 c) (.bool v)).says Tryz.prog (mS (val o i)) :=
  says_int (k := .i64) (j := .i64) (a := z) (c := .ofNat c) (by rw [dn n (by omega), hn, hz]; rfl) rfl h
theorem wrap_i64 {z : Int} (h1 : -9223372036854775808 ≤ z) (h2 : z < 9223372036854775808) : IntKind.i64.wrap z = z := by
  simp [IntKind.wrap, IntKind.bits, IntKind.signed]
  omega
theorem tmod7 (i : Int) : -7 < i.tmod 7 ∧ i.tmod 7 < 7 := by
  have h1 := Int.tmod_lt_of_pos i (show (0 : Int) < 7 by decide)
  have h2 := Int.lt_tmod_of_pos i (show (0 : Int) < 7 by decide)
  omega
theorem says_rem : (bn .rem (s 3) (i64 7) (s 19)).says Tryz.prog (mS (val o i)) := by
  refine says_int (k := .i64) (j := .i64) (a := i) (c := .ofNat 7) (dn 3 (by decide)) rfl ?_
  rw [dn 19 (by decide)]
  rfl
theorem says_add : (bn .add (i64 1000) (s 19) (s 35)).says Tryz.prog (mS (val o i)) := by
  refine says_int (k := .i64) (j := .i64) (a := .ofNat 1000) (c := i.tmod 7) rfl (dn 19 (by decide)) ?_
  rw [dn 35 (by decide)]
  have h := tmod7 i
  have e : IntKind.i64.wrap (Int.ofNat 1000 + i.tmod 7) = 1000 + i.tmod 7 := wrap_i64 (by show _ ≤ (1000 : Int) + _; omega) (by show (1000 : Int) + _ < _; omega)
  simp only [binOp, Op.intArith, ne_eq, not_true, if_false]
  rw [e]
  rfl
theorem says_lo : (bn .lss (s 35) (i64 0) ff).says Tryz.prog (mS (val o i)) := says_cmp rfl rfl (bin_lss (decide_eq_false (by
  have h := tmod7 i
  show ¬ 1000 + i.tmod 7 < 0
  omega)))
theorem says_hi : (bn .geq (s 35) (i64 0) tt).says Tryz.prog (mS (val o i)) := says_cmp rfl rfl (bin_geq (decide_eq_true (by
  have h := tmod7 i
  show 1000 + i.tmod 7 ≥ 0
  omega)))
theorem says_N (h : i < 0) : ∀ e ∈ tabN, e.says Tryz.prog (mS (val o i)) := by
  intro e he
  simp only [tabN, List.mem_cons, List.not_mem_nil, or_false] at he
  rcases he with rfl | rfl | rfl | rfl | rfl | rfl | rfl | rfl | rfl | rfl
  · exact says_rem
  · exact says_add
  · exact says_cmp rfl rfl (bin_lss (decide_eq_true h))
  · exact says_cmp rfl rfl (bin_geq (decide_eq_false (by show ¬ i ≥ 0; omega)))
  · exact says_lo
  · exact says_hi
  · exact says_cmp rfl rfl (bin_neq (by rw [bne_iff_ne]; show i ≠ 0; omega))
  · exact says_cmp rfl rfl (bin_neq (by rw [bne_iff_ne]; show i ≠ 1; omega))
  · exact says_cmp rfl rfl (bin_eql (by rw [beq_eq_false_iff_ne]; show i ≠ 0; omega))
  · exact says_cmp rfl rfl (bin_eql (by rw [beq_eq_false_iff_ne]; show i ≠ 1; omega))
theorem says_G {c : Nat} (hc : 1 ≤ c) (h : (c : Int) < i) : ∀ e ∈ tabG c, e.says Tryz.prog (mS (val o i)) := by
  intro e he
  simp only [tabG, List.mem_cons, List.not_mem_nil, or_false] at he
  rcases he with rfl | rfl | rfl | rfl | rfl | rfl | rfl | rfl | rfl | rfl | rfl | rfl
  · exact says_rem
  · exact says_add
  · exact says_cmp rfl rfl (bin_lss (decide_eq_false (by show ¬ i < 0; omega)))
  · exact says_cmp rfl rfl (bin_geq (decide_eq_true (by show i ≥ 0; omega)))
  · exact says_cmp rfl rfl (bin_leq (decide_eq_false (by show ¬ i ≤ (c : Int); omega)))
  · exact says_cmp rfl rfl (bin_gtr (decide_eq_true (by show i > (c : Int); omega)))
  · exact says_lo
  · exact says_hi
  · exact says_cmp rfl rfl (bin_neq (by rw [bne_iff_ne]; show i ≠ 0; omega))
  · exact says_cmp rfl rfl (bin_neq (by rw [bne_iff_ne]; show i ≠ 1; omega))
  · exact says_cmp rfl rfl (bin_eql (by rw [beq_eq_false_iff_ne]; show i ≠ 0; omega))
  · exact says_cmp rfl rfl (bin_eql (by rw [beq_eq_false_iff_ne]; show i ≠ 1; omega))
theorem says_L (h : o < 1) : ∀ e ∈ tabL, e.says Tryz.prog (mS (val o i)) := by
  intro e he
  simp only [tabL, List.mem_cons, List.not_mem_nil, or_false] at he
  subst he
  exact says_cmp rfl rfl (bin_lss (decide_eq_true h))
theorem says_H (h : 6 < o) : ∀ e ∈ tabH, e.says Tryz.prog (mS (val o i)) := by
  intro e he
  simp only [tabH, List.mem_cons, List.not_mem_nil, or_false] at he
  rcases he with rfl | rfl
  · exact says_cmp rfl rfl (bin_lss (decide_eq_false (by show ¬ o < 1; omega)))
  · exact says_cmp rfl rfl (bin_gtr (decide_eq_true h))
theorem okSy {tab : List SyE} {kt : Tr (List KE)} (h1 : tab.all (SyE.ok 64) = true) (h2 : ∀ e ∈ tab, e.says Tryz.prog (mS (val o i)))
    (h3 : ∀ f l, kt.get f = some l → ∀ e ∈ l, e.ok 64 = true ∧ e.says Tryz.prog (mS (val o i)) f) (w : World) : POk Tryz.prog ⟨w, ρS 64 (mS (val o i))⟩ (symT tab kt) :=
  Tab.pok (symT_ok (mS_8 _) h1 h2 h3)
def args (o i : Int) : Array Value := #[.int .i64 o, .int .i64 i]
def Goal (o i : Int) (W : World) : Prop := Calls Tryz.prog 3 (args o i) W fun e W2 => e = .returned (.bool true) ∧ Below W.heap.size W W2
theorem goal_of {tab : List SyE} {ov iv : Value} (ho : den (mS (val o i)) 6 ov = .int .i64 o) (hi : den (mS (val o i)) 6 iv = .int .i64 i) (k1 : okS 64 6 ov = true) (k2 : okS 64 6 iv = true) (h1 : tab.all (SyE.ok 64) = true) (h2 : ∀ e ∈ tab, e.says Tryz.prog (mS (val o i)))
    (h3 : ∀ f l, KT.get f = some l → ∀ e ∈ l, e.ok 64 = true ∧ e.says Tryz.prog (mS (val o i)) f) (hr : run tab ov iv = true) (W : World) : Goal o i W := by
  obtain ⟨W', hW⟩ := resIs_some hr
  have h := calls_z (P := Tryz.prog) (mS_8 _) (by decide) (okSy h1 h2 h3 W) Tab.tb_ok (by simp only [List.all_cons, List.all_nil, k1, k2, Bool.and_self]) (by kernel_rfl) hW
  have e : (⟨[ov, iv].map (den (mS (val o i)) 6)⟩ : Array Value) = args o i := by
    simp only [List.map_cons, List.map_nil, ho, hi]; rfl
  rw [e] at h
  exact h
theorem ke_clone : KE.says Tryz.prog (mS (val o i)) 168 ⟨[Tab.ty292.z], Tab.ty292.z⟩ := KE_run (mS_8 _) (by decide) (fun w => Tab.pok0 _) Tab.tb_ok (by kernel_rfl) run_clone
theorem kl_ok : ∀ f l, KL.get f = some l → ∀ e ∈ l, e.ok 64 = true ∧ e.says Tryz.prog (mS (val o i)) f := by
  intro f l hg
  unfold KL at hg
  rw [Tr.get_put _ 63 _ 168 (by decide)] at hg
  split at hg
  · rename_i hf; subst hf; cases hg
    intro e he
    rw [List.mem_singleton] at he; subst he
    exact ⟨by kernel_rfl, ke_clone⟩
  · rw [Tr.get_lf] at hg; cases hg
theorem ke_lives : KE.says Tryz.prog (mS (val o i)) 4 ⟨[], tt⟩ :=
  KE_run (mS_8 _) (by decide) (okSy (tab := []) (kt := KL) (by rfl) (fun _ h => by cases h) kl_ok) Tab.tb_ok (by kernel_rfl) run_lives
theorem kt_ok : ∀ f l, KT.get f = some l → ∀ e ∈ l, e.ok 64 = true ∧ e.says Tryz.prog (mS (val o i)) f := by
  intro f l hg
  unfold KT at hg
  rw [Tr.get_put _ 63 _ 4 (by decide), Tr.get_put _ 63 _ 168 (by decide)] at hg
  split at hg
  · rename_i hf; subst hf; cases hg
    intro e he
    rw [List.mem_singleton] at he; subst he
    exact ⟨by kernel_rfl, ke_lives⟩
  split at hg
  · rename_i hf; subst hf; cases hg
    intro e he
    rw [List.mem_singleton] at he; subst he
    exact ⟨by kernel_rfl, ke_clone⟩
  · rw [Tr.get_lf] at hg; cases hg
theorem den3 : den (mS (val o i)) 6 (s 3) = .int .i64 i := den_n _ 3 5 (by decide)
theorem den51 : den (mS (val o i)) 6 (s 51) = .int .i64 o := den_n _ 51 5 (by decide)
end
end Wa
end Go.Proofs.YtmaiomgopbjfoaaGreatDoor

