import Derived.Test.YtlogglgfpeeheaaW4
namespace Go.Proofs.Ytlogglgfpeeheaa
open Go.RowKit

/-! The plain law: whoever measures the same time comes to rest. -/
def upS : Nat → Int
  | 0 => 1927
  | k + 1 => upS k - upS k / 8
def loS : Nat → Int
  | 0 => -1920
  | k + 1 => loS k - loS k / 8
def upP : Nat → Int
  | 0 => 963
  | k + 1 => upP k + (max (upS k / 8) (-(loS k / 8)) - upP k / 4)

theorem upS_nonneg : ∀ k, 0 ≤ upS k
  | 0 => by decide
  | k + 1 => by have := upS_nonneg k; unfold upS; omega
theorem loS_nonpos : ∀ k, loS k ≤ 0
  | 0 => by decide
  | k + 1 => by have := loS_nonpos k; unfold loS; omega

/-- Where a clock is behind k rounds of one time r (240 at most). -/
def Near (r : Int) (k : Nat) (s p t : Int) : Prop :=
  (k = 0 ∧ s = -1 ∧ p = -1) ∨
  (0 ≤ s ∧ s ≤ 1927 ∧ 0 ≤ p ∧ p ≤ 963 ∧ loS k ≤ s - 8 * r ∧ s - 8 * r ≤ upS k ∧ p ≤ upP k ∧ (0 < k → t = wt s p))

theorem near_start (r s p t : Int) (h0 : 0 ≤ r) (h1 : r ≤ 240) (h : (s = -1 ∧ p = -1) ∨ (0 ≤ s ∧ s ≤ 1927 ∧ 0 ≤ p ∧ p ≤ 963)) : Near r 0 s p t := by
  rcases h with ⟨a, b⟩ | ⟨a, b, c, d⟩
  · exact .inl ⟨rfl, a, b⟩
  · exact .inr ⟨a, b, c, d, by unfold loS; omega, by unfold upS; omega, by unfold upP; omega, fun h => by omega⟩

theorem upP_one : upP 1 = 963 := by decide
theorem near_neg (r : Int) (h0 : 0 ≤ r) (h1 : r ≤ 240) : Near r 1 (8 * r) (2 * r) (wt (8 * r) (2 * r)) := by
  have a := loS_nonpos 1
  have b := upS_nonneg 1
  exact .inr ⟨by omega, by omega, by omega, by omega, by omega, by omega, by rw [upP_one]; omega, fun _ => rfl⟩

theorem near_pos (r : Int) (k : Nat) (s p : Int) (h0 : 0 ≤ r) (h1 : r ≤ 240) (a : 0 ≤ s) (b : s ≤ 1927) (c : 0 ≤ p) (d : p ≤ 963)
    (e : loS k ≤ s - 8 * r) (f : s - 8 * r ≤ upS k) (g : p ≤ upP k) : Near r (k + 1) (nxS s r) (nxP s p r) (wt (nxS s r) (nxP s p r)) := by
  have bs := nxS_bd s r a b h0 h1
  have bp := nxP_bd s p r a b h0 h1 c d
  have hu := upS_nonneg k
  have hl := loS_nonpos k
  refine .inr ⟨bs.1, bs.2, bp.1, bp.2, ?_, ?_, ?_, fun _ => rfl⟩
  · unfold loS nxS; omega
  · unfold upS nxS; omega
  · unfold upP nxP; omega

theorem loS_end : loS 120 = 0 := by decide +kernel
theorem upS_end : upS 120 = 7 := by decide +kernel
theorem upP_end : upP 120 = 3 := by decide +kernel

theorem near_end (n r s p t : Int) (hn : 0 ≤ n) (hr : min n 240 = r) (h : Near r 120 s p t) :
    min n 240 ≤ t ∧ 4 ≤ t ∧ t ≤ min (max (n + 12) 4) 240 := by
  rcases h with ⟨a, _⟩ | ⟨a, b, c, d, e, f, g, ht⟩
  · omega
  · rw [loS_end] at e
    rw [upS_end] at f
    rw [upP_end] at g
    rw [ht (by omega)]
    unfold wt bnd
    omega

end Go.Proofs.Ytlogglgfpeeheaa
