import Derived.Test.YtlogglgfpeeheaaW3
import Derived.Lib.Hide
namespace Go.Proofs.Ytlogglgfpeeheaa
open Go.RowKit

theorem measure_new (w : World) :
    Calls Try.prog 9 #[.agg #[.int .i64 (-1), .int .i64 (-1), .int .i64 10], .int .u64 10] w fun e w' => e = .returned (.agg #[.int .i64 80, .int .i64 20, .int .i64 30]) ∧ Below w.heap.size w w' :=
  (measure_neg 10 w 10 (by omega)).mono fun _ _ ⟨a, b⟩ => ⟨a, b⟩

theorem measure_again (w : World) :
    Calls Try.prog 9 #[.agg #[.int .i64 80, .int .i64 20, .int .i64 30], .int .u64 10] w fun e w' => e = .returned (.agg #[.int .i64 80, .int .i64 15, .int .i64 25]) ∧ Below w.heap.size w w' :=
  (measure_pos 80 20 30 w 10 (by omega) (by omega) (by omega) (by omega) (by omega)).mono fun _ _ ⟨a, b⟩ => ⟨a, b⟩

theorem ext_trans {w w1 w2 : World} (h : Below w.heap.size w w1) (k : Below w1.heap.size w1 w2) : Below w.heap.size w w2 := h.trans (k.mono h.size)
theorem ext_alloc {w w1 : World} (h : Below w.heap.size w w1) (o : Obj) : Below w.heap.size w (w1.alloc o) := h.alloc h.size o

set_option maxHeartbeats 1000000 in
theorem lives_any (w : World) :
    Calls Try.prog 7 #[] w fun e w' => e = .returned (.bool true) ∧ Below w.heap.size w w' := by
  go_enter Try.func7, Try.ntmps7
  go_wp2_with fail
  refine (new_any _).mono ?_
  rintro e w1 ⟨rfl, hb1⟩
  go_wp2_with fail
  refine (measure_new _).mono ?_
  rintro e w2 ⟨rfl, hb2⟩
  go_wp2_with fail
  refine (measure_again _).mono ?_
  rintro e w3 ⟨rfl, hb3⟩
  go_wp2_with fail
  go_ret
  exact ⟨rfl, ext_trans (ext_alloc (ext_trans hb1 hb2) _) hb3⟩

/-- The cells of a clock's variable. -/
structure Clk (w : World) (B : Nat) (s p t : Int) : Prop where
  c0 : w.cell? ⟨B, 0, none⟩ = some (.int .i64 s)
  c1 : w.cell? ⟨B, 1, none⟩ = some (.int .i64 p)
  c2 : w.cell? ⟨B, 2, none⟩ = some (.int .i64 t)
  f0 : w.frozen? ⟨B, 0, none⟩ = false
  f1 : w.frozen? ⟨B, 1, none⟩ = false
  f2 : w.frozen? ⟨B, 2, none⟩ = false
  lt : B < w.heap.size

theorem measure_neg_r (t : Int) (w : World) (n r : Int) (hr : min n 240 = r) (hn : 0 ≤ n) :
    Calls Try.prog 9 #[.agg #[.int .i64 (-1), .int .i64 (-1), .int .i64 t], .int .u64 n] w fun e w' => e = .returned (.agg #[.int .i64 (8 * r), .int .i64 (2 * r), .int .i64 (wt (8 * r) (2 * r))]) ∧ Below w.heap.size w w' := by
  subst hr; exact measure_neg t w n hn

theorem measure_pos_r (s p t : Int) (w : World) (n r : Int) (hr : min n 240 = r) (hn : 0 ≤ n) (h0 : 0 ≤ s) (h1 : s ≤ 1927) (h4 : 0 ≤ p) (h5 : p ≤ 963) :
    Calls Try.prog 9 #[.agg #[.int .i64 s, .int .i64 p, .int .i64 t], .int .u64 n] w fun e w' => e = .returned (.agg #[.int .i64 (nxS s r), .int .i64 (nxP s p r), .int .i64 (wt (nxS s r) (nxP s p r))]) ∧ Below w.heap.size w w' := by
  subst hr; exact measure_pos s p t w n hn h0 h1 h4 h5

theorem double_lo (s p q : Int) (w : World) (h0 : 4 ≤ q) (h1 : 2 * q ≤ 240) :
    Calls Try.prog 12 #[.agg #[.int .i64 s, .int .i64 p, .int .i64 q]] w fun e w' => e = .returned (.agg #[.int .i64 s, .int .i64 p, .int .i64 (2 * q)]) ∧ Below w.heap.size w w' := by
  have h : bnd (2 * bnd q) = 2 * q := by unfold bnd; omega
  have := double_any s p q w
  rw [h] at this; exact this
theorem double_hi (s p q : Int) (w : World) (h1 : 240 < 2 * q) :
    Calls Try.prog 12 #[.agg #[.int .i64 s, .int .i64 p, .int .i64 q]] w fun e w' => e = .returned (.agg #[.int .i64 s, .int .i64 p, .int .i64 240]) ∧ Below w.heap.size w w' := by
  have h : bnd (2 * bnd q) = 240 := by unfold bnd; omega
  have := double_any s p q w
  rw [h] at this; exact this
theorem Clk.set {w : World} {B : Nat} {s p t : Int} (h : Clk w B s p t) (s' p' t' : Int) :
    Clk (((w.setCell ⟨B, 0, none⟩ (.int .i64 s')).setCell ⟨B, 1, none⟩ (.int .i64 p')).setCell ⟨B, 2, none⟩ (.int .i64 t')) B s' p' t' := by
  obtain ⟨a, b, c, d, e, f, g⟩ := h
  constructor <;> simp [go_sem, a, b, c, d, e, f, g]
theorem below_set3 {w0 w : World} {B : Nat} (h : Below w0.heap.size w0 w) (hB : w0.heap.size ≤ B) (x y z : Value) :
    Below w0.heap.size w0 (((w.setCell ⟨B, 0, none⟩ x).setCell ⟨B, 1, none⟩ y).setCell ⟨B, 2, none⟩ z) :=
  ((h.setCell hB _).setCell hB _).setCell hB _
theorem wt_lo (s p : Int) : 4 ≤ wt s p := bnd_lo _
theorem wt_hi (s p : Int) : wt s p ≤ 240 := bnd_hi _
theorem wt_dbl (r : Int) (h0 : 0 ≤ r) (h1 : r ≤ 240) : wt (nxS (8 * r) r) (nxP (8 * r) (2 * r) r) ≤ max (wt (8 * r) (2 * r)) 4 := by
  unfold wt nxS nxP bnd; omega
theorem rightB_measure (r : Int) (h0 : 0 ≤ r) (h1 : r ≤ 240) : rightB (nxS (8 * r) r) (nxP (8 * r) (2 * r) r) (wt (nxS (8 * r) r) (nxP (8 * r) (2 * r) r)) = true := by
  unfold rightB
  have a := wt_lo (nxS (8 * r) r) (nxP (8 * r) (2 * r) r)
  have b := wt_hi (nxS (8 * r) r) (nxP (8 * r) (2 * r) r)
  have c := nxS_bd (8 * r) r (by omega) (by omega) h0 h1
  have d := nxP_bd (8 * r) (2 * r) r (by omega) (by omega) h0 h1 (by omega) (by omega)
  simp; omega

theorem Clk.ext {w w1 : World} {B : Nat} {s p t : Int} (h : Clk w B s p t) (hb : Below w.heap.size w w1) : Clk w1 B s p t where
  c0 := by rw [hb.cell (p := ⟨B, 0, none⟩) h.lt]; exact h.c0
  c1 := by rw [hb.cell (p := ⟨B, 1, none⟩) h.lt]; exact h.c1
  c2 := by rw [hb.cell (p := ⟨B, 2, none⟩) h.lt]; exact h.c2
  f0 := by rw [hb.frozen (p := ⟨B, 0, none⟩) h.lt]; exact h.f0
  f1 := by rw [hb.frozen (p := ⟨B, 1, none⟩) h.lt]; exact h.f1
  f2 := by rw [hb.frozen (p := ⟨B, 2, none⟩) h.lt]; exact h.f2
  lt := Nat.lt_of_lt_of_le h.lt hb.size

set_option maxHeartbeats 1000000 in
theorem rtoDoubles_any (ticks n : Int) (w : World) (ht0 : 0 ≤ ticks) (ht1 : ticks ≤ 255) (hn0 : 0 ≤ n) (hn1 : n ≤ 255) :
    Calls Try.prog 6 #[.int .u8 ticks, .int .u8 n] w fun e w' => e = .returned (.bool true) ∧ Below w.heap.size w w' := by
  obtain ⟨r, hr⟩ : ∃ r, min ticks 240 = r := ⟨_, rfl⟩
  have hr0 : 0 ≤ r := by omega
  have hr1 : r ≤ 240 := by omega
  have hm0 : 0 ≤ n % 20 := by omega
  have hm1 : n % 20 ≤ 19 := by omega
  have Hr := Lib.hid hr
  clear hr
  obtain ⟨t0, ht0'⟩ : ∃ t0, wt (8 * r) (2 * r) = t0 := ⟨_, rfl⟩
  have hq0 : 4 ≤ t0 := by rw [← ht0']; exact wt_lo _ _
  have hq1 : t0 ≤ 240 := by rw [← ht0']; exact wt_hi _ _
  have HT := Lib.hid ht0'
  clear ht0'
  go_enter Try.func6, Try.ntmps6
  go_wp2_with fail
  refine (lives_any _).mono ?_
  rintro e w1 ⟨rfl, hb1⟩
  go_wp2_with fail
  refine (new_any _).mono ?_
  rintro e w2 ⟨rfl, hb2⟩
  go_wp2_with fail
  refine (measure_neg_r 10 _ ticks r Hr.out ht0).mono ?_
  rw [HT.out]
  rintro e w3 ⟨rfl, hb3⟩
  have hbig := ext_trans (ext_trans hb1 hb2) hb3
  clear hb1 hb2 hb3
  go_wp2_with fail
  have hB4 : Below w.heap.size w (w3.alloc (Obj.cells #[Value.int IntKind.i64 (8 * r), Value.int IntKind.i64 (2 * r), Value.int IntKind.i64 t0] 25)) := ext_alloc hbig _
  have hCk : Clk (w3.alloc (Obj.cells #[Value.int IntKind.i64 (8 * r), Value.int IntKind.i64 (2 * r), Value.int IntKind.i64 t0] 25)) w3.heap.size (8 * r) (2 * r) t0 := by
    constructor <;> simp
  generalize w3.alloc (Obj.cells #[Value.int IntKind.i64 (8 * r), Value.int IntKind.i64 (2 * r), Value.int IntKind.i64 t0] 25) = w4 at *
  have hBge : w.heap.size ≤ w3.heap.size := hbig.size
  clear hbig
  generalize w3.heap.size = B at *
  go_loopw [7, 20] (fun v i wr => ∃ q k : Int, 4 ≤ q ∧ q ≤ 240 ∧ 0 ≤ k ∧ k ≤ n % 20 ∧ v = .int .i64 q ∧ i = .int .u8 k ∧ Clk wr B (8 * r) (2 * r) q ∧ Below w.heap.size w wr) (fun _ i _ => (19 - intOf i).toNat)
  case atStart => exact ⟨t0, 0, hq0, hq1, by omega, by omega, rfl, rfl, hCk, hB4⟩
  case round =>
    obtain ⟨q, k, hl0, hl1, hk0, hk1, rfl, rfl, hc, hb⟩ := hrel
    clear hCk hB4
    have g0 := hc.c0
    have g1 := hc.c1
    have g2 := hc.c2
    have e0 := hc.f0
    have e1 := hc.f1
    have e2 := hc.f2
    have el := hc.lt
    by_cases hlt : k < n % 20
    · by_cases hz : 2 * q ≤ 240
      · go_wp2_with fail
        refine (double_lo _ _ _ _ hl0 hz).mono ?_
        rintro e w5 ⟨rfl, hb5⟩
        have hc5 := hc.ext hb5
        clear g0 g1 g2 e0 e1 e2
        have g0 := hc5.c0
        have g1 := hc5.c1
        have g2 := hc5.c2
        have e0 := hc5.f0
        have e1 := hc5.f1
        have e2 := hc5.f2
        go_wp2_with fail
        refine ⟨⟨2 * q, k + 1, by omega, hz, by omega, by omega, rfl, rfl, ?_, ?_⟩, ?_⟩
        · exact hc5.set _ _ _
        · exact below_set3 (ext_trans hb hb5) hBge _ _ _
        · simp [intOf]; omega
      · go_wp2_with fail
        refine (double_hi _ _ _ _ (by omega)).mono ?_
        rintro e w5 ⟨rfl, hb5⟩
        have hc5 := hc.ext hb5
        clear g0 g1 g2 e0 e1 e2
        have g0 := hc5.c0
        have g1 := hc5.c1
        have g2 := hc5.c2
        have e0 := hc5.f0
        have e1 := hc5.f1
        have e2 := hc5.f2
        go_wp2_with fail
        refine ⟨⟨240, k + 1, by omega, by omega, by omega, by omega, rfl, rfl, ?_, ?_⟩, ?_⟩
        · exact hc5.set _ _ _
        · exact below_set3 (ext_trans hb hb5) hBge _ _ _
        · simp [intOf]; omega
    · go_wp2_with fail
      refine (measure_pos_r (8 * r) (2 * r) q _ ticks r Hr.out ht0 (by omega) (by omega) (by omega) (by omega)).mono ?_
      rintro e w6 ⟨rfl, hb6⟩
      have hd0 := wt_dbl r hr0 hr1
      rw [HT.out] at hd0
      have hd1 := rightB_measure r hr0 hr1
      generalize nxS (8 * r) r = S1 at *
      generalize nxP (8 * r) (2 * r) r = P1 at *
      generalize wt S1 P1 = T1 at *
      have hd2 : T1 ≤ t0 := by omega
      have Hd1 := Lib.hid hd1
      clear hd1 hd0
      go_wp2_with fail
      refine (right_any _ _ _ _).mono ?_
      rw [Hd1.out]
      rintro e w7 ⟨rfl, hb7⟩
      go_wp2_with fail
      go_ret
      exact ⟨rfl, ext_trans (ext_alloc (ext_trans hb hb6) _) hb7⟩

end Go.Proofs.Ytlogglgfpeeheaa
