import Derived.Test.YtlogglgfpeeheaaW5
namespace Go.Proofs.Ytlogglgfpeeheaa
open Go.RowKit

/-- Right, or new: what a clock may be between calls. -/
def Okc (s p : Int) : Prop := (s = -1 ∧ p = -1) ∨ (0 ≤ s ∧ s ≤ 1927 ∧ 0 ≤ p ∧ p ≤ 963)

/-- One measure of a clock that is Okc. -/
theorem measure_okc (s p t : Int) (w : World) (n : Int) (hn : 0 ≤ n) (h : Okc s p) :
    Calls Try.prog 9 #[.agg #[.int .i64 s, .int .i64 p, .int .i64 t], .int .u64 n] w fun e w' => (∃ s' p' t' : Int, e = .returned (.agg #[.int .i64 s', .int .i64 p', .int .i64 t']) ∧ Okc s' p') ∧ Below w.heap.size w w' := by
  rcases h with ⟨rfl, rfl⟩ | ⟨a, b, c, d⟩
  · exact (measure_neg t w n hn).mono fun e w' ⟨he, hb⟩ => ⟨⟨_, _, _, he, .inr ⟨by omega, by omega, by omega, by omega⟩⟩, hb⟩
  · have x := nxS_bd s (min n 240) a b (by omega) (by omega)
    have y := nxP_bd s p (min n 240) a b (by omega) (by omega) c d
    exact (measure_pos s p t w n hn a b c d).mono fun e w' ⟨he, hb⟩ => ⟨⟨_, _, _, he, .inr ⟨x.1, x.2, y.1, y.2⟩⟩, hb⟩

/-- One measure of the one time n, in the run of rounds. -/
theorem measure_near (s p t : Int) (w : World) (n r : Int) (k : Nat) (hr : min n 240 = r) (hn : 0 ≤ n) (h : Near r k s p t) :
    Calls Try.prog 9 #[.agg #[.int .i64 s, .int .i64 p, .int .i64 t], .int .u64 n] w fun e w' => (∃ s' p' t' : Int, e = .returned (.agg #[.int .i64 s', .int .i64 p', .int .i64 t']) ∧ Near r (k + 1) s' p' t') ∧ Below w.heap.size w w' := by
  have h0 : 0 ≤ r := by omega
  have h1 : r ≤ 240 := by omega
  rcases h with ⟨rfl, rfl, rfl⟩ | ⟨a, b, c, d, e, f, g, _⟩
  · exact (measure_neg_r t w n r hr hn).mono fun e w' ⟨he, hb⟩ => ⟨⟨_, _, _, he, near_neg r h0 h1⟩, hb⟩
  · exact (measure_pos_r s p t w n r hr hn a b c d).mono fun e' w' ⟨he, hb⟩ => ⟨⟨_, _, _, he, near_pos r k s p h0 h1 a b c d e f g⟩, hb⟩

set_option maxHeartbeats 1000000 in
theorem rtoSettles_long (a : Option Addr) (len cap : Nat) (ticks : Int) (w : World) (hl : 50 < len) (hm : len ≤ 9223372036854775807) :
    Calls Try.prog 3 #[.slice a len cap, .int .u8 ticks] w fun e w' => e = .returned (.bool true) ∧ Below w.heap.size w w' := by
  go_enter Try.func3, Try.ntmps3
  go_wp2_with fail
  refine (lives_any _).mono ?_
  rintro e w1 ⟨rfl, hb1⟩
  go_wp2_with fail
  refine (lives_any _).mono ?_
  rintro e w2 ⟨rfl, hb2⟩
  go_wp2_with fail
  go_ret
  exact ⟨rfl, ext_trans hb1 hb2⟩

set_option maxRecDepth 100000 in
set_option maxHeartbeats 1000000 in
theorem rtoSettles_any (a : Option Addr) (len cap : Nat) (ticks : Int) (w : World) (hl : len ≤ 50) (ht0 : 0 ≤ ticks) (ht1 : ticks ≤ 255)
    (hrow : ∀ k, k < len → ∃ b off z, a = some ⟨b, off, none⟩ ∧ w.cell? ⟨b, off + k, none⟩ = some (.int .u64 z) ∧ 0 ≤ z) :
    Calls Try.prog 3 #[.slice a len cap, .int .u8 ticks] w fun e w' => e = .returned (.bool true) ∧ Below w.heap.size w w' := by
  obtain ⟨r, hr⟩ : ∃ r, min ticks 240 = r := ⟨_, rfl⟩
  have hr0 : 0 ≤ r := by omega
  have hr1 : r ≤ 240 := by omega
  have Hr := Lib.hid hr
  have Hrow := Lib.hid hrow
  clear hr hrow
  go_enter Try.func3, Try.ntmps3
  go_wp2_with fail
  refine (lives_any _).mono ?_
  rintro e w1 ⟨rfl, hb1⟩
  go_wp2_with fail
  refine (new_any _).mono ?_
  rintro e w2 ⟨rfl, hb2⟩
  have hbig := ext_trans hb1 hb2
  clear hb1 hb2
  go_wp2_with fail
  have hB4 : Below w.heap.size w (w2.alloc (Obj.cells #[Value.int IntKind.i64 (-1), Value.int IntKind.i64 (-1), Value.int IntKind.i64 10] 25)) := ext_alloc hbig _
  have hCk : Clk (w2.alloc (Obj.cells #[Value.int IntKind.i64 (-1), Value.int IntKind.i64 (-1), Value.int IntKind.i64 10] 25)) w2.heap.size (-1) (-1) 10 := by
    constructor <;> simp
  have hBge : w.heap.size ≤ w2.heap.size := hbig.size
  clear hbig
  generalize w2.alloc (Obj.cells #[Value.int IntKind.i64 (-1), Value.int IntKind.i64 (-1), Value.int IntKind.i64 10] 25) = w4 at *
  generalize w2.heap.size = B at *
  go_loopw [20] (fun i wr => ∃ (k : Nat) (s p t : Int), k ≤ len ∧ i = .int .i64 k ∧ Okc s p ∧ Clk wr B s p t ∧ Below w.heap.size w wr) (fun i _ => (50 - intOf i).toNat)
  case atStart => exact ⟨0, -1, -1, 10, by omega, rfl, .inl ⟨rfl, rfl⟩, hCk, hB4⟩
  case round =>
    obtain ⟨k, s, p, t, hk, rfl, hok, hc, hb⟩ := hrel
    clear hCk hB4
    have g0 := hc.c0
    have g1 := hc.c1
    have g2 := hc.c2
    have e0 := hc.f0
    have e1 := hc.f1
    have e2 := hc.f2
    have el := hc.lt
    by_cases hlt : k < len
    · obtain ⟨b, off, z, rfl, hz, hz0⟩ := Hrow.out k hlt
      have hz' := cell_later hb hz
      clear hz
      go_wp2_with fail
      refine (measure_okc _ _ _ _ _ hz0 hok).mono ?_
      rintro e w5 ⟨⟨s1, p1, t1, rfl, hok1⟩, hb5⟩
      have hc5 := hc.ext hb5
      clear g0 g1 g2 e0 e1 e2
      have g0 := hc5.c0
      have g1 := hc5.c1
      have g2 := hc5.c2
      have e0 := hc5.f0
      have e1 := hc5.f1
      have e2 := hc5.f2
      go_wp2_with fail
      refine ⟨⟨k + 1, s1, p1, t1, by omega, by go_num, hok1, ?_, ?_⟩, ?_⟩
      · exact hc5.set _ _ _
      · exact below_set3 (ext_trans hb hb5) hBge _ _ _
      · simp [intOf]; omega
    · go_wp2_with fail
      clear Hrow
      have hnear := near_start r s p t hr0 hr1 hok
      clear hok
      go_loopw [28] (fun i wr => ∃ (k : Nat) (s p t : Int), k ≤ 120 ∧ i = .int .i64 k ∧ Near r k s p t ∧ Clk wr B s p t ∧ Below w.heap.size w wr) (fun i _ => (120 - intOf i).toNat)
      case atStart => exact ⟨0, s, p, t, by omega, rfl, hnear, hc, hb⟩
      case round =>
        obtain ⟨k2, s2, p2, t2, hk2, rfl, hn2, hc2, hb2⟩ := hrel
        clear hnear hc hb g0 g1 g2 e0 e1 e2 el
        have g0 := hc2.c0
        have g1 := hc2.c1
        have g2 := hc2.c2
        have e0 := hc2.f0
        have e1 := hc2.f1
        have e2 := hc2.f2
        have el := hc2.lt
        by_cases hlt2 : k2 < 120
        · go_wp2_with fail
          refine (measure_near _ _ _ _ _ _ _ Hr.out ht0 hn2).mono ?_
          rintro e w5 ⟨⟨s1, p1, t1, rfl, hn1⟩, hb5⟩
          have hc5 := hc2.ext hb5
          clear g0 g1 g2 e0 e1 e2
          have g0 := hc5.c0
          have g1 := hc5.c1
          have g2 := hc5.c2
          have e0 := hc5.f0
          have e1 := hc5.f1
          have e2 := hc5.f2
          go_wp2_with fail
          refine ⟨⟨k2 + 1, s1, p1, t1, by omega, by go_num, hn1, ?_, ?_⟩, ?_⟩
          · exact hc5.set _ _ _
          · exact below_set3 (ext_trans hb2 hb5) hBge _ _ _
          · simp [intOf]; omega
        · have e120 : k2 = 120 := by omega
          rw [e120] at hn2
          obtain ⟨f1, f2, f3⟩ := near_end ticks r s2 p2 t2 ht0 Hr.out hn2
          clear hn2 e120
          go_wp2_with fail
          all_goals
            go_ret
            refine ⟨ret_bool ?_, hb2⟩
            first | rfl | (exact decide_eq_true (by omega)) | (exfalso; omega)

end Go.Proofs.Ytlogglgfpeeheaa
