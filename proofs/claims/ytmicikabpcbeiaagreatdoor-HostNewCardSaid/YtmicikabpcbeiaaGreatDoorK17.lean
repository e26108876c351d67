import Derived.Test.YtmicikabpcbeiaaGreatDoorK16
set_option linter.all false
/- What the entries of HostNew's tables say is so. -/
namespace Go.Proofs.YtmicikabpcbeiaaGreatDoor
open Go Mir
namespace Hn
theorem eq_int {t : TypeId} {k0 : IntKind} (hu : Tryz.prog.underlying t = some (.int k0)) (d : Nat) (k : IntKind) (a b : Int) (W : Tw) : Mir.runT Tryz.prog (Op.equalIn (d + 1) t (.int k a) (.int k b)) W = some (a == b, W) := by
  rw [Op.equalIn, rt_bind, rt_underlying hu, Option.bind_some]
  simp [rt_pure]
theorem eq_ip (d : Nat) (a b c e p q r t : Int) (W : Tw) : Mir.runT Tryz.prog (Op.equalIn (d + 2) 25 (.agg #[.int .u8 a, .int .u8 b, .int .u8 c, .int .u8 e]) (.agg #[.int .u8 p, .int .u8 q, .int .u8 r, .int .u8 t])) W = some (a == p && b == q && c == r && e == t, W) := by
  have p0 : ∀ (a b c e : Int) (W : Tw), Mir.runT Tryz.prog (part 5 #[.int .u8 a, .int .u8 b, .int .u8 c, .int .u8 e] 0) W = some (.int .u8 a, W) := fun _ _ _ _ _ => by kernel_rfl
  have p1 : ∀ (a b c e : Int) (W : Tw), Mir.runT Tryz.prog (part 5 #[.int .u8 a, .int .u8 b, .int .u8 c, .int .u8 e] 1) W = some (.int .u8 b, W) := fun _ _ _ _ _ => by kernel_rfl
  have p2 : ∀ (a b c e : Int) (W : Tw), Mir.runT Tryz.prog (part 5 #[.int .u8 a, .int .u8 b, .int .u8 c, .int .u8 e] 2) W = some (.int .u8 c, W) := fun _ _ _ _ _ => by kernel_rfl
  have p3 : ∀ (a b c e : Int) (W : Tw), Mir.runT Tryz.prog (part 5 #[.int .u8 a, .int .u8 b, .int .u8 c, .int .u8 e] 3) W = some (.int .u8 e, W) := fun _ _ _ _ _ => by kernel_rfl
  have ps : ∀ W : Tw, Mir.runT Tryz.prog (Go.sizeOf 5) W = some (1, W) := fun _ => by kernel_rfl
  rw [Op.equalIn, rt_bind, rt_underlying Tryz.underlying25]
  by_cases h0 : a = p <;> by_cases h1 : b = q <;> by_cases h2 : c = r <;> by_cases h3 : e = t <;>
  simp [rt_bind, rt_pure, ps, p0, p1, p2, p3, eq_int Tryz.underlying5, List.range', Std.Legacy.Range.forIn_eq_forIn_range', h0, h1, h2, h3]
theorem eq_mac (d : Nat) (a b c e f g : Int) (W : Tw) : Mir.runT Tryz.prog (Op.equalIn (d + 2) 23 (.agg #[.int .u8 a, .int .u8 b, .int .u8 c, .int .u8 e, .int .u8 f, .int .u8 g]) (.agg #[.int .u8 a, .int .u8 b, .int .u8 c, .int .u8 e, .int .u8 f, .int .u8 g])) W = some (true, W) := by
  have p0 : ∀ (W : Tw), Mir.runT Tryz.prog (part 5 #[.int .u8 a, .int .u8 b, .int .u8 c, .int .u8 e, .int .u8 f, .int .u8 g] 0) W = some (.int .u8 a, W) := fun _ => by kernel_rfl
  have p1 : ∀ (W : Tw), Mir.runT Tryz.prog (part 5 #[.int .u8 a, .int .u8 b, .int .u8 c, .int .u8 e, .int .u8 f, .int .u8 g] 1) W = some (.int .u8 b, W) := fun _ => by kernel_rfl
  have p2 : ∀ (W : Tw), Mir.runT Tryz.prog (part 5 #[.int .u8 a, .int .u8 b, .int .u8 c, .int .u8 e, .int .u8 f, .int .u8 g] 2) W = some (.int .u8 c, W) := fun _ => by kernel_rfl
  have p3 : ∀ (W : Tw), Mir.runT Tryz.prog (part 5 #[.int .u8 a, .int .u8 b, .int .u8 c, .int .u8 e, .int .u8 f, .int .u8 g] 3) W = some (.int .u8 e, W) := fun _ => by kernel_rfl
  have p4 : ∀ (W : Tw), Mir.runT Tryz.prog (part 5 #[.int .u8 a, .int .u8 b, .int .u8 c, .int .u8 e, .int .u8 f, .int .u8 g] 4) W = some (.int .u8 f, W) := fun _ => by kernel_rfl
  have p5 : ∀ (W : Tw), Mir.runT Tryz.prog (part 5 #[.int .u8 a, .int .u8 b, .int .u8 c, .int .u8 e, .int .u8 f, .int .u8 g] 5) W = some (.int .u8 g, W) := fun _ => by kernel_rfl
  have ps : ∀ W : Tw, Mir.runT Tryz.prog (Go.sizeOf 5) W = some (1, W) := fun _ => by kernel_rfl
  rw [Op.equalIn, rt_bind, rt_underlying Tryz.underlying23]
  simp [rt_bind, rt_pure, ps, p0, p1, p2, p3, p4, p5, eq_int Tryz.underlying5, List.range', Std.Legacy.Range.forIn_eq_forIn_range']

/-- What the symbols mean. -/
def val (p q : Nat → Nat) (b : Int) (n : Nat) : Int := match n with
  | 3 => b
  | 4 => .ofNat (p 0)
  | 12 => .ofNat (p 1)
  | 20 => .ofNat (p 2)
  | 28 => .ofNat (p 3)
  | 36 => .ofNat (q 0)
  | 44 => .ofNat (q 1)
  | 52 => .ofNat (q 2)
  | 60 => .ofNat (q 3)
  | 68 => .ofNat (q 4)
  | 76 => .ofNat (q 5)
  | 84 => .ofNat (Nat.xor (p 0) 128)
  | 92 => .ofNat (Nat.land (p 0) (mB 0 b.toNat))
  | 100 => .ofNat (Nat.land (p 1) (mB 1 b.toNat))
  | 108 => .ofNat (Nat.land (p 2) (mB 2 b.toNat))
  | 116 => .ofNat (Nat.land (p 3) (mB 3 b.toNat))
  | 124 => .ofNat (Nat.xor (Nat.xor (p 0) 128) (Nat.land (p 0) (mB 0 b.toNat)))
  | 132 => .ofNat (Nat.div (Nat.xor (Nat.xor (p 0) 128) (Nat.land (p 0) (mB 0 b.toNat))) (Nat.pow 2 (Nat.sub 8 (nB 0 b.toNat))))
  | 156 => .ofNat (Nat.xor (p 0) (Nat.land (p 0) (mB 0 b.toNat)))
  | 164 => .ofNat (Nat.xor (p 1) (Nat.land (p 1) (mB 1 b.toNat)))
  | 172 => .ofNat (Nat.xor (p 2) (Nat.land (p 2) (mB 2 b.toNat)))
  | 180 => .ofNat (Nat.xor (p 3) (Nat.land (p 3) (mB 3 b.toNat)))
  | _ => 0
theorem mB_lt (i b : Nat) : mB i b < 256 := by
  exact Nat.lt_succ_of_le (Nat.sub_le 255 (255 / 2 ^ nB i b))
theorem nB_le (i b : Nat) : nB i b ≤ 8 := Nat.min_le_right _ _
theorem factI : ((List.range 256).all fun p => (List.range 9).all fun k => Nat.beq (Nat.div (Nat.xor p (Nat.land p (Nat.sub 255 (Nat.div 255 (Nat.pow 2 k))))) (Nat.pow 2 (Nat.sub 8 k))) 0) = true := by kernel_rfl
theorem factO : ((List.range 256).all fun p => (List.range 8).all fun k => !(Nat.beq (Nat.div (Nat.xor (Nat.xor p 128) (Nat.land p (Nat.sub 255 (Nat.div 255 (Nat.pow 2 (k + 1)))))) (Nat.pow 2 (Nat.sub 8 (k + 1)))) 0)) = true := by kernel_rfl
theorem inside {p : Nat} (hp : p < 256) (i b : Nat) : Nat.div (Nat.xor p (Nat.land p (mB i b))) (Nat.pow 2 (Nat.sub 8 (nB i b))) = 0 := by
  have h := factI
  rw [List.all_eq_true] at h
  have h2 := h p (List.mem_range.2 hp)
  rw [List.all_eq_true] at h2
  have h3 := h2 (nB i b) (List.mem_range.2 (by have := nB_le i b; omega))
  rw [Nat.beq_eq] at h3
  exact h3
theorem outside {p : Nat} (hp : p < 256) {b : Nat} (hb : 0 < b) : Nat.div (Nat.xor (Nat.xor p 128) (Nat.land p (mB 0 b))) (Nat.pow 2 (Nat.sub 8 (nB 0 b))) ≠ 0 := by
  have hn : 0 < nB 0 b := by
    show 0 < min (b - 8 * 0) 8
    omega
  have hn8 := nB_le 0 b
  have h := factO
  rw [List.all_eq_true] at h
  have h2 := h p (List.mem_range.2 hp)
  rw [List.all_eq_true] at h2
  have h3 := h2 (nB 0 b - 1) (List.mem_range.2 (by omega))
  rw [show nB 0 b - 1 + 1 = nB 0 b by omega] at h3
  intro hc
  rw [Bool.not_eq_true'] at h3
  have h4 : Nat.beq (Nat.div (Nat.xor (Nat.xor p 128) (Nat.land p (Nat.sub 255 (Nat.div 255 (Nat.pow 2 (nB 0 b)))))) (Nat.pow 2 (Nat.sub 8 (nB 0 b)))) 0 = true := by
    rw [Nat.beq_eq]; exact hc
  rw [h4] at h3
  cases h3
section
variable {p q : Nat → Nat} {b : Int}
theorem u8_and {a c : Nat} (ha : a < 256) (hc : c < 256) : bz .and .u8 a c = some (.int .u8 (.ofNat (Nat.land a c))) := by
  have h1 : Nat.ble a 255 = true := by rw [Nat.ble_eq]; omega
  have h2 : Nat.ble c 255 = true := by rw [Nat.ble_eq]; omega
  have h3 : Nat.ble (Nat.land a c) 255 = true := by
    rw [Nat.ble_eq]
    exact Nat.le_trans (Nat.and_le_left (n := a) (m := c)) (by omega)
  simp only [bz, okN, fN_eq, kMax, h1, h2, h3]
theorem u8_xor {a c : Nat} (ha : a < 256) (hc : c < 256) : bz .xor .u8 a c = some (.int .u8 (.ofNat (Nat.xor a c))) := by
  have h1 : Nat.ble a 255 = true := by rw [Nat.ble_eq]; omega
  have h2 : Nat.ble c 255 = true := by rw [Nat.ble_eq]; omega
  have h3 : Nat.ble (Nat.xor a c) 255 = true := by
    rw [Nat.ble_eq]
    have : a ^^^ c < 2 ^ 8 := Nat.xor_lt_two_pow (by omega) (by omega)
    have e : Nat.xor a c = a ^^^ c := rfl
    omega
  simp only [bz, okN, fN_eq, kMax, h1, h2, h3]
theorem xor_lt {a c : Nat} (ha : a < 256) (hc : c < 256) : Nat.xor a c < 256 := by
  have : a ^^^ c < 2 ^ 8 := Nat.xor_lt_two_pow (by omega) (by omega)
  exact this
theorem land_lt {a c : Nat} (ha : a < 256) : Nat.land a c < 256 := Nat.lt_of_le_of_lt (Nat.and_le_left (n := a) (m := c)) ha
theorem u8_shr {a c : Nat} (ha : a < 256) (hc : c ≤ 8) : bzs .shr .u8 a c = some (.int .u8 (.ofNat (Nat.div a (Nat.pow 2 c)))) := by
  have h1 : Nat.ble c 8 = true := by rw [Nat.ble_eq]; omega
  have h3 : Nat.ble (Nat.div a (Nat.pow 2 c)) 255 = true := by
    rw [Nat.ble_eq]
    exact Nat.le_trans (Nat.div_le_self a (2 ^ c)) (by omega)
  simp only [bzs, okN, fN_eq, kMax, kBits, h1, h3]
theorem says_bz {o : BinOp} {t : TypeId} {x y r : Value} {k : IntKind} {a c : Nat} {v : Value} (hx : den (mS (val p q b)) 3 x = .int k (.ofNat a)) (hy : den (mS (val p q b)) 3 y = .int k (.ofNat c)) (h : bz o k a c = some v) (hr : den (mS (val p q b)) 3 r = v) : SyE.says Tryz.prog (mS (val p q b)) (bn o t x y r) :=
  says_int hx hy (by rw [hr]; exact bz_eq h)
theorem says_bzs {o : BinOp} {t : TypeId} {x y r : Value} {k j : IntKind} {a c : Nat} {v : Value} (hx : den (mS (val p q b)) 3 x = .int k (.ofNat a)) (hy : den (mS (val p q b)) 3 y = .int j (.ofNat c)) (h : bzs o k a c = some v) (hr : den (mS (val p q b)) 3 r = v) : SyE.says Tryz.prog (mS (val p q b)) (bn o t x y r) :=
  says_int hx hy (by rw [hr]; exact bzs_eq h)
theorem dn (n : Nat) : den (mS (val p q b)) 3 (s n) = .int (kindN (n % 8)) (val p q b n) := den_sym _ n 2
theorem den_ip {a c d e : Nat} : den (mS (val p q b)) 3 (.agg ⟨[s a, s c, s d, s e]⟩) = .agg #[.int (kindN (a % 8)) (val p q b a), .int (kindN (c % 8)) (val p q b c), .int (kindN (d % 8)) (val p q b d), .int (kindN (e % 8)) (val p q b e)] := by
  have h : ∀ n, den (mS (val p q b)) 2 (s n) = .int (kindN (n % 8)) (val p q b n) := fun n => den_sym _ n 1
  show Value.agg ⟨[s a, s c, s d, s e].map (den (mS (val p q b)) 2)⟩ = _
  simp only [List.map_cons, List.map_nil, h]
theorem says_ip {x y : Value} {a c d e a' c' d' e' : Int} {r : Bool} (hx : den (mS (val p q b)) 3 x = .agg #[.int .u8 a, .int .u8 c, .int .u8 d, .int .u8 e]) (hy : den (mS (val p q b)) 3 y = .agg #[.int .u8 a', .int .u8 c', .int .u8 d', .int .u8 e'])
    (h : (a == a' && c == c' && d == d' && e == e') = r) : SyE.says Tryz.prog (mS (val p q b)) (bn .eql 25 x y (.bool r)) := by
  refine says_agg hx hy (fun ox oy => ?_) ?_
  · have : Mir.runT Tryz.prog (eqGuard .eql 25 ox oy (.agg #[.int .u8 a, .int .u8 c, .int .u8 d, .int .u8 e]) (.agg #[.int .u8 a', .int .u8 c', .int .u8 d', .int .u8 e'])) Tw.emp = some ((), Tw.emp) := by kernel_rfl
    rw [this]; rfl
  · have : Mir.runT Tryz.prog (binOp .eql 25 (.agg #[.int .u8 a, .int .u8 c, .int .u8 d, .int .u8 e]) (.agg #[.int .u8 a', .int .u8 c', .int .u8 d', .int .u8 e'])) Tw.emp = some (.bool r, Tw.emp) := by
      show Mir.runT Tryz.prog (do Pure.pure (.bool (← Op.equal 25 _ _)) : Sem Value) Tw.emp = _
      rw [rt_bind, equal_depth, eq_ip 9998, h, Option.bind_some, rt_pure]
    rw [this]; rfl
theorem says_mac : SyE.says Tryz.prog (mS (val p q b)) (bn .eql 23 mac mac tt) := by
  have hm : den (mS (val p q b)) 3 mac = .agg #[.int .u8 (.ofNat (q 0)), .int .u8 (.ofNat (q 1)), .int .u8 (.ofNat (q 2)), .int .u8 (.ofNat (q 3)), .int .u8 (.ofNat (q 4)), .int .u8 (.ofNat (q 5))] := by
    have h : ∀ n, den (mS (val p q b)) 2 (s n) = .int (kindN (n % 8)) (val p q b n) := fun n => den_sym _ n 1
    show Value.agg ⟨[s 36, s 44, s 52, s 60, s 68, s 76].map (den (mS (val p q b)) 2)⟩ = _
    simp only [List.map_cons, List.map_nil, h]
    rfl
  refine says_agg hm hm (fun ox oy => ?_) ?_
  · have : Mir.runT Tryz.prog (eqGuard .eql 23 ox oy (.agg #[.int .u8 (.ofNat (q 0)), .int .u8 (.ofNat (q 1)), .int .u8 (.ofNat (q 2)), .int .u8 (.ofNat (q 3)), .int .u8 (.ofNat (q 4)), .int .u8 (.ofNat (q 5))]) (.agg #[.int .u8 (.ofNat (q 0)), .int .u8 (.ofNat (q 1)), .int .u8 (.ofNat (q 2)), .int .u8 (.ofNat (q 3)), .int .u8 (.ofNat (q 4)), .int .u8 (.ofNat (q 5))])) Tw.emp = some ((), Tw.emp) := by kernel_rfl
    rw [this]; rfl
  · have : Mir.runT Tryz.prog (binOp .eql 23 (.agg #[.int .u8 (.ofNat (q 0)), .int .u8 (.ofNat (q 1)), .int .u8 (.ofNat (q 2)), .int .u8 (.ofNat (q 3)), .int .u8 (.ofNat (q 4)), .int .u8 (.ofNat (q 5))]) (.agg #[.int .u8 (.ofNat (q 0)), .int .u8 (.ofNat (q 1)), .int .u8 (.ofNat (q 2)), .int .u8 (.ofNat (q 3)), .int .u8 (.ofNat (q 4)), .int .u8 (.ofNat (q 5))])) Tw.emp = some (.bool true, Tw.emp) := by
      show Mir.runT Tryz.prog (do Pure.pure (.bool (← Op.equal 23 _ _)) : Sem Value) Tw.emp = _
      rw [rt_bind, equal_depth, eq_mac 9998, Option.bind_some, rt_pure]
    rw [this]; rfl
end
end Hn
end Go.Proofs.YtmicikabpcbeiaaGreatDoor

/- HostNew answers true, whatever the card, the address and the bits are. -/
namespace Go.Proofs.YtmicikabpcbeiaaGreatDoor
open Go Mir Go.RowKit
namespace Hn
section
variable {p q : Nat → Nat} {b : Int}
theorem okSy {tab : List SyE} {kt : Tr (List KE)} (h1 : tab.all (SyE.ok 200) = true) (h2 : ∀ e ∈ tab, e.says Tryz.prog (mS (val p q b)))
    (h3 : ∀ f l, kt.get f = some l → ∀ e ∈ l, e.ok 200 = true ∧ e.says Tryz.prog (mS (val p q b)) f) (w : World) : POk Tryz.prog ⟨w, ρS 200 (mS (val p q b))⟩ (symT tab kt) :=
  Tab.pok (symT_ok (mS_8 _) h1 h2 h3)
theorem noK : ∀ f l, (Tr.lf : Tr (List KE)).get f = some l → ∀ e ∈ l, e.ok 200 = true ∧ e.says Tryz.prog (mS (val p q b)) f := fun f l h => by cases h
theorem ke_lives : KE.says Tryz.prog (mS (val p q b)) 4 ⟨[], tt⟩ := KE_run (mS_8 _) (by decide) (fun w => Tab.pok0 _) Tab.tb_ok (by kernel_rfl) run_lives
theorem ke_clone : KE.says Tryz.prog (mS (val p q b)) 103 ⟨[Tab.ty160.z], Tab.ty160.z⟩ := KE_run (mS_8 _) (by decide) (fun w => Tab.pok0 _) Tab.tb_ok (by kernel_rfl) run_clone
theorem says_M (hp : ∀ i, p i < 256) : ∀ e ∈ tabM b.toNat, e.says Tryz.prog (mS (val p q b)) := by
  intro e he
  simp only [tabM, List.mem_cons, List.not_mem_nil, or_false] at he
  rcases he with rfl | rfl | rfl | rfl
  · exact says_bz (k := .u8) (a := p 0) (c := mB 0 b.toNat) (dn 4) rfl (u8_and (hp 0) (mB_lt _ _)) (dn 92)
  · exact says_bz (k := .u8) (a := p 1) (c := mB 1 b.toNat) (dn 12) rfl (u8_and (hp 1) (mB_lt _ _)) (dn 100)
  · exact says_bz (k := .u8) (a := p 2) (c := mB 2 b.toNat) (dn 20) rfl (u8_and (hp 2) (mB_lt _ _)) (dn 108)
  · exact says_bz (k := .u8) (a := p 3) (c := mB 3 b.toNat) (dn 28) rfl (u8_and (hp 3) (mB_lt _ _)) (dn 116)
theorem shr0 {a i : Nat} (ha : a < 256) : bzs .shr .u8 (Nat.xor a (Nat.land a (mB i b.toNat))) (Nat.sub 8 (nB i b.toNat)) = some (.int .u8 (.ofNat 0)) := by
  have h : Nat.sub 8 (nB i b.toNat) ≤ 8 := Nat.sub_le 8 (nB i b.toNat)
  rw [u8_shr (xor_lt ha (land_lt ha)) h, inside ha]
theorem says_I (hp : ∀ i, p i < 256) : ∀ e ∈ tabI b.toNat, e.says Tryz.prog (mS (val p q b)) := by
  intro e he
  simp only [tabI, List.mem_cons, List.not_mem_nil, or_false] at he
  rcases he with rfl | rfl | rfl | rfl | rfl | rfl | rfl | rfl
  · exact says_bz (k := .u8) (a := p 0) (c := Nat.land (p 0) (mB 0 b.toNat)) (dn 4) (dn 92) (u8_xor (hp 0) (land_lt (hp 0))) (dn 156)
  · exact says_bz (k := .u8) (a := p 1) (c := Nat.land (p 1) (mB 1 b.toNat)) (dn 12) (dn 100) (u8_xor (hp 1) (land_lt (hp 1))) (dn 164)
  · exact says_bz (k := .u8) (a := p 2) (c := Nat.land (p 2) (mB 2 b.toNat)) (dn 20) (dn 108) (u8_xor (hp 2) (land_lt (hp 2))) (dn 172)
  · exact says_bz (k := .u8) (a := p 3) (c := Nat.land (p 3) (mB 3 b.toNat)) (dn 28) (dn 116) (u8_xor (hp 3) (land_lt (hp 3))) (dn 180)
  · exact says_bzs (k := .u8) (j := .i64) (a := Nat.xor (p 0) (Nat.land (p 0) (mB 0 b.toNat))) (c := Nat.sub 8 (nB 0 b.toNat)) (dn 156) rfl (shr0 (hp 0)) rfl
  · exact says_bzs (k := .u8) (j := .i64) (a := Nat.xor (p 1) (Nat.land (p 1) (mB 1 b.toNat))) (c := Nat.sub 8 (nB 1 b.toNat)) (dn 164) rfl (shr0 (hp 1)) rfl
  · exact says_bzs (k := .u8) (j := .i64) (a := Nat.xor (p 2) (Nat.land (p 2) (mB 2 b.toNat))) (c := Nat.sub 8 (nB 2 b.toNat)) (dn 172) rfl (shr0 (hp 2)) rfl
  · exact says_bzs (k := .u8) (j := .i64) (a := Nat.xor (p 3) (Nat.land (p 3) (mB 3 b.toNat))) (c := Nat.sub 8 (nB 3 b.toNat)) (dn 180) rfl (shr0 (hp 3)) rfl
theorem far_lt (hp : ∀ i, p i < 256) : Nat.xor (p 0) 128 < 256 := xor_lt (hp 0) (by decide)
theorem says_x0 (hp : ∀ i, p i < 256) : (bn .xor 5 (s 84) (s 92) (s 124)).says Tryz.prog (mS (val p q b)) :=
  says_bz (k := .u8) (a := Nat.xor (p 0) 128) (c := Nat.land (p 0) (mB 0 b.toNat)) (dn 84) (dn 92) (u8_xor (far_lt hp) (land_lt (hp 0))) (dn 124)
theorem says_O (hp : ∀ i, p i < 256) (hb : 0 < b.toNat) : ∀ e ∈ tabO b.toNat, e.says Tryz.prog (mS (val p q b)) := by
  intro e he
  simp only [tabO, List.mem_cons, List.not_mem_nil, or_false] at he
  rcases he with rfl | rfl | rfl
  · exact says_x0 hp
  · exact says_bzs (k := .u8) (j := .i64) (a := Nat.xor (Nat.xor (p 0) 128) (Nat.land (p 0) (mB 0 b.toNat))) (c := Nat.sub 8 (nB 0 b.toNat)) (dn 124) rfl (u8_shr (xor_lt (far_lt hp) (land_lt (hp 0))) (show Nat.sub 8 (nB 0 b.toNat) ≤ 8 from Nat.sub_le 8 (nB 0 b.toNat))) (dn 132)
  · refine says_bz (k := .u8) (a := Nat.div (Nat.xor (Nat.xor (p 0) 128) (Nat.land (p 0) (mB 0 b.toNat))) (Nat.pow 2 (Nat.sub 8 (nB 0 b.toNat)))) (c := 0) (v := .bool true) (dn 132) rfl ?_ rfl
    have h0 := outside (hp 0) hb
    have h1 : Nat.beq (Nat.div (Nat.xor (Nat.xor (p 0) 128) (Nat.land (p 0) (mB 0 b.toNat))) (Nat.pow 2 (Nat.sub 8 (nB 0 b.toNat)))) 0 = false := by
      cases hc : Nat.beq (Nat.div (Nat.xor (Nat.xor (p 0) 128) (Nat.land (p 0) (mB 0 b.toNat))) (Nat.pow 2 (Nat.sub 8 (nB 0 b.toNat)))) 0 with
      | false => rfl
      | true => rw [Nat.beq_eq] at hc; exact absurd hc h0
    simp only [bz, h1]
theorem says_O0 (hp : ∀ i, p i < 256) (hb : b.toNat = 0) : ∀ e ∈ tabO0, e.says Tryz.prog (mS (val p q b)) := by
  intro e he
  unfold tabO0 at he
  rcases List.mem_cons.1 he with rfl | he
  · exact says_x0 hp
  rcases List.mem_cons.1 he with rfl | he
  · refine says_bzs (k := .u8) (j := .i64) (a := Nat.xor (Nat.xor (p 0) 128) (Nat.land (p 0) (mB 0 b.toNat))) (c := 8) (v := .int .u8 (.ofNat 0)) (dn 124) rfl ?_ rfl
    have hl : Nat.xor (Nat.xor (p 0) 128) (Nat.land (p 0) (mB 0 b.toNat)) < 256 := xor_lt (far_lt hp) (land_lt (hp 0))
    rw [u8_shr hl (by decide)]
    have h0 : Nat.div (Nat.xor (Nat.xor (p 0) 128) (Nat.land (p 0) (mB 0 b.toNat))) (Nat.pow 2 8) = 0 := Nat.div_eq_of_lt hl
    rw [h0]
  · exact says_I hp e (by rw [hb]; exact he)
/-! ### Calls that are known -/
theorem ke_sub {f : FuncId} {xs xs' : List Value} {y : Value} (h : xs.map (den (mS (val p q b)) 6) = xs'.map (den (mS (val p q b)) 6)) (h' : KE.says Tryz.prog (mS (val p q b)) f ⟨xs, y⟩) : KE.says Tryz.prog (mS (val p q b)) f ⟨xs', y⟩ := by
  unfold KE.says at h' ⊢
  simp only at h' ⊢
  rw [← h]; exact h'
theorem ke_mask (hp : ∀ i, p i < 256) (hb : b.toNat ≤ 32) : KE.says Tryz.prog (mS (val p q b)) 33 ⟨[ip, i64 b.toNat], net⟩ :=
  KE_run (mS_8 _) (by decide) (okSy (tab := tabM b.toNat) (kt := .lf) (by kernel_rfl) (says_M hp) noK) Tab.tb_ok (by kernel_rfl) (below_spec run_M b.toNat (by omega))
theorem ke_in (hp : ∀ i, p i < 256) (hb : b.toNat ≤ 32) : KE.says Tryz.prog (mS (val p q b)) 41 ⟨[ip, net, i64 b.toNat], tt⟩ :=
  KE_run (mS_8 _) (by decide) (okSy (tab := tabI b.toNat) (kt := .lf) (by kernel_rfl) (says_I hp) noK) Tab.tb_ok (by kernel_rfl) (below_spec run_I b.toNat (by omega))
theorem ke_out (hp : ∀ i, p i < 256) (h0 : 0 < b.toNat) (hb : b.toNat ≤ 32) : KE.says Tryz.prog (mS (val p q b)) 41 ⟨[far, net, i64 b.toNat], ff⟩ := by
  have h := below_spec run_O (b.toNat - 1) (by omega)
  simp only [show b.toNat - 1 + 1 = b.toNat by omega] at h
  exact KE_run (mS_8 _) (by decide) (okSy (tab := tabO b.toNat) (kt := .lf) (by kernel_rfl) (says_O hp h0) noK) Tab.tb_ok (by kernel_rfl) h
theorem ke_out0 (hp : ∀ i, p i < 256) (hb : b.toNat = 0) : KE.says Tryz.prog (mS (val p q b)) 41 ⟨[far, net, i64 0], tt⟩ :=
  KE_run (mS_8 _) (by decide) (okSy (tab := tabO0) (kt := .lf) (by kernel_rfl) (says_O0 hp hb) noK) Tab.tb_ok (by kernel_rfl) run_O0
theorem bits3 (h0 : 0 ≤ b) : den (mS (val p q b)) 6 (i64 b.toNat) = den (mS (val p q b)) 6 (s 3) := by
  have e : den (mS (val p q b)) 6 (s 3) = .int .i64 b := den_sym _ 3 5
  rw [e]
  show Value.int .i64 ((b.toNat : Nat) : Int) = _
  congr 1
  omega
theorem kt_ok {bv w : Value} (hm : KE.says Tryz.prog (mS (val p q b)) 33 ⟨[ip, bv], net⟩) (ho : KE.says Tryz.prog (mS (val p q b)) 41 ⟨[far, net, bv], w⟩) (hi : KE.says Tryz.prog (mS (val p q b)) 41 ⟨[ip, net, bv], tt⟩)
    (k1 : okS 200 6 bv = true) (k2 : okS 200 6 w = true) : ∀ f l, (KT bv w).get f = some l → ∀ e ∈ l, e.ok 200 = true ∧ e.says Tryz.prog (mS (val p q b)) f := by
  intro f l hg
  unfold KT at hg
  rw [Tr.get_put _ 63 _ 4 (by decide), Tr.get_put _ 63 _ 103 (by decide), Tr.get_put _ 63 _ 33 (by decide), Tr.get_put _ 63 _ 41 (by decide)] at hg
  have oip : okS 200 6 ip = true := by kernel_rfl
  have onet : okS 200 6 net = true := by kernel_rfl
  have ofar : okS 200 6 far = true := by kernel_rfl
  split at hg
  · rename_i hf; subst hf; cases hg
    intro e he
    rw [List.mem_singleton] at he; subst he
    exact ⟨by kernel_rfl, ke_lives⟩
  split at hg
  · rename_i hf; subst hf; cases hg
    intro e he
    rw [List.mem_singleton] at he; subst he
    exact ⟨by kernel_rfl, ke_clone⟩
  split at hg
  · rename_i hf; subst hf; cases hg
    intro e he
    rw [List.mem_singleton] at he; subst he
    exact ⟨by simp only [KE.ok, List.all_cons, List.all_nil, oip, onet, k1, Bool.and_self], hm⟩
  split at hg
  · rename_i hf; subst hf; cases hg
    intro e he
    rcases List.mem_cons.1 he with rfl | he
    · exact ⟨by simp only [KE.ok, List.all_cons, List.all_nil, ofar, onet, k1, k2, Bool.and_self], ho⟩
    · rw [List.mem_singleton] at he; subst he
      exact ⟨by simp only [KE.ok, List.all_cons, List.all_nil, oip, onet, k1, Bool.and_true, Bool.and_self]; rfl, hi⟩
  · rw [Tr.get_lf] at hg; cases hg
theorem kt0_ok : ∀ f l, KT0.get f = some l → ∀ e ∈ l, e.ok 200 = true ∧ e.says Tryz.prog (mS (val p q b)) f := by
  intro f l hg
  unfold KT0 at hg
  rw [Tr.get_put _ 63 _ 4 (by decide)] at hg
  split at hg
  · rename_i hf; subst hf; cases hg
    intro e he
    rw [List.mem_singleton] at he; subst he
    exact ⟨by kernel_rfl, ke_lives⟩
  · rw [Tr.get_lf] at hg; cases hg
/-! ### What is decided -/
theorem says_card {c : Nat} (hq : ∀ i, q i < 256) (h : Nat.land (q 0) 1 = c) : (bn .and 5 (s 36) (u8 1) (u8 c)).says Tryz.prog (mS (val p q b)) :=
  says_bz (k := .u8) (a := q 0) (c := 1) (dn 36) rfl (u8_and (hq 0) (by decide)) (by rw [h]; rfl)
theorem says_zero {z : Bool} (h : (p 0 == 0 && p 1 == 0 && p 2 == 0 && p 3 == 0) = z) : (bn .eql 25 ip zip (.bool z)).says Tryz.prog (mS (val p q b)) := by
  have eb : ∀ a c : Nat, (Int.ofNat a == Int.ofNat c) = (a == c) := fun a c => by
    rw [Bool.eq_iff_iff]
    simp only [beq_iff_eq]
    exact ⟨fun h => Int.ofNat.inj h, fun h => by rw [h]⟩
  refine says_ip (a := .ofNat (p 0)) (c := .ofNat (p 1)) (d := .ofNat (p 2)) (e := .ofNat (p 3)) (a' := .ofNat 0) (c' := .ofNat 0) (d' := .ofNat 0) (e' := .ofNat 0) den_ip rfl ?_
  rw [eb, eb, eb, eb]
  exact h
theorem says_same : (bn .eql 25 ip ip tt).says Tryz.prog (mS (val p q b)) :=
  says_ip (a := .ofNat (p 0)) (c := .ofNat (p 1)) (d := .ofNat (p 2)) (e := .ofNat (p 3)) (a' := .ofNat (p 0)) (c' := .ofNat (p 1)) (d' := .ofNat (p 2)) (e' := .ofNat (p 3)) den_ip den_ip (by simp)
theorem says_far (hp : ∀ i, p i < 256) : (bn .xor 5 (s 4) (u8 128) (s 84)).says Tryz.prog (mS (val p q b)) :=
  says_bz (k := .u8) (a := p 0) (c := 128) (dn 4) rfl (u8_xor (hp 0) (by decide)) (dn 84)
theorem says_other : (bn .eql 25 far ip ff).says Tryz.prog (mS (val p q b)) := by
  refine says_ip (a := .ofNat (Nat.xor (p 0) 128)) (c := .ofNat (p 1)) (d := .ofNat (p 2)) (e := .ofNat (p 3)) (a' := .ofNat (p 0)) (c' := .ofNat (p 1)) (d' := .ofNat (p 2)) (e' := .ofNat (p 3)) den_ip den_ip ?_
  have : (Int.ofNat (Nat.xor (p 0) 128) == Int.ofNat (p 0)) = false := by
    rw [beq_eq_false_iff_ne]
    intro hc
    have h1 : p 0 ^^^ 128 = p 0 := Int.ofNat.inj hc
    have h2 : p 0 ^^^ (p 0 ^^^ 128) = 128 := by rw [← Nat.xor_assoc, Nat.xor_self, Nat.zero_xor]
    rw [h1, Nat.xor_self] at h2
    cases h2
  rw [this]; rfl
theorem says_bits {o : BinOp} {c : Nat} {v : Bool} (h : binOp o 3 (.int .i64 b) (.int .i64 (.ofNat c)) = pure (.bool v)) : (bn o 3 (s 3) (i64 c) (.bool v)).says Tryz.prog (mS (val p q b)) :=
  says_int (k := .i64) (j := .i64) (dn 3) rfl h
/-! ### The law -/
def args (p q : Nat → Nat) (b : Int) : Array Value := #[.agg #[.int .u8 (.ofNat (q 0)), .int .u8 (.ofNat (q 1)), .int .u8 (.ofNat (q 2)), .int .u8 (.ofNat (q 3)), .int .u8 (.ofNat (q 4)), .int .u8 (.ofNat (q 5))],
  .agg #[.int .u8 (.ofNat (p 0)), .int .u8 (.ofNat (p 1)), .int .u8 (.ofNat (p 2)), .int .u8 (.ofNat (p 3))], .int .i64 b]
def Goal (p q : Nat → Nat) (b : Int) (W : World) : Prop := Calls Tryz.prog 3 (args p q b) W fun e W2 => e = .returned (.bool true) ∧ Below W.heap.size W W2
theorem den_args {bv : Value} (h : den (mS (val p q b)) 6 bv = .int .i64 b) : (⟨[mac, ip, bv].map (den (mS (val p q b)) 6)⟩ : Array Value) = args p q b := by
  have h5 : ∀ n, den (mS (val p q b)) 5 (s n) = .int (kindN (n % 8)) (val p q b n) := fun n => den_sym _ n 4
  simp only [List.map_cons, List.map_nil, h]
  show (⟨[Value.agg ⟨[s 36, s 44, s 52, s 60, s 68, s 76].map (den (mS (val p q b)) 5)⟩, Value.agg ⟨[s 4, s 12, s 20, s 28].map (den (mS (val p q b)) 5)⟩, .int .i64 b]⟩ : Array Value) = _
  simp only [List.map_cons, List.map_nil, h5]
  rfl
theorem goal_of {tab : List SyE} {kt : Tr (List KE)} {bv : Value} (hbv : den (mS (val p q b)) 6 bv = .int .i64 b) (hbo : okS 200 6 bv = true) (h1 : tab.all (SyE.ok 200) = true) (h2 : ∀ e ∈ tab, e.says Tryz.prog (mS (val p q b)))
    (h3 : ∀ f l, kt.get f = some l → ∀ e ∈ l, e.ok 200 = true ∧ e.says Tryz.prog (mS (val p q b)) f) (hr : run tab kt bv = true) (W : World) : Goal p q b W := by
  obtain ⟨W', hW⟩ := resIs_some hr
  have h := calls_z (P := Tryz.prog) (mS_8 _) (by decide) (okSy h1 h2 h3 W) Tab.tb_ok (by
    have o1 : okS 200 6 mac = true := by kernel_rfl
    have o2 : okS 200 6 ip = true := by kernel_rfl
    simp only [List.all_cons, List.all_nil, o1, o2, hbo, Bool.and_self]) (by kernel_rfl) hW
  rw [den_args hbv] at h
  exact h
theorem den3 : den (mS (val p q b)) 6 (s 3) = .int .i64 b := den_sym _ 3 5
theorem says_C {zero neg big : Bool} (hq : ∀ i, q i < 256) (ho : Nat.land (q 0) 1 = 0) (hz : (p 0 == 0 && p 1 == 0 && p 2 == 0 && p 3 == 0) = zero) (hn : decide (b < 0) = neg) (hg : decide (b > 32) = big) :
    ∀ e ∈ tabC zero neg big, e.says Tryz.prog (mS (val p q b)) := by
  intro e he
  simp only [tabC, List.mem_cons, List.not_mem_nil, or_false] at he
  rcases he with rfl | rfl | rfl | rfl
  · exact says_card hq ho
  · exact says_zero hz
  · exact says_bits (bin_lss hn)
  · exact says_bits (bin_gtr hg)
theorem says_D {neg big : Bool} (hq : ∀ i, q i < 256) (ho : Nat.land (q 0) 1 = 1) (hn : decide (b < 0) = neg) (hg : decide (b > 32) = big) :
    ∀ e ∈ tabD neg big, e.says Tryz.prog (mS (val p q b)) := by
  intro e he
  simp only [tabD, List.mem_cons, List.not_mem_nil, or_false] at he
  rcases he with rfl | rfl | rfl
  · exact says_card hq ho
  · exact says_bits (bin_lss hn)
  · exact says_bits (bin_gtr hg)
theorem says_B (hp : ∀ i, p i < 256) (hq : ∀ i, q i < 256) (ho : Nat.land (q 0) 1 = 0) (hz : (p 0 == 0 && p 1 == 0 && p 2 == 0 && p 3 == 0) = false) (h0 : 0 < b) (h32 : b ≤ 32) : ∀ e ∈ tabB, e.says Tryz.prog (mS (val p q b)) := by
  intro e he
  simp only [tabB, List.mem_cons, List.not_mem_nil, or_false] at he
  rcases he with rfl | rfl | rfl | rfl | rfl | rfl | rfl | rfl | rfl
  · exact says_card hq ho
  · exact says_zero hz
  · exact says_bits (bin_lss (decide_eq_false (by show ¬ b < 0; omega)))
  · exact says_bits (bin_gtr (decide_eq_false (by show ¬ b > 32; omega)))
  · exact says_far hp
  · exact says_same
  · exact says_mac
  · exact says_bits (bin_eql (by rw [beq_eq_false_iff_ne]; show b ≠ 0; omega))
  · exact says_bits (bin_gtr (decide_eq_true (by show b > 0; omega)))
theorem says_A (hp : ∀ i, p i < 256) (hq : ∀ i, q i < 256) (ho : Nat.land (q 0) 1 = 0) (hz : (p 0 == 0 && p 1 == 0 && p 2 == 0 && p 3 == 0) = false) : ∀ e ∈ tabA, e.says Tryz.prog (mS (val p q b)) := by
  intro e he
  simp only [tabA, List.mem_cons, List.not_mem_nil, or_false] at he
  rcases he with rfl | rfl | rfl | rfl | rfl | rfl
  · exact says_card hq ho
  · exact says_zero hz
  · exact says_far hp
  · exact says_same
  · exact says_mac
  · exact says_other
theorem goal (hp : ∀ i, p i < 256) (hq : ∀ i, q i < 256) (b : Int) (W : World) : Goal p q b W := by
  have hodd : Nat.land (q 0) 1 = 0 ∨ Nat.land (q 0) 1 = 1 := by
    have h1 : q 0 &&& 1 ≤ 1 := Nat.and_le_right
    have e : Nat.land (q 0) 1 = q 0 &&& 1 := rfl
    omega
  have o3 : okS 200 6 (s 3) = true := by kernel_rfl
  by_cases hneg : b < 0
  · have hn : decide (b < 0) = true := decide_eq_true hneg
    have hg : decide (b > 32) = false := decide_eq_false (by omega)
    rcases hodd with ho | ho
    · cases hz : (p 0 == 0 && p 1 == 0 && p 2 == 0 && p 3 == 0) with
      | true => exact goal_of den3 o3 (by kernel_rfl) (says_C hq ho hz hn hg) kt0_ok run_N2 W
      | false => exact goal_of den3 o3 (by kernel_rfl) (says_C hq ho hz hn hg) kt0_ok run_N3 W
    · exact goal_of den3 o3 (by kernel_rfl) (says_D hq ho hn hg) kt0_ok run_N1 W
  have hn : decide (b < 0) = false := decide_eq_false hneg
  by_cases hbig : b > 32
  · have hg : decide (b > 32) = true := decide_eq_true hbig
    rcases hodd with ho | ho
    · cases hz : (p 0 == 0 && p 1 == 0 && p 2 == 0 && p 3 == 0) with
      | true => exact goal_of den3 o3 (by kernel_rfl) (says_C hq ho hz hn hg) kt0_ok run_G2 W
      | false => exact goal_of den3 o3 (by kernel_rfl) (says_C hq ho hz hn hg) kt0_ok run_G3 W
    · exact goal_of den3 o3 (by kernel_rfl) (says_D hq ho hn hg) kt0_ok run_G1 W
  have hg : decide (b > 32) = false := decide_eq_false hbig
  have h32 : b.toNat ≤ 32 := by omega
  by_cases h0 : b = 0
  · subst h0
    have hm := ke_mask (p := p) (q := q) (b := 0) hp (by decide)
    have hi := ke_in (p := p) (q := q) (b := 0) hp (by decide)
    have kt := kt_ok (bv := i64 0) (w := tt) hm (ke_out0 hp rfl) hi (by kernel_rfl) (by kernel_rfl)
    rcases hodd with ho | ho
    · cases hz : (p 0 == 0 && p 1 == 0 && p 2 == 0 && p 3 == 0) with
      | true =>
        have b3 := bits3 (p := p) (q := q) (b := 0) (by decide)
        have kt3 := kt_ok (bv := s 3) (w := tt) (ke_sub (by simp only [List.map_cons, List.map_nil, b3]) hm) (ke_sub (by simp only [List.map_cons, List.map_nil]; rw [← b3]; rfl) (ke_out0 hp rfl)) (ke_sub (by simp only [List.map_cons, List.map_nil, b3]) hi) (by kernel_rfl) (by kernel_rfl)
        exact goal_of den3 o3 (by kernel_rfl) (says_C hq ho hz hn hg) kt3 run_C2' W
      | false => exact goal_of (bv := i64 0) rfl (by kernel_rfl) (by kernel_rfl) (says_A hp hq ho hz) kt run_A W
    · have b3 := bits3 (p := p) (q := q) (b := 0) (by decide)
      have kt3 := kt_ok (bv := s 3) (w := tt) (ke_sub (by simp only [List.map_cons, List.map_nil, b3]) hm) (ke_sub (by simp only [List.map_cons, List.map_nil]; rw [← b3]; rfl) (ke_out0 hp rfl)) (ke_sub (by simp only [List.map_cons, List.map_nil, b3]) hi) (by kernel_rfl) (by kernel_rfl)
      exact goal_of den3 o3 (by kernel_rfl) (says_D hq ho hn hg) kt3 run_C1' W
  · have hb0 : 0 < b.toNat := by omega
    have b3 := bits3 (p := p) (q := q) (b := b) (by omega)
    have kt3 := kt_ok (bv := s 3) (w := ff) (ke_sub (by simp only [List.map_cons, List.map_nil, b3]) (ke_mask (b := b) (q := q) hp h32)) (ke_sub (by simp only [List.map_cons, List.map_nil, b3]) (ke_out (b := b) (q := q) hp hb0 h32)) (ke_sub (by simp only [List.map_cons, List.map_nil, b3]) (ke_in (b := b) (q := q) hp h32)) (by kernel_rfl) (by kernel_rfl)
    rcases hodd with ho | ho
    · cases hz : (p 0 == 0 && p 1 == 0 && p 2 == 0 && p 3 == 0) with
      | true => exact goal_of den3 o3 (by kernel_rfl) (says_C hq ho hz hn hg) kt3 run_C2 W
      | false => exact goal_of den3 o3 (by kernel_rfl) (says_B hp hq ho hz (by omega) (by omega)) kt3 run_B W
    · exact goal_of den3 o3 (by kernel_rfl) (says_D hq ho hn hg) kt3 run_C1 W
end
end Hn
end Go.Proofs.YtmicikabpcbeiaaGreatDoor

