import Derived.Test.YtkmjoppcecffkaaDoorK14
import Derived.Test.YtkmjoppcecffkaaDoorK16
import Derived.Test.YtkmjoppcecffkaaDoorK15
set_option linter.all false
/-! Printed by gencells6.py: the structures of the laws of layer addr. -/
namespace Caw
open Go Go.RowKit
set_option linter.unusedSimpArgs false
set_option maxRecDepth 100000

@[ext] structure Macs where
  a : Mac
  b : Mac
deriving Inhabited
def macsCells (x : Macs) : List AV := [.v (.int .u8 x.a.a), .v (.int .u8 x.a.b), .v (.int .u8 x.a.c), .v (.int .u8 x.a.d), .v (.int .u8 x.a.e), .v (.int .u8 x.a.f), .v (.int .u8 x.b.a), .v (.int .u8 x.b.b), .v (.int .u8 x.b.c), .v (.int .u8 x.b.d), .v (.int .u8 x.b.e), .v (.int .u8 x.b.f)]
noncomputable def pMacs : List AV → Option (Macs × List AV) := fun cs => (pMac cs).bind fun (a0, cs) => (pMac cs).bind fun (a1, cs) => some (⟨a0, a1⟩, cs)
theorem pMacs_snd : Snd CoP pMacs (fun x => macsCells x) := by
  intro cs x r h0
  unfold pMacs at h0
  obtain ⟨a0, r0, q0, h1, e0, c0⟩ := Snd.step pMac_snd h0
  obtain ⟨a1, r1, q1, h2, e1, c1⟩ := Snd.step pMac_snd h1
  cases h2
  subst e1 e0
  exact ⟨(q0 ++ q1), by simp only [List.append_assoc], (c0.app c1)⟩
@[simp] theorem pMacs_app (x : Macs) (r : List AV) : pMacs (macsCells x ++ r) = some (x, r) := by simp [pMacs, macsCells, pMac]
@[simp] theorem pMacs_all (x : Macs) : pMacs (macsCells x) = some (x, []) := by have := pMacs_app x []; rwa [List.append_nil] at this
@[simp] theorem macsCells_len (x : Macs) : (macsCells x).length = 12 := rfl
def encMacs (x : Macs) : AV := .v (.agg #[.int .u8 x.a.a, .int .u8 x.a.b, .int .u8 x.a.c, .int .u8 x.a.d, .int .u8 x.a.e, .int .u8 x.a.f, .int .u8 x.b.a, .int .u8 x.b.b, .int .u8 x.b.c, .int .u8 x.b.d, .int .u8 x.b.e, .int .u8 x.b.f])
@[simp high] theorem mkAgg_macs (x : Macs) : mkAgg (macsCells x) = encMacs x := rfl
@[simp] theorem flat_encMacs (x : Macs) : flat (encMacs x) = macsCells x := by simp [encMacs, flat, macsCells]
@[simp] theorem whole_encMacs (x : Macs) : whole pMacs (encMacs x) = some x := by simp [pMac, encMacs, pMacs]
@[simp high] theorem encMacs_kT (x : Macs) (s : St) (M : List Nm) : kT s M (encMacs x) = encMacs x := rfl
@[simp high] theorem encMacs_kA (x : Macs) (s : St) (M : List Nm) : kA s M (encMacs x) = encMacs x := rfl
@[simp high] theorem encMacs_kL (x : Macs) (s : St) (M : List Nm) : kL s M (encMacs x) = encMacs x := rfl
@[simp high] theorem encMacs_leafP (x : Macs)  : leafP (encMacs x) = true := rfl
@[simp high] theorem encMacs_isPure (x : Macs)  : isPure (encMacs x) = true := rfl
@[simp high] theorem encMacs_leafH (x : Macs)  : leafH (encMacs x) = true := rfl
@[simp high] theorem encMacs_isHand (x : Macs)  : isHand (encMacs x) = true := rfl
@[simp high] theorem encMacs_live (x : Macs)  : live (encMacs x) = true := rfl
@[simp high] theorem encMacs_isRes (x : Macs)  : isRes (encMacs x) = true := rfl
@[simp high] theorem encMacs_isRef (x : Macs)  : isRef (encMacs x) = false := rfl
@[simp high] theorem encMacs_strip (x : Macs)  : strip (encMacs x) = encMacs x := rfl
@[simp high] theorem encMacs_stripL (x : Macs)  : stripL (encMacs x) = encMacs x := rfl
@[simp high] theorem encMacs_stripA (x : Macs)  : stripA (encMacs x) = encMacs x := rfl
@[simp high] theorem encMacs_flagL (x : Macs) (s : St) : flagL s (encMacs x) = encMacs x := rfl
@[simp high] theorem encMacs_nameL (x : Macs) (g : Nm → Nat) (m : Nm) : nameL g m (encMacs x) = encMacs x := rfl
@[simp high] theorem encMacs_nameX (x : Macs) (g : Nm → Nat) (d k : Nat) : nameX g d k (encMacs x) = encMacs x := rfl
@[simp high] theorem encMacs_nameR (x : Macs) (g : Nm → Nat) (d : Nat) : nameR g d (encMacs x) = encMacs x := rfl
@[simp high] theorem encMacs_toV (x : Macs)  : toV (encMacs x) = some (.agg #[.int .u8 x.a.a, .int .u8 x.a.b, .int .u8 x.a.c, .int .u8 x.a.d, .int .u8 x.a.e, .int .u8 x.a.f, .int .u8 x.b.a, .int .u8 x.b.b, .int .u8 x.b.c, .int .u8 x.b.d, .int .u8 x.b.e, .int .u8 x.b.f]) := rfl
@[simp high] theorem encMacs_coA (x : Macs) (φ ψ : Nm → Option Nm) (s s2 : St) (ys : List AV) : CoA φ ψ s s2 (encMacs x) (.agg ys) = All2P (CoL φ ψ s s2) (macsCells x) ys := rfl
@[simp high] theorem encMacs_co (x : Macs) (φ ψ : Nm → Option Nm) (s s2 : St) (ys : List AV) : Co φ ψ s s2 (encMacs x) (.agg ys) = All2P (CoL φ ψ s s2) (macsCells x) ys := rfl
@[simp] theorem encMacs_ne_ptr (x : Macs) (n : Nm) (k : Nat) : (encMacs x = .ptr n k) = False := eq_false (fun h => by cases h)
@[simp] theorem encMacs_ne_tup (x : Macs) (c : List AV) : (encMacs x = .tup c) = False := eq_false (fun h => by cases h)
@[simp] theorem encMacs_ne_agg (x : Macs) (c : List AV) : (encMacs x = .agg c) = False := eq_false (fun h => by cases h)
@[simp] theorem encMacs_ne_ref (x : Macs) (c : List AV) : (encMacs x = .ref c) = False := eq_false (fun h => by cases h)
@[simp] theorem encMacs_ne_rptr (x : Macs) (y : AV) (k : Nat) : (encMacs x = .rptr y k) = False := eq_false (fun h => by cases h)
@[simp] theorem ite_encMacs (c : Prop) [Decidable c] (x y : Macs) : (if c then encMacs x else encMacs y) = encMacs (if c then x else y) := by split <;> rfl
@[simp] theorem macs_cut_a (x : Macs) : cut (macsCells x) 0 6 = macCells x.a := rfl
@[simp] theorem macs_put_a (x : Macs) (y : Mac) : splice (macsCells x) 0 (macCells y) 6 = macsCells { x with a := y } := rfl
@[simp] theorem macs_get_a_a (x : Macs) : (macsCells x)[0]? = some (.v (.int .u8 x.a.a)) := rfl
@[simp] theorem macs_put_a_a (x : Macs) (y : Int) : splice (macsCells x) 0 [.v (.int .u8 y)] 1 = macsCells { x with a := { x.a with a := y } } := rfl
@[simp] theorem macs_get_a_b (x : Macs) : (macsCells x)[1]? = some (.v (.int .u8 x.a.b)) := rfl
@[simp] theorem macs_put_a_b (x : Macs) (y : Int) : splice (macsCells x) 1 [.v (.int .u8 y)] 1 = macsCells { x with a := { x.a with b := y } } := rfl
@[simp] theorem macs_get_a_c (x : Macs) : (macsCells x)[2]? = some (.v (.int .u8 x.a.c)) := rfl
@[simp] theorem macs_put_a_c (x : Macs) (y : Int) : splice (macsCells x) 2 [.v (.int .u8 y)] 1 = macsCells { x with a := { x.a with c := y } } := rfl
@[simp] theorem macs_get_a_d (x : Macs) : (macsCells x)[3]? = some (.v (.int .u8 x.a.d)) := rfl
@[simp] theorem macs_put_a_d (x : Macs) (y : Int) : splice (macsCells x) 3 [.v (.int .u8 y)] 1 = macsCells { x with a := { x.a with d := y } } := rfl
@[simp] theorem macs_get_a_e (x : Macs) : (macsCells x)[4]? = some (.v (.int .u8 x.a.e)) := rfl
@[simp] theorem macs_put_a_e (x : Macs) (y : Int) : splice (macsCells x) 4 [.v (.int .u8 y)] 1 = macsCells { x with a := { x.a with e := y } } := rfl
@[simp] theorem macs_get_a_f (x : Macs) : (macsCells x)[5]? = some (.v (.int .u8 x.a.f)) := rfl
@[simp] theorem macs_put_a_f (x : Macs) (y : Int) : splice (macsCells x) 5 [.v (.int .u8 y)] 1 = macsCells { x with a := { x.a with f := y } } := rfl
@[simp] theorem macs_cut_b (x : Macs) : cut (macsCells x) 6 6 = macCells x.b := rfl
@[simp] theorem macs_put_b (x : Macs) (y : Mac) : splice (macsCells x) 6 (macCells y) 6 = macsCells { x with b := y } := rfl
@[simp] theorem macs_get_b_a (x : Macs) : (macsCells x)[6]? = some (.v (.int .u8 x.b.a)) := rfl
@[simp] theorem macs_put_b_a (x : Macs) (y : Int) : splice (macsCells x) 6 [.v (.int .u8 y)] 1 = macsCells { x with b := { x.b with a := y } } := rfl
@[simp] theorem macs_get_b_b (x : Macs) : (macsCells x)[7]? = some (.v (.int .u8 x.b.b)) := rfl
@[simp] theorem macs_put_b_b (x : Macs) (y : Int) : splice (macsCells x) 7 [.v (.int .u8 y)] 1 = macsCells { x with b := { x.b with b := y } } := rfl
@[simp] theorem macs_get_b_c (x : Macs) : (macsCells x)[8]? = some (.v (.int .u8 x.b.c)) := rfl
@[simp] theorem macs_put_b_c (x : Macs) (y : Int) : splice (macsCells x) 8 [.v (.int .u8 y)] 1 = macsCells { x with b := { x.b with c := y } } := rfl
@[simp] theorem macs_get_b_d (x : Macs) : (macsCells x)[9]? = some (.v (.int .u8 x.b.d)) := rfl
@[simp] theorem macs_put_b_d (x : Macs) (y : Int) : splice (macsCells x) 9 [.v (.int .u8 y)] 1 = macsCells { x with b := { x.b with d := y } } := rfl
@[simp] theorem macs_get_b_e (x : Macs) : (macsCells x)[10]? = some (.v (.int .u8 x.b.e)) := rfl
@[simp] theorem macs_put_b_e (x : Macs) (y : Int) : splice (macsCells x) 10 [.v (.int .u8 y)] 1 = macsCells { x with b := { x.b with e := y } } := rfl
@[simp] theorem macs_get_b_f (x : Macs) : (macsCells x)[11]? = some (.v (.int .u8 x.b.f)) := rfl
@[simp] theorem macs_put_b_f (x : Macs) (y : Int) : splice (macsCells x) 11 [.v (.int .u8 y)] 1 = macsCells { x with b := { x.b with f := y } } := rfl
@[simp] theorem macs_whole (x : Macs) (ys : List AV) : splice (macsCells x) 0 ys 12 = ys := by simp [splice, macsCells]
@[simp] theorem macs_cutall (x : Macs) : cut (macsCells x) 0 12 = macsCells x := rfl
@[simp] theorem macsCells_leafH (x : Macs) : (macsCells x).all leafH = true := rfl
@[simp] theorem macsCells_leafP (x : Macs) : (macsCells x).all leafP = true := rfl
@[simp] theorem macsCells_leafOk (x : Macs) : (macsCells x).all leafOk = true := rfl
@[simp] theorem macsCells_kL (s : St) (M : List Nm) (x : Macs) : (macsCells x).map (kL s M) = macsCells x := rfl
@[simp] theorem macsCells_strip (x : Macs) : (macsCells x).map strip = macsCells x := rfl
@[simp] theorem macsCells_stripL (x : Macs) : (macsCells x).map stripL = macsCells x := rfl
@[simp] theorem macsCells_name (g : Nm → Nat) (d i k : Nat) (x : Macs) : nameC g d i k (macsCells x) = macsCells x := rfl
@[simp] theorem macsCells_flag (s : St) (x : Macs) : (macsCells x).map (flagL s) = macsCells x := rfl
@[simp] theorem macsCells_tags (s : St) (x : Macs) : tagsOf s (macsCells x) = [] := by simp [macsCells, tagsOf]
@[simp] theorem macsCells_co (φ ψ : Nm → Option Nm) (s s2 : St) (x : Macs) : All2P (CoL φ ψ s s2) (macsCells x) (macsCells x) := by simp [macsCells]

@[simp] theorem macsCells_kLr (s : St) (l : List (Nm × Nm)) (M : List Nm) (x : Macs) : (macsCells x).map (kLr s l M) = macsCells x := rfl
@[simp] theorem macsCells_tagsAt (s : St) (n : Nm) (k : Nat) (x : Macs) : tagsAt s n k (macsCells x) = [] := by simp [macsCells, tagsAt]
@[simp] theorem mergeC_macs (b : Bool) (x y : Macs) : mergeC b (macsCells x) (macsCells y) = macsCells (if b = true then x else y) := by cases b <;> rfl
@[simp] theorem ite_macsCells (c : Prop) [Decidable c] (x y : Macs) : (if c then macsCells x else macsCells y) = macsCells (if c then x else y) := by split <;> rfl
theorem macsCells_coE {φ ψ : Nm → Option Nm} {s s2 : St} {x y : Macs} (e : x = y) : All2P (CoL φ ψ s s2) (macsCells x) (macsCells y) := by subst e; exact macsCells_co ..
end Caw
namespace Caw
def MacsOk (x : Macs) : Prop := MacOk x.a ∧ MacOk x.b
end Caw
namespace Caw
open Go Go.RowKit
/-! ### Facts for the walks of the laws -/
theorem writeIP_size {a : Ip} (h : LowIp a) : (writeIP a).size ≤ 100000 := by
  have := writeIP_len h
  simpa [writeIP] using this
theorem writeIP_small {a : Ip} (h : LowIp a) : (writeIP a).size ≤ 23 := by
  have h1 := dd_len (Int.lt_trans h.a1 (by decide))
  have h2 := dd_len (Int.lt_trans h.b1 (by decide))
  have h3 := dd_len (Int.lt_trans h.c1 (by decide))
  have h4 := dd_len (Int.lt_trans h.d1 (by decide))
  simp [writeIP, Lib.join]
  omega
theorem writeA_size {a : Addr} (h : LowA a) : (writeA a).size ≤ 100000 := by
  have h1 := writeIP_small h.ip
  have h2 := dd_len (Int.lt_trans h.p1 (by decide))
  have h6 : (⟨#[58]⟩ : ByteArray).size = 1 := rfl
  simp [writeA, h6]
  omega
theorem again_addr {a b : Addr} (ha : LowA a) (hb : LowA b) : ((writeA a).toList == (writeA b).toList) = ((a.a == b.a && a.b == b.b && a.c == b.c && a.d == b.d) && a.port == b.port) := by
  rw [str_eq]
  by_cases h : a = b
  · subst h; simp
  · have h1 : ¬ writeA a = writeA b := fun e => h ((writeA_inj ha hb).1 e)
    rw [decide_eq_false h1]
    symm
    apply Bool.eq_false_iff.2
    intro e
    simp only [Bool.and_eq_true, beq_iff_eq] at e
    exact h (by cases a; cases b; simp_all)
theorem again_mac {a b : Mac} (ha : MacOk a) (hb : MacOk b) : ((writeMAC a).toList == (writeMAC b).toList) = (a.a == b.a && a.b == b.b && a.c == b.c && a.d == b.d && a.e == b.e && a.f == b.f) := by
  rw [str_eq]
  by_cases h : a = b
  · subst h; simp
  · have h1 : ¬ writeMAC a = writeMAC b := fun e => h ((writeMAC_inj ha hb).1 e)
    rw [decide_eq_false h1]
    symm
    apply Bool.eq_false_iff.2
    intro e
    simp only [Bool.and_eq_true, beq_iff_eq] at e
    exact h (by cases a; cases b; simp_all)
/-- What a text is. -/
theorem texts (s : ByteArray) : (∃ a, LowA a ∧ s = writeA a ∧ readA s = (a, 0) ∧ readIP s = (ip0, 7) ∧ readMAC s = (mac0, 7)) ∨ (∃ a, LowIp a ∧ s = writeIP a ∧ readA s = (addr0, 7) ∧ readIP s = (a, 0) ∧ readMAC s = (mac0, 7)) ∨
    (∃ a, MacOk a ∧ s = writeMAC a ∧ readA s = (addr0, 7) ∧ readIP s = (ip0, 7) ∧ readMAC s = (a, 0)) ∨ (readA s = (addr0, 7) ∧ readIP s = (ip0, 7) ∧ readMAC s = (mac0, 7)) := by
  rcases readA_cases s with ⟨a, a1, a2, a3⟩ | a3
  · have c1 := colons_a a
    rw [← a2] at c1
    rcases readIP_cases s with ⟨b, b1, b2, b3⟩ | b3
    · have c2 := colons_ip b
      rw [← b2, c1] at c2
      cases c2
    · rcases readMAC_cases s with ⟨c, d1, d2, d3⟩ | d3
      · have c2 := colons_mac d1
        rw [← d2, c1] at c2
        cases c2
      · exact .inl ⟨a, a1, a2, a3, b3, d3⟩
  · rcases readIP_cases s with ⟨b, b1, b2, b3⟩ | b3
    · rcases readMAC_cases s with ⟨c, d1, d2, d3⟩ | d3
      · have c1 := colons_ip b
        have c2 := colons_mac d1
        rw [← d2, b2, c1] at c2
        cases c2
      · exact .inr (.inl ⟨b, b1, b2, a3, b3, d3⟩)
    · rcases readMAC_cases s with ⟨c, d1, d2, d3⟩ | d3
      · exact .inr (.inr (.inl ⟨c, d1, d2, a3, b3, d3⟩))
      · exact .inr (.inr (.inr ⟨a3, b3, d3⟩))
end Caw

-- Printed by genwalk.py.
namespace Go.Proofs.YtkmjoppcecffkaaDoor
open Go Go.RowKit Caw
set_option linter.unusedSimpArgs false
set_option linter.unusedVariables false
set_option maxRecDepth 100000

-- caravel/caravellaw04.AddrAgain
theorem g7 : GOk1 Tryd.prog (ctxOf [(9, F9), (10, F10), (14, F14), (12, F12), (16, F16), (20, F20), (22, F22)]) := gok_cons spec9 en9 (gok_cons spec10 en10 (gok_cons spec14 en14 (gok_cons spec12 en12 (gok_cons spec16 en16 (gok_cons spec20 en20 (gok_cons spec22 en22 (gok_nil)))))))
set_option maxHeartbeats 8000000 in
theorem at7 (a : Caw.Addr) (b : Caw.Addr) (m : Caw.Macs) (hpre : LowA a ∧ LowA b ∧ MacsOk m) : SpecAt Tryd.prog 7 [.agg (addrCells a), .agg (addrCells b), .agg (macsCells m)] (.v (.bool true)) none := by
  obtain ⟨pa, pb, pm1, pm2⟩ := hpre
  have r1 := readA_write pa
  have r2 := readIP_write pb.ip
  have r3 := readMAC_write pm1
  have s1 := writeA_size pa
  have s2 := writeIP_size pb.ip
  have s3 : (writeMAC m.a).size ≤ 100000 := by rw [writeMAC_size]; decide
  have e1 := again_addr pa pb
  have e2 := again_mac pm1 pm2
  have hp : pIp [AV.v (.int .u8 b.a), .v (.int .u8 b.b), .v (.int .u8 b.c), .v (.int .u8 b.d)] = some (ipOf b, []) := pIp_all (ipOf b)
  have hm1 : pMac [AV.v (.int .u8 m.a.a), .v (.int .u8 m.a.b), .v (.int .u8 m.a.c), .v (.int .u8 m.a.d), .v (.int .u8 m.a.e), .v (.int .u8 m.a.f)] = some (m.a, []) := pMac_all m.a
  have hm2 : pMac [AV.v (.int .u8 m.b.a), .v (.int .u8 m.b.b), .v (.int .u8 m.b.c), .v (.int .u8 m.b.d), .v (.int .u8 m.b.e), .v (.int .u8 m.b.f)] = some (m.b, []) := pMac_all m.b
  have ip1 := pb.ip
  have ha1 : pAddr [AV.v (.int .u8 a.a), .v (.int .u8 a.b), .v (.int .u8 a.c), .v (.int .u8 a.d), .v (.int .u16 a.port)] = some (a, []) := pAddr_all a
  have ha2 : pAddr [AV.v (.int .u8 b.a), .v (.int .u8 b.b), .v (.int .u8 b.c), .v (.int .u8 b.d), .v (.int .u16 b.port)] = some (b, []) := pAddr_all b
  have hc1 : cut (addrCells b) 0 4 = ipCells (ipOf b) := rfl
  have hc2 : cut (macsCells m) 0 6 = macCells m.a := rfl
  have hc3 : cut (macsCells m) 6 6 = macCells m.b := rfl
  have i1 : (ipOf b).a = b.a := rfl
  have i2 : (ipOf b).b = b.b := rfl
  have i3 : (ipOf b).c = b.c := rfl
  have i4 : (ipOf b).d = b.d := rfl
  refine specAt_of_tri Tryd.func7 rfl (Nat.le_of_ble_eq_true rfl) ?_
  all_goals (repeat' (first
      | (refine tri_condT (b_true (by simp; with_reducible exact IsB.mk)) ?_)
      | (refine tri_condF (b_true (by simp; with_reducible exact IsB.mk)) ?_)
      | (refine tri_skipT ?_)
      | (refine tri_skip ?_)
      | (refine then_to ?_)
      | (refine th_n ?_)
      | (refine in_n ?_)
      | (refine in_e ?_)
      | (refine in_x rfl ?_)
      | (refine th_e ?_)
      | (refine th_r ?_)
      | (refine in_r ?_)
      | (refine tri_ret ?_)
      | (refine tri_exit ?_)
      | (refine tri_block ?_)
      | (refine tri_step (id := 0) (C := ⟨[], [], [(3, (4, 0, 0)), (4, (5, 0, 0)), (7, (8, 0, 0)), (9, (10, 0, 0)), (11, (12, 0, 0)), (44, (5, 0, 0)), (54, (6, 0, 0)), (74, (6, 0, 0)), (77, (6, 0, 0)), (81, (6, 0, 0)), (83, (6, 0, 0))]⟩) [3, 4, 5] [(4, 0, 0), (5, 0, 0), (6, 0, 0)] g7 nodraw ?_; refine ⟨_, by (simp [*, F9, F10, F14, F12, F16, F20, F22, encMac, encIp, encAddr, flg]; exact Is.mk), ?_⟩)
      | (refine tri_last (id := 0) (C := ⟨[], [], [(3, (4, 0, 0)), (4, (5, 0, 0)), (7, (8, 0, 0)), (9, (10, 0, 0)), (11, (12, 0, 0)), (44, (5, 0, 0)), (54, (6, 0, 0)), (74, (6, 0, 0)), (77, (6, 0, 0)), (81, (6, 0, 0)), (83, (6, 0, 0))]⟩) [3, 4, 5] [(4, 0, 0), (5, 0, 0), (6, 0, 0)] g7 nodraw ?_; refine ⟨_, by (simp [*, F9, F10, F14, F12, F16, F20, F22, encMac, encIp, encAddr, flg]; exact Is.mk), ?_⟩)
      | (refine tri_step (id := 1) (C := ⟨[], [], [(3, (4, 0, 0)), (4, (5, 0, 0)), (7, (8, 0, 0)), (9, (10, 0, 0)), (11, (12, 0, 0)), (44, (5, 0, 0)), (54, (6, 0, 0)), (74, (6, 0, 0)), (77, (6, 0, 0)), (81, (6, 0, 0)), (83, (6, 0, 0))]⟩) [3, 4, 5, 14] [(4, 0, 0), (5, 0, 0), (6, 0, 0)] g7 nodraw ?_; refine ⟨_, by (simp [*, F9, F10, F14, F12, F16, F20, F22, encMac, encIp, encAddr, flg]; exact Is.mk), ?_⟩)
      | (refine tri_last (id := 1) (C := ⟨[], [], [(3, (4, 0, 0)), (4, (5, 0, 0)), (7, (8, 0, 0)), (9, (10, 0, 0)), (11, (12, 0, 0)), (44, (5, 0, 0)), (54, (6, 0, 0)), (74, (6, 0, 0)), (77, (6, 0, 0)), (81, (6, 0, 0)), (83, (6, 0, 0))]⟩) [3, 4, 5, 14] [(4, 0, 0), (5, 0, 0), (6, 0, 0)] g7 nodraw ?_; refine ⟨_, by (simp [*, F9, F10, F14, F12, F16, F20, F22, encMac, encIp, encAddr, flg]; exact Is.mk), ?_⟩)
      | (refine tri_step (id := 2) (C := ⟨[], [], [(3, (4, 0, 0)), (4, (5, 0, 0)), (7, (8, 0, 0)), (9, (10, 0, 0)), (11, (12, 0, 0)), (44, (5, 0, 0)), (54, (6, 0, 0)), (74, (6, 0, 0)), (77, (6, 0, 0)), (81, (6, 0, 0)), (83, (6, 0, 0))]⟩) [6] [] g7 nodraw ?_; refine ⟨_, by (simp [*, F9, F10, F14, F12, F16, F20, F22, encMac, encIp, encAddr, flg]; exact Is.mk), ?_⟩)
      | (refine tri_last (id := 2) (C := ⟨[], [], [(3, (4, 0, 0)), (4, (5, 0, 0)), (7, (8, 0, 0)), (9, (10, 0, 0)), (11, (12, 0, 0)), (44, (5, 0, 0)), (54, (6, 0, 0)), (74, (6, 0, 0)), (77, (6, 0, 0)), (81, (6, 0, 0)), (83, (6, 0, 0))]⟩) [6] [] g7 nodraw ?_; refine ⟨_, by (simp [*, F9, F10, F14, F12, F16, F20, F22, encMac, encIp, encAddr, flg]; exact Is.mk), ?_⟩)
      | (refine tri_step (id := 3) (C := ⟨[], [], [(3, (4, 0, 0)), (4, (5, 0, 0)), (7, (8, 0, 0)), (9, (10, 0, 0)), (11, (12, 0, 0)), (44, (5, 0, 0)), (54, (6, 0, 0)), (74, (6, 0, 0)), (77, (6, 0, 0)), (81, (6, 0, 0)), (83, (6, 0, 0))]⟩) [3, 4, 5, 7, 8] [(4, 0, 0), (5, 0, 0), (6, 0, 0), (8, 0, 0)] g7 nodraw ?_; refine ⟨_, by (simp [*, F9, F10, F14, F12, F16, F20, F22, encMac, encIp, encAddr, flg]; exact Is.mk), ?_⟩)
      | (refine tri_last (id := 3) (C := ⟨[], [], [(3, (4, 0, 0)), (4, (5, 0, 0)), (7, (8, 0, 0)), (9, (10, 0, 0)), (11, (12, 0, 0)), (44, (5, 0, 0)), (54, (6, 0, 0)), (74, (6, 0, 0)), (77, (6, 0, 0)), (81, (6, 0, 0)), (83, (6, 0, 0))]⟩) [3, 4, 5, 7, 8] [(4, 0, 0), (5, 0, 0), (6, 0, 0), (8, 0, 0)] g7 nodraw ?_; refine ⟨_, by (simp [*, F9, F10, F14, F12, F16, F20, F22, encMac, encIp, encAddr, flg]; exact Is.mk), ?_⟩)
      | (refine tri_step (id := 4) (C := ⟨[], [], [(3, (4, 0, 0)), (4, (5, 0, 0)), (7, (8, 0, 0)), (9, (10, 0, 0)), (11, (12, 0, 0)), (44, (5, 0, 0)), (54, (6, 0, 0)), (74, (6, 0, 0)), (77, (6, 0, 0)), (81, (6, 0, 0)), (83, (6, 0, 0))]⟩) [3, 4, 5, 7, 8, 9, 10] [(4, 0, 0), (5, 0, 0), (6, 0, 0), (8, 0, 0), (10, 0, 0)] g7 nodraw ?_; refine ⟨_, by (simp [*, F9, F10, F14, F12, F16, F20, F22, encMac, encIp, encAddr, flg]; exact Is.mk), ?_⟩)
      | (refine tri_last (id := 4) (C := ⟨[], [], [(3, (4, 0, 0)), (4, (5, 0, 0)), (7, (8, 0, 0)), (9, (10, 0, 0)), (11, (12, 0, 0)), (44, (5, 0, 0)), (54, (6, 0, 0)), (74, (6, 0, 0)), (77, (6, 0, 0)), (81, (6, 0, 0)), (83, (6, 0, 0))]⟩) [3, 4, 5, 7, 8, 9, 10] [(4, 0, 0), (5, 0, 0), (6, 0, 0), (8, 0, 0), (10, 0, 0)] g7 nodraw ?_; refine ⟨_, by (simp [*, F9, F10, F14, F12, F16, F20, F22, encMac, encIp, encAddr, flg]; exact Is.mk), ?_⟩)
      | (refine tri_step (id := 5) (C := ⟨[], [], [(3, (4, 0, 0)), (4, (5, 0, 0)), (7, (8, 0, 0)), (9, (10, 0, 0)), (11, (12, 0, 0)), (44, (5, 0, 0)), (54, (6, 0, 0)), (74, (6, 0, 0)), (77, (6, 0, 0)), (81, (6, 0, 0)), (83, (6, 0, 0))]⟩) [3, 4, 5, 7, 8, 9, 10, 11, 12] [(4, 0, 0), (5, 0, 0), (6, 0, 0), (8, 0, 0), (10, 0, 0), (12, 0, 0)] g7 nodraw ?_; refine ⟨_, by (simp [*, F9, F10, F14, F12, F16, F20, F22, encMac, encIp, encAddr, flg]; exact Is.mk), ?_⟩)
      | (refine tri_last (id := 5) (C := ⟨[], [], [(3, (4, 0, 0)), (4, (5, 0, 0)), (7, (8, 0, 0)), (9, (10, 0, 0)), (11, (12, 0, 0)), (44, (5, 0, 0)), (54, (6, 0, 0)), (74, (6, 0, 0)), (77, (6, 0, 0)), (81, (6, 0, 0)), (83, (6, 0, 0))]⟩) [3, 4, 5, 7, 8, 9, 10, 11, 12] [(4, 0, 0), (5, 0, 0), (6, 0, 0), (8, 0, 0), (10, 0, 0), (12, 0, 0)] g7 nodraw ?_; refine ⟨_, by (simp [*, F9, F10, F14, F12, F16, F20, F22, encMac, encIp, encAddr, flg]; exact Is.mk), ?_⟩)
      | (refine tri_stepG (id := 6) (C := ⟨[], [], [(3, (4, 0, 0)), (4, (5, 0, 0)), (7, (8, 0, 0)), (9, (10, 0, 0)), (11, (12, 0, 0)), (44, (5, 0, 0)), (54, (6, 0, 0)), (74, (6, 0, 0)), (77, (6, 0, 0)), (81, (6, 0, 0)), (83, (6, 0, 0))]⟩) [6] [] g7 (fun _ => ⟨q_mixed, by kernel_rfl⟩) ?_; refine ⟨_, (by repeat' (first | refine go_T ?_ | refine go_F ?_ | apply go_S | (refine run_go 0 4 38 (by simp [*, F9, F10, F14, F12, F16, F20, F22, encMac, encIp, encAddr, flg]; exact Is.mk) (by simp [*]; exact IsB.mk) ?_) | (refine run_go 0 8 42 (by simp [*, F9, F10, F14, F12, F16, F20, F22, encMac, encIp, encAddr, flg]; exact Is.mk) (by simp [*]; exact IsB.mk) ?_) | (refine run_go 0 14 48 (by simp [*, F9, F10, F14, F12, F16, F20, F22, encMac, encIp, encAddr, flg]; exact Is.mk) (by simp [*]; exact IsB.mk) ?_) | (refine run_go 0 18 52 (by simp [*, F9, F10, F14, F12, F16, F20, F22, encMac, encIp, encAddr, flg]; exact Is.mk) (by simp [*]; exact IsB.mk) ?_) | (refine run_go 0 24 58 (by simp [*, F9, F10, F14, F12, F16, F20, F22, encMac, encIp, encAddr, flg]; exact Is.mk) (by simp [*]; exact IsB.mk) ?_) | (refine run_go 0 28 62 (by simp [*, F9, F10, F14, F12, F16, F20, F22, encMac, encIp, encAddr, flg]; exact Is.mk) (by simp [*]; exact IsB.mk) ?_) | (refine run_go 0 39 73 (by simp [*, F9, F10, F14, F12, F16, F20, F22, encMac, encIp, encAddr, flg]; exact Is.mk) (by simp [*]; exact IsB.mk) ?_) | (refine run_go 4 4 42 (by simp [*, F9, F10, F14, F12, F16, F20, F22, encMac, encIp, encAddr, flg]; exact Is.mk) (by simp [*]; exact IsB.mk) ?_) | (refine run_go 4 10 48 (by simp [*, F9, F10, F14, F12, F16, F20, F22, encMac, encIp, encAddr, flg]; exact Is.mk) (by simp [*]; exact IsB.mk) ?_) | (refine run_go 4 14 52 (by simp [*, F9, F10, F14, F12, F16, F20, F22, encMac, encIp, encAddr, flg]; exact Is.mk) (by simp [*]; exact IsB.mk) ?_) | (refine run_go 4 20 58 (by simp [*, F9, F10, F14, F12, F16, F20, F22, encMac, encIp, encAddr, flg]; exact Is.mk) (by simp [*]; exact IsB.mk) ?_) | (refine run_go 4 24 62 (by simp [*, F9, F10, F14, F12, F16, F20, F22, encMac, encIp, encAddr, flg]; exact Is.mk) (by simp [*]; exact IsB.mk) ?_) | (refine run_go 4 35 73 (by simp [*, F9, F10, F14, F12, F16, F20, F22, encMac, encIp, encAddr, flg]; exact Is.mk) (by simp [*]; exact IsB.mk) ?_) | (refine run_go 8 6 48 (by simp [*, F9, F10, F14, F12, F16, F20, F22, encMac, encIp, encAddr, flg]; exact Is.mk) (by simp [*]; exact IsB.mk) ?_) | (refine run_go 8 10 52 (by simp [*, F9, F10, F14, F12, F16, F20, F22, encMac, encIp, encAddr, flg]; exact Is.mk) (by simp [*]; exact IsB.mk) ?_) | (refine run_go 8 16 58 (by simp [*, F9, F10, F14, F12, F16, F20, F22, encMac, encIp, encAddr, flg]; exact Is.mk) (by simp [*]; exact IsB.mk) ?_) | (refine run_go 8 20 62 (by simp [*, F9, F10, F14, F12, F16, F20, F22, encMac, encIp, encAddr, flg]; exact Is.mk) (by simp [*]; exact IsB.mk) ?_) | (refine run_go 8 31 73 (by simp [*, F9, F10, F14, F12, F16, F20, F22, encMac, encIp, encAddr, flg]; exact Is.mk) (by simp [*]; exact IsB.mk) ?_) | (refine run_go 14 4 52 (by simp [*, F9, F10, F14, F12, F16, F20, F22, encMac, encIp, encAddr, flg]; exact Is.mk) (by simp [*]; exact IsB.mk) ?_) | (refine run_go 14 10 58 (by simp [*, F9, F10, F14, F12, F16, F20, F22, encMac, encIp, encAddr, flg]; exact Is.mk) (by simp [*]; exact IsB.mk) ?_) | (refine run_go 14 14 62 (by simp [*, F9, F10, F14, F12, F16, F20, F22, encMac, encIp, encAddr, flg]; exact Is.mk) (by simp [*]; exact IsB.mk) ?_) | (refine run_go 14 25 73 (by simp [*, F9, F10, F14, F12, F16, F20, F22, encMac, encIp, encAddr, flg]; exact Is.mk) (by simp [*]; exact IsB.mk) ?_) | (refine run_go 18 6 58 (by simp [*, F9, F10, F14, F12, F16, F20, F22, encMac, encIp, encAddr, flg]; exact Is.mk) (by simp [*]; exact IsB.mk) ?_) | (refine run_go 18 10 62 (by simp [*, F9, F10, F14, F12, F16, F20, F22, encMac, encIp, encAddr, flg]; exact Is.mk) (by simp [*]; exact IsB.mk) ?_) | (refine run_go 18 21 73 (by simp [*, F9, F10, F14, F12, F16, F20, F22, encMac, encIp, encAddr, flg]; exact Is.mk) (by simp [*]; exact IsB.mk) ?_) | (refine run_go 24 4 62 (by simp [*, F9, F10, F14, F12, F16, F20, F22, encMac, encIp, encAddr, flg]; exact Is.mk) (by simp [*]; exact IsB.mk) ?_) | (refine run_go 24 15 73 (by simp [*, F9, F10, F14, F12, F16, F20, F22, encMac, encIp, encAddr, flg]; exact Is.mk) (by simp [*]; exact IsB.mk) ?_) | (refine run_go 28 11 73 (by simp [*, F9, F10, F14, F12, F16, F20, F22, encMac, encIp, encAddr, flg]; exact Is.mk) (by simp [*]; exact IsB.mk) ?_) | (simp [*, F9, F10, F14, F12, F16, F20, F22, encMac, encIp, encAddr, flg]; exact IsK.mk))), ?_⟩)
      | (refine tri_lastG (id := 6) (C := ⟨[], [], [(3, (4, 0, 0)), (4, (5, 0, 0)), (7, (8, 0, 0)), (9, (10, 0, 0)), (11, (12, 0, 0)), (44, (5, 0, 0)), (54, (6, 0, 0)), (74, (6, 0, 0)), (77, (6, 0, 0)), (81, (6, 0, 0)), (83, (6, 0, 0))]⟩) [6] [] g7 (fun _ => ⟨q_mixed, by kernel_rfl⟩) ?_; refine ⟨_, (by repeat' (first | refine go_T ?_ | refine go_F ?_ | apply go_S | (refine run_go 0 4 38 (by simp [*, F9, F10, F14, F12, F16, F20, F22, encMac, encIp, encAddr, flg]; exact Is.mk) (by simp [*]; exact IsB.mk) ?_) | (refine run_go 0 8 42 (by simp [*, F9, F10, F14, F12, F16, F20, F22, encMac, encIp, encAddr, flg]; exact Is.mk) (by simp [*]; exact IsB.mk) ?_) | (refine run_go 0 14 48 (by simp [*, F9, F10, F14, F12, F16, F20, F22, encMac, encIp, encAddr, flg]; exact Is.mk) (by simp [*]; exact IsB.mk) ?_) | (refine run_go 0 18 52 (by simp [*, F9, F10, F14, F12, F16, F20, F22, encMac, encIp, encAddr, flg]; exact Is.mk) (by simp [*]; exact IsB.mk) ?_) | (refine run_go 0 24 58 (by simp [*, F9, F10, F14, F12, F16, F20, F22, encMac, encIp, encAddr, flg]; exact Is.mk) (by simp [*]; exact IsB.mk) ?_) | (refine run_go 0 28 62 (by simp [*, F9, F10, F14, F12, F16, F20, F22, encMac, encIp, encAddr, flg]; exact Is.mk) (by simp [*]; exact IsB.mk) ?_) | (refine run_go 0 39 73 (by simp [*, F9, F10, F14, F12, F16, F20, F22, encMac, encIp, encAddr, flg]; exact Is.mk) (by simp [*]; exact IsB.mk) ?_) | (refine run_go 4 4 42 (by simp [*, F9, F10, F14, F12, F16, F20, F22, encMac, encIp, encAddr, flg]; exact Is.mk) (by simp [*]; exact IsB.mk) ?_) | (refine run_go 4 10 48 (by simp [*, F9, F10, F14, F12, F16, F20, F22, encMac, encIp, encAddr, flg]; exact Is.mk) (by simp [*]; exact IsB.mk) ?_) | (refine run_go 4 14 52 (by simp [*, F9, F10, F14, F12, F16, F20, F22, encMac, encIp, encAddr, flg]; exact Is.mk) (by simp [*]; exact IsB.mk) ?_) | (refine run_go 4 20 58 (by simp [*, F9, F10, F14, F12, F16, F20, F22, encMac, encIp, encAddr, flg]; exact Is.mk) (by simp [*]; exact IsB.mk) ?_) | (refine run_go 4 24 62 (by simp [*, F9, F10, F14, F12, F16, F20, F22, encMac, encIp, encAddr, flg]; exact Is.mk) (by simp [*]; exact IsB.mk) ?_) | (refine run_go 4 35 73 (by simp [*, F9, F10, F14, F12, F16, F20, F22, encMac, encIp, encAddr, flg]; exact Is.mk) (by simp [*]; exact IsB.mk) ?_) | (refine run_go 8 6 48 (by simp [*, F9, F10, F14, F12, F16, F20, F22, encMac, encIp, encAddr, flg]; exact Is.mk) (by simp [*]; exact IsB.mk) ?_) | (refine run_go 8 10 52 (by simp [*, F9, F10, F14, F12, F16, F20, F22, encMac, encIp, encAddr, flg]; exact Is.mk) (by simp [*]; exact IsB.mk) ?_) | (refine run_go 8 16 58 (by simp [*, F9, F10, F14, F12, F16, F20, F22, encMac, encIp, encAddr, flg]; exact Is.mk) (by simp [*]; exact IsB.mk) ?_) | (refine run_go 8 20 62 (by simp [*, F9, F10, F14, F12, F16, F20, F22, encMac, encIp, encAddr, flg]; exact Is.mk) (by simp [*]; exact IsB.mk) ?_) | (refine run_go 8 31 73 (by simp [*, F9, F10, F14, F12, F16, F20, F22, encMac, encIp, encAddr, flg]; exact Is.mk) (by simp [*]; exact IsB.mk) ?_) | (refine run_go 14 4 52 (by simp [*, F9, F10, F14, F12, F16, F20, F22, encMac, encIp, encAddr, flg]; exact Is.mk) (by simp [*]; exact IsB.mk) ?_) | (refine run_go 14 10 58 (by simp [*, F9, F10, F14, F12, F16, F20, F22, encMac, encIp, encAddr, flg]; exact Is.mk) (by simp [*]; exact IsB.mk) ?_) | (refine run_go 14 14 62 (by simp [*, F9, F10, F14, F12, F16, F20, F22, encMac, encIp, encAddr, flg]; exact Is.mk) (by simp [*]; exact IsB.mk) ?_) | (refine run_go 14 25 73 (by simp [*, F9, F10, F14, F12, F16, F20, F22, encMac, encIp, encAddr, flg]; exact Is.mk) (by simp [*]; exact IsB.mk) ?_) | (refine run_go 18 6 58 (by simp [*, F9, F10, F14, F12, F16, F20, F22, encMac, encIp, encAddr, flg]; exact Is.mk) (by simp [*]; exact IsB.mk) ?_) | (refine run_go 18 10 62 (by simp [*, F9, F10, F14, F12, F16, F20, F22, encMac, encIp, encAddr, flg]; exact Is.mk) (by simp [*]; exact IsB.mk) ?_) | (refine run_go 18 21 73 (by simp [*, F9, F10, F14, F12, F16, F20, F22, encMac, encIp, encAddr, flg]; exact Is.mk) (by simp [*]; exact IsB.mk) ?_) | (refine run_go 24 4 62 (by simp [*, F9, F10, F14, F12, F16, F20, F22, encMac, encIp, encAddr, flg]; exact Is.mk) (by simp [*]; exact IsB.mk) ?_) | (refine run_go 24 15 73 (by simp [*, F9, F10, F14, F12, F16, F20, F22, encMac, encIp, encAddr, flg]; exact Is.mk) (by simp [*]; exact IsB.mk) ?_) | (refine run_go 28 11 73 (by simp [*, F9, F10, F14, F12, F16, F20, F22, encMac, encIp, encAddr, flg]; exact Is.mk) (by simp [*]; exact IsB.mk) ?_) | (simp [*, F9, F10, F14, F12, F16, F20, F22, encMac, encIp, encAddr, flg]; exact IsK.mk))), ?_⟩)
      | (refine tri_cond (c := .tmp 14) (b_true (by simp; exact IsB.mk)) (fun hc => ?_) (fun hc => ?_))
      | (refine to_mk (by simp; exact IsK.mk))
      | (refine imp_ ?_)
      | ((simp; exact IsK.mk))
      | (refine tri_seq ?_)
      ))
  all_goals (refine post_plainV (P := Tryd.prog) (fn := Tryd.f7) (by simp; exact IsV.mk) rfl ?_)
  all_goals (first | (simp [F9, F10, F14, F12, F16, F20, F22, encMac, encIp, encAddr, flg]; done) | (simp [*, F9, F10, F14, F12, F16, F20, F22, encMac, encIp, encAddr, flg]; done) | (simp_all [F9, F10, F14, F12, F16, F20, F22, encMac, encIp, encAddr, flg]; done) | (simp [F9, F10, F14, F12, F16, F20, F22, encMac, encIp, encAddr, flg] <;> (repeat' split) <;> simp_all; done) | (simp [F9, F10, F14, F12, F16, F20, F22, encMac, encIp, encAddr, flg] <;> (repeat' split) <;> simp_all [Bool.and_assoc] <;> grind [List.length_eq_zero_iff, sendCells_co, recvCells_co, pieceCells_co, connCells_co, segCells_co, clockCells_co]))
open Classical in
noncomputable def F7 : Fn1
  | [x0, x1, x2] => (whole pAddr x0).bind fun a => (whole pAddr x1).bind fun b => (whole pMacs x2).bind fun m => if LowA a ∧ LowA b ∧ MacsOk m then some ((.v (.bool true)), none) else none
  | _ => none
theorem spec7 : Spec1 Tryd.prog 7 F7 := spec_of fun ys r o h => by
  unfold F7 at h
  split at h
  case h_2 => cases h
  obtain ⟨a, k0, h1⟩ := bind_some h
  obtain ⟨b, k1, h2⟩ := bind_some h1
  obtain ⟨m, k2, h3⟩ := bind_some h2
  obtain ⟨hpre, hz⟩ := ite_some h3
  cases hz
  exact ⟨_, at7 a b m hpre, rfl, le_plain ⟨whole_co pAddr_snd k0, ⟨whole_co pAddr_snd k1, ⟨whole_co pMacs_snd k2, trivial⟩⟩⟩ (by simp only [List.all_cons, List.all_nil, Bool.not_false, Bool.and_self, notRefB (whole_co pAddr_snd k0) rfl (by simp), notRefB (whole_co pAddr_snd k1) rfl (by simp), notRefB (whole_co pMacs_snd k2) rfl (by simp)]) rfl⟩
theorem en7 : Enters Tryd.prog 7 := enters_of Tryd.func7 (by kernel_rfl) rfl

end Go.Proofs.YtkmjoppcecffkaaDoor

