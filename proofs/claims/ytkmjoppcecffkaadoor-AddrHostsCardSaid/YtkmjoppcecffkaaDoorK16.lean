import Derived.Test.YtkmjoppcecffkaaDoorK14
import Derived.Test.YtkmjoppcecffkaaDoorK10
import Derived.Test.YtkmjoppcecffkaaDoorK15
set_option linter.all false
/-! Printed by gencells6.py: the structures of the laws of layer addr. -/
namespace Caw
open Go Go.RowKit
set_option linter.unusedSimpArgs false
set_option maxRecDepth 100000

@[ext] structure Macs where
  a : Mac
  b : Mac
deriving Inhabited
def macsCells (x : Macs) : List AV := [.v (.int .u8 x.a.a), .v (.int .u8 x.a.b), .v (.int .u8 x.a.c), .v (.int .u8 x.a.d), .v (.int .u8 x.a.e), .v (.int .u8 x.a.f), .v (.int .u8 x.b.a), .v (.int .u8 x.b.b), .v (.int .u8 x.b.c), .v (.int .u8 x.b.d), .v (.int .u8 x.b.e), .v (.int .u8 x.b.f)]
noncomputable def pMacs : List AV → Option (Macs × List AV) := fun cs => (pMac cs).bind fun (a0, cs) => (pMac cs).bind fun (a1, cs) => some (⟨a0, a1⟩, cs)
theorem pMacs_snd : Snd CoP pMacs (fun x => macsCells x) := by
  intro cs x r h0
  unfold pMacs at h0
  obtain ⟨a0, r0, q0, h1, e0, c0⟩ := Snd.step pMac_snd h0
  obtain ⟨a1, r1, q1, h2, e1, c1⟩ := Snd.step pMac_snd h1
  cases h2
  subst e1 e0
  exact ⟨(q0 ++ q1), by simp only [List.append_assoc], (c0.app c1)⟩
@[simp] theorem pMacs_app (x : Macs) (r : List AV) : pMacs (macsCells x ++ r) = some (x, r) := by simp [pMacs, macsCells, pMac]
@[simp] theorem pMacs_all (x : Macs) : pMacs (macsCells x) = some (x, []) := by have := pMacs_app x []; rwa [List.append_nil] at this
@[simp] theorem macsCells_len (x : Macs) : (macsCells x).length = 12 := rfl
def encMacs (x : Macs) : AV := .v (.agg #[.int .u8 x.a.a, .int .u8 x.a.b, .int .u8 x.a.c, .int .u8 x.a.d, .int .u8 x.a.e, .int .u8 x.a.f, .int .u8 x.b.a, .int .u8 x.b.b, .int .u8 x.b.c, .int .u8 x.b.d, .int .u8 x.b.e, .int .u8 x.b.f])
@[simp high] theorem mkAgg_macs (x : Macs) : mkAgg (macsCells x) = encMacs x := rfl
@[simp] theorem flat_encMacs (x : Macs) : flat (encMacs x) = macsCells x := by simp [encMacs, flat, macsCells]
@[simp] theorem whole_encMacs (x : Macs) : whole pMacs (encMacs x) = some x := by simp [pMac, encMacs, pMacs]
@[simp high] theorem encMacs_kT (x : Macs) (s : St) (M : List Nm) : kT s M (encMacs x) = encMacs x := rfl
@[simp high] theorem encMacs_kA (x : Macs) (s : St) (M : List Nm) : kA s M (encMacs x) = encMacs x := rfl
@[simp high] theorem encMacs_kL (x : Macs) (s : St) (M : List Nm) : kL s M (encMacs x) = encMacs x := rfl
@[simp high] theorem encMacs_leafP (x : Macs)  : leafP (encMacs x) = true := rfl
@[simp high] theorem encMacs_isPure (x : Macs)  : isPure (encMacs x) = true := rfl
@[simp high] theorem encMacs_leafH (x : Macs)  : leafH (encMacs x) = true := rfl
@[simp high] theorem encMacs_isHand (x : Macs)  : isHand (encMacs x) = true := rfl
@[simp high] theorem encMacs_live (x : Macs)  : live (encMacs x) = true := rfl
@[simp high] theorem encMacs_isRes (x : Macs)  : isRes (encMacs x) = true := rfl
@[simp high] theorem encMacs_isRef (x : Macs)  : isRef (encMacs x) = false := rfl
@[simp high] theorem encMacs_strip (x : Macs)  : strip (encMacs x) = encMacs x := rfl
@[simp high] theorem encMacs_stripL (x : Macs)  : stripL (encMacs x) = encMacs x := rfl
@[simp high] theorem encMacs_stripA (x : Macs)  : stripA (encMacs x) = encMacs x := rfl
@[simp high] theorem encMacs_flagL (x : Macs) (s : St) : flagL s (encMacs x) = encMacs x := rfl
@[simp high] theorem encMacs_nameL (x : Macs) (g : Nm → Nat) (m : Nm) : nameL g m (encMacs x) = encMacs x := rfl
@[simp high] theorem encMacs_nameX (x : Macs) (g : Nm → Nat) (d k : Nat) : nameX g d k (encMacs x) = encMacs x := rfl
@[simp high] theorem encMacs_nameR (x : Macs) (g : Nm → Nat) (d : Nat) : nameR g d (encMacs x) = encMacs x := rfl
@[simp high] theorem encMacs_toV (x : Macs)  : toV (encMacs x) = some (.agg #[.int .u8 x.a.a, .int .u8 x.a.b, .int .u8 x.a.c, .int .u8 x.a.d, .int .u8 x.a.e, .int .u8 x.a.f, .int .u8 x.b.a, .int .u8 x.b.b, .int .u8 x.b.c, .int .u8 x.b.d, .int .u8 x.b.e, .int .u8 x.b.f]) := rfl
@[simp high] theorem encMacs_coA (x : Macs) (φ ψ : Nm → Option Nm) (s s2 : St) (ys : List AV) : CoA φ ψ s s2 (encMacs x) (.agg ys) = All2P (CoL φ ψ s s2) (macsCells x) ys := rfl
@[simp high] theorem encMacs_co (x : Macs) (φ ψ : Nm → Option Nm) (s s2 : St) (ys : List AV) : Co φ ψ s s2 (encMacs x) (.agg ys) = All2P (CoL φ ψ s s2) (macsCells x) ys := rfl
@[simp] theorem encMacs_ne_ptr (x : Macs) (n : Nm) (k : Nat) : (encMacs x = .ptr n k) = False := eq_false (fun h => by cases h)
@[simp] theorem encMacs_ne_tup (x : Macs) (c : List AV) : (encMacs x = .tup c) = False := eq_false (fun h => by cases h)
@[simp] theorem encMacs_ne_agg (x : Macs) (c : List AV) : (encMacs x = .agg c) = False := eq_false (fun h => by cases h)
@[simp] theorem encMacs_ne_ref (x : Macs) (c : List AV) : (encMacs x = .ref c) = False := eq_false (fun h => by cases h)
@[simp] theorem encMacs_ne_rptr (x : Macs) (y : AV) (k : Nat) : (encMacs x = .rptr y k) = False := eq_false (fun h => by cases h)
@[simp] theorem ite_encMacs (c : Prop) [Decidable c] (x y : Macs) : (if c then encMacs x else encMacs y) = encMacs (if c then x else y) := by split <;> rfl
@[simp] theorem macs_cut_a (x : Macs) : cut (macsCells x) 0 6 = macCells x.a := rfl
@[simp] theorem macs_put_a (x : Macs) (y : Mac) : splice (macsCells x) 0 (macCells y) 6 = macsCells { x with a := y } := rfl
@[simp] theorem macs_get_a_a (x : Macs) : (macsCells x)[0]? = some (.v (.int .u8 x.a.a)) := rfl
@[simp] theorem macs_put_a_a (x : Macs) (y : Int) : splice (macsCells x) 0 [.v (.int .u8 y)] 1 = macsCells { x with a := { x.a with a := y } } := rfl
@[simp] theorem macs_get_a_b (x : Macs) : (macsCells x)[1]? = some (.v (.int .u8 x.a.b)) := rfl
@[simp] theorem macs_put_a_b (x : Macs) (y : Int) : splice (macsCells x) 1 [.v (.int .u8 y)] 1 = macsCells { x with a := { x.a with b := y } } := rfl
@[simp] theorem macs_get_a_c (x : Macs) : (macsCells x)[2]? = some (.v (.int .u8 x.a.c)) := rfl
@[simp] theorem macs_put_a_c (x : Macs) (y : Int) : splice (macsCells x) 2 [.v (.int .u8 y)] 1 = macsCells { x with a := { x.a with c := y } } := rfl
@[simp] theorem macs_get_a_d (x : Macs) : (macsCells x)[3]? = some (.v (.int .u8 x.a.d)) := rfl
@[simp] theorem macs_put_a_d (x : Macs) (y : Int) : splice (macsCells x) 3 [.v (.int .u8 y)] 1 = macsCells { x with a := { x.a with d := y } } := rfl
@[simp] theorem macs_get_a_e (x : Macs) : (macsCells x)[4]? = some (.v (.int .u8 x.a.e)) := rfl
@[simp] theorem macs_put_a_e (x : Macs) (y : Int) : splice (macsCells x) 4 [.v (.int .u8 y)] 1 = macsCells { x with a := { x.a with e := y } } := rfl
@[simp] theorem macs_get_a_f (x : Macs) : (macsCells x)[5]? = some (.v (.int .u8 x.a.f)) := rfl
@[simp] theorem macs_put_a_f (x : Macs) (y : Int) : splice (macsCells x) 5 [.v (.int .u8 y)] 1 = macsCells { x with a := { x.a with f := y } } := rfl
@[simp] theorem macs_cut_b (x : Macs) : cut (macsCells x) 6 6 = macCells x.b := rfl
@[simp] theorem macs_put_b (x : Macs) (y : Mac) : splice (macsCells x) 6 (macCells y) 6 = macsCells { x with b := y } := rfl
@[simp] theorem macs_get_b_a (x : Macs) : (macsCells x)[6]? = some (.v (.int .u8 x.b.a)) := rfl
@[simp] theorem macs_put_b_a (x : Macs) (y : Int) : splice (macsCells x) 6 [.v (.int .u8 y)] 1 = macsCells { x with b := { x.b with a := y } } := rfl
@[simp] theorem macs_get_b_b (x : Macs) : (macsCells x)[7]? = some (.v (.int .u8 x.b.b)) := rfl
@[simp] theorem macs_put_b_b (x : Macs) (y : Int) : splice (macsCells x) 7 [.v (.int .u8 y)] 1 = macsCells { x with b := { x.b with b := y } } := rfl
@[simp] theorem macs_get_b_c (x : Macs) : (macsCells x)[8]? = some (.v (.int .u8 x.b.c)) := rfl
@[simp] theorem macs_put_b_c (x : Macs) (y : Int) : splice (macsCells x) 8 [.v (.int .u8 y)] 1 = macsCells { x with b := { x.b with c := y } } := rfl
@[simp] theorem macs_get_b_d (x : Macs) : (macsCells x)[9]? = some (.v (.int .u8 x.b.d)) := rfl
@[simp] theorem macs_put_b_d (x : Macs) (y : Int) : splice (macsCells x) 9 [.v (.int .u8 y)] 1 = macsCells { x with b := { x.b with d := y } } := rfl
@[simp] theorem macs_get_b_e (x : Macs) : (macsCells x)[10]? = some (.v (.int .u8 x.b.e)) := rfl
@[simp] theorem macs_put_b_e (x : Macs) (y : Int) : splice (macsCells x) 10 [.v (.int .u8 y)] 1 = macsCells { x with b := { x.b with e := y } } := rfl
@[simp] theorem macs_get_b_f (x : Macs) : (macsCells x)[11]? = some (.v (.int .u8 x.b.f)) := rfl
@[simp] theorem macs_put_b_f (x : Macs) (y : Int) : splice (macsCells x) 11 [.v (.int .u8 y)] 1 = macsCells { x with b := { x.b with f := y } } := rfl
@[simp] theorem macs_whole (x : Macs) (ys : List AV) : splice (macsCells x) 0 ys 12 = ys := by simp [splice, macsCells]
@[simp] theorem macs_cutall (x : Macs) : cut (macsCells x) 0 12 = macsCells x := rfl
@[simp] theorem macsCells_leafH (x : Macs) : (macsCells x).all leafH = true := rfl
@[simp] theorem macsCells_leafP (x : Macs) : (macsCells x).all leafP = true := rfl
@[simp] theorem macsCells_leafOk (x : Macs) : (macsCells x).all leafOk = true := rfl
@[simp] theorem macsCells_kL (s : St) (M : List Nm) (x : Macs) : (macsCells x).map (kL s M) = macsCells x := rfl
@[simp] theorem macsCells_strip (x : Macs) : (macsCells x).map strip = macsCells x := rfl
@[simp] theorem macsCells_stripL (x : Macs) : (macsCells x).map stripL = macsCells x := rfl
@[simp] theorem macsCells_name (g : Nm → Nat) (d i k : Nat) (x : Macs) : nameC g d i k (macsCells x) = macsCells x := rfl
@[simp] theorem macsCells_flag (s : St) (x : Macs) : (macsCells x).map (flagL s) = macsCells x := rfl
@[simp] theorem macsCells_tags (s : St) (x : Macs) : tagsOf s (macsCells x) = [] := by simp [macsCells, tagsOf]
@[simp] theorem macsCells_co (φ ψ : Nm → Option Nm) (s s2 : St) (x : Macs) : All2P (CoL φ ψ s s2) (macsCells x) (macsCells x) := by simp [macsCells]

@[simp] theorem macsCells_kLr (s : St) (l : List (Nm × Nm)) (M : List Nm) (x : Macs) : (macsCells x).map (kLr s l M) = macsCells x := rfl
@[simp] theorem macsCells_tagsAt (s : St) (n : Nm) (k : Nat) (x : Macs) : tagsAt s n k (macsCells x) = [] := by simp [macsCells, tagsAt]
@[simp] theorem mergeC_macs (b : Bool) (x y : Macs) : mergeC b (macsCells x) (macsCells y) = macsCells (if b = true then x else y) := by cases b <;> rfl
@[simp] theorem ite_macsCells (c : Prop) [Decidable c] (x y : Macs) : (if c then macsCells x else macsCells y) = macsCells (if c then x else y) := by split <;> rfl
theorem macsCells_coE {φ ψ : Nm → Option Nm} {s s2 : St} {x y : Macs} (e : x = y) : All2P (CoL φ ψ s s2) (macsCells x) (macsCells y) := by subst e; exact macsCells_co ..
end Caw
namespace Caw
def MacsOk (x : Macs) : Prop := MacOk x.a ∧ MacOk x.b
end Caw
namespace Caw
open Go Go.RowKit
/-! ### Facts for the walks of the laws -/
theorem writeIP_size {a : Ip} (h : LowIp a) : (writeIP a).size ≤ 100000 := by
  have := writeIP_len h
  simpa [writeIP] using this
theorem writeIP_small {a : Ip} (h : LowIp a) : (writeIP a).size ≤ 23 := by
  have h1 := dd_len (Int.lt_trans h.a1 (by decide))
  have h2 := dd_len (Int.lt_trans h.b1 (by decide))
  have h3 := dd_len (Int.lt_trans h.c1 (by decide))
  have h4 := dd_len (Int.lt_trans h.d1 (by decide))
  simp [writeIP, Lib.join]
  omega
theorem writeA_size {a : Addr} (h : LowA a) : (writeA a).size ≤ 100000 := by
  have h1 := writeIP_small h.ip
  have h2 := dd_len (Int.lt_trans h.p1 (by decide))
  have h6 : (⟨#[58]⟩ : ByteArray).size = 1 := rfl
  simp [writeA, h6]
  omega
theorem again_addr {a b : Addr} (ha : LowA a) (hb : LowA b) : ((writeA a).toList == (writeA b).toList) = ((a.a == b.a && a.b == b.b && a.c == b.c && a.d == b.d) && a.port == b.port) := by
  rw [str_eq]
  by_cases h : a = b
  · subst h; simp
  · have h1 : ¬ writeA a = writeA b := fun e => h ((writeA_inj ha hb).1 e)
    rw [decide_eq_false h1]
    symm
    apply Bool.eq_false_iff.2
    intro e
    simp only [Bool.and_eq_true, beq_iff_eq] at e
    exact h (by cases a; cases b; simp_all)
theorem again_mac {a b : Mac} (ha : MacOk a) (hb : MacOk b) : ((writeMAC a).toList == (writeMAC b).toList) = (a.a == b.a && a.b == b.b && a.c == b.c && a.d == b.d && a.e == b.e && a.f == b.f) := by
  rw [str_eq]
  by_cases h : a = b
  · subst h; simp
  · have h1 : ¬ writeMAC a = writeMAC b := fun e => h ((writeMAC_inj ha hb).1 e)
    rw [decide_eq_false h1]
    symm
    apply Bool.eq_false_iff.2
    intro e
    simp only [Bool.and_eq_true, beq_iff_eq] at e
    exact h (by cases a; cases b; simp_all)
/-- What a text is. -/
theorem texts (s : ByteArray) : (∃ a, LowA a ∧ s = writeA a ∧ readA s = (a, 0) ∧ readIP s = (ip0, 7) ∧ readMAC s = (mac0, 7)) ∨ (∃ a, LowIp a ∧ s = writeIP a ∧ readA s = (addr0, 7) ∧ readIP s = (a, 0) ∧ readMAC s = (mac0, 7)) ∨
    (∃ a, MacOk a ∧ s = writeMAC a ∧ readA s = (addr0, 7) ∧ readIP s = (ip0, 7) ∧ readMAC s = (a, 0)) ∨ (readA s = (addr0, 7) ∧ readIP s = (ip0, 7) ∧ readMAC s = (mac0, 7)) := by
  rcases readA_cases s with ⟨a, a1, a2, a3⟩ | a3
  · have c1 := colons_a a
    rw [← a2] at c1
    rcases readIP_cases s with ⟨b, b1, b2, b3⟩ | b3
    · have c2 := colons_ip b
      rw [← b2, c1] at c2
      cases c2
    · rcases readMAC_cases s with ⟨c, d1, d2, d3⟩ | d3
      · have c2 := colons_mac d1
        rw [← d2, c1] at c2
        cases c2
      · exact .inl ⟨a, a1, a2, a3, b3, d3⟩
  · rcases readIP_cases s with ⟨b, b1, b2, b3⟩ | b3
    · rcases readMAC_cases s with ⟨c, d1, d2, d3⟩ | d3
      · have c1 := colons_ip b
        have c2 := colons_mac d1
        rw [← d2, b2, c1] at c2
        cases c2
      · exact .inr (.inl ⟨b, b1, b2, a3, b3, d3⟩)
    · rcases readMAC_cases s with ⟨c, d1, d2, d3⟩ | d3
      · exact .inr (.inr (.inl ⟨c, d1, d2, a3, b3, d3⟩))
      · exact .inr (.inr (.inr ⟨a3, b3, d3⟩))
end Caw

/-! Hosts' addresses as the document reads and writes them. -/
set_option linter.all false
namespace Caw
open Go Go.RowKit
/-! ### Rows of numbers -/
def encI (l : List Int) : List AV := l.map fun x => .v (.int .i64 x)
def intsOf : List AV → Option (List Int)
  | [] => some []
  | .v (.int .i64 x) :: r => (intsOf r).map (x :: ·)
  | _ => none
@[simp] theorem encI_len (l : List Int) : (encI l).length = l.length := by simp [encI]
@[simp] theorem encI_nil : encI [] = [] := rfl
@[simp] theorem intsOf_encI : ∀ l : List Int, intsOf (encI l) = some l
  | [] => rfl
  | n :: l => by
    have := intsOf_encI l
    simp only [encI, List.map_cons, intsOf] at this ⊢
    rw [this]; rfl
theorem encI_of : ∀ {es : List AV} {l : List Int}, intsOf es = some l → es = encI l
  | [], l, h => by
    simp only [intsOf, Option.some.injEq] at h
    subst h; rfl
  | e :: r, l, h => by
    unfold intsOf at h
    split at h
    · rename_i h1; cases h1
    · rename_i x q h1
      cases h1
      simp only [Option.map_eq_some_iff] at h
      obtain ⟨us, h2, rfl⟩ := h
      rw [encI_of h2]; rfl
    · cases h
@[simp] theorem encI_app (a b : List Int) : encI a ++ encI b = encI (a ++ b) := by simp [encI]
@[simp] theorem encI_snoc (a : List Int) (b : Int) : encI a ++ [.v (.int .i64 b)] = encI (a ++ [b]) := by simp [encI]
@[simp] theorem encI_take (k : Nat) (l : List Int) : (encI l).take k = encI (l.take k) := by simp [encI]
@[simp] theorem encI_drop (k : Nat) (l : List Int) : (encI l).drop k = encI (l.drop k) := by simp [encI]
@[simp] theorem encI_get? (l : List Int) (k : Nat) : (encI l)[k]? = l[k]?.map fun x => .v (.int .i64 x) := by simp [encI]
@[simp] theorem encI_flat (l : List Int) : ((encI l).all fun y => (flat y).all leafOk) = true := by
  simp [encI, List.all_eq_true, flat, leafOk, Value.oneCell']
@[simp] theorem encI_rows : ∀ l : List Int, ((encI l).flatMap flat).map strip = encI l
  | [] => rfl
  | n :: l => by
    have := encI_rows l
    simp only [encI, List.map_cons, List.flatMap_cons, flat, List.cons_append, List.nil_append, strip] at this ⊢
    rw [this]
@[simp] theorem encI_oneV (b : List Int) : (encI b).all oneV = true := by simp [encI, oneV]
@[simp] theorem encI_kL (s : St) (M : List Nm) (l : List Int) : (encI l).map (kL s M) = encI l := by simp [encI]
@[simp] theorem encI_kLr (s : St) (m : List (Nm × Nm)) (M : List Nm) (l : List Int) : (encI l).map (kLr s m M) = encI l := by simp [encI]
@[simp] theorem encI_fzL (n : Nm) (cs : List AV) (l : List Int) : (encI l).map (fzL n cs) = encI l := by simp [encI]
@[simp] theorem encI_stripE (l : List Int) : (encI l).map stripE = encI l := by simp [encI, stripE]
@[simp] theorem encI_co (φ ψ : Nm → Option Nm) (s s2 : St) : ∀ l : List Int, All2P (CoL φ ψ s s2) (encI l) (encI l)
  | [] => trivial
  | x :: l => ⟨rfl, encI_co φ ψ s s2 l⟩
@[simp] theorem cut_I (b : List Int) (k n : Nat) : cut (encI b) k n = encI ((b.drop k).take n) := by simp [cut]
def decIs : AV → Option (List Int)
  | .v (.slice none 0 0) => some []
  | .sl 1 es _ => intsOf es
  | _ => none
@[simp] theorem decIs_nil : decIs (.v (.slice none 0 0)) = some [] := rfl
@[simp] theorem decIs_sl (es : List AV) (tg : Tg) : decIs (.sl 1 es tg) = intsOf es := rfl
theorem decIs_co {x : AV} {l : List Int} (h : decIs x = some l) : CoP x (.sl 1 (encI l) none) := by
  unfold decIs at h
  split at h
  · cases h; exact coP_nil 1
  · rw [encI_of h]; exact coP_sl _ _ _
  · cases h
theorem decIs_coA {x : AV} {l : List Int} (h : decIs x = some l) : CoPA x (.sl 1 (encI l) none) := coPA_of (decIs_co h)
/-! ### The numbers of a text -/
def numsGo : List UInt8 → List Int → Int → List Int
  | [], ds, n => ds ++ [n]
  | c :: l, ds, n => if ((c.toNat : Nat) : Int) < 48 ∨ 57 < ((c.toNat : Nat) : Int) then numsGo l (ds ++ [n]) 0 else numsGo l ds (minI (10 * n + (((c.toNat : Nat) : Int) - 48)) 99999)
def numsR (s : ByteArray) : List Int := numsGo (bl s) [] 0
theorem nums_one {d n : Nat} (hd : d < 10) (hn : 10 * n + d ≤ 99999) (l : List UInt8) (ds : List Int) : numsGo (UInt8.ofNat (48 + d) :: l) ds n = numsGo l ds ((10 * n + d : Nat) : Int) := by
  have e := of48 hd
  simp only [numsGo, e]
  rw [if_neg (by omega)]
  congr 1
  unfold minI
  rw [if_neg (by omega)]
  omega
theorem nums_dec : ∀ (k n : Nat), n < k → n ≤ 99999 → ∀ (l : List UInt8) (ds : List Int), numsGo (Lib.decDigits n ++ l) ds 0 = numsGo l ds (n : Int)
  | 0, n, h, _, l, ds => by omega
  | k + 1, n, h, hm, l, ds => by
    rw [Lib.decDigits]
    split
    · rename_i h1
      have := nums_one (d := n) (n := 0) h1 (by omega) l ds
      simpa using this
    · rename_i h1
      rw [List.append_assoc, nums_dec k (n / 10) (by omega) (by omega)]
      have := nums_one (d := n % 10) (n := n / 10) (by omega) (by omega) l ds
      rw [List.cons_append, List.nil_append, this]
      congr 2
      omega
theorem nums_dd {n : Int} (h0 : 0 ≤ n) (h1 : n ≤ 99999) (l : List UInt8) (ds : List Int) : numsGo (dd n ++ l) ds 0 = numsGo l ds n := by
  have := nums_dec _ n.toNat (Nat.lt_succ_self _) (by omega) l ds
  unfold dd
  rw [this]
  congr 1; omega
theorem nums_sep {c : UInt8} (h : ((c.toNat : Nat) : Int) < 48 ∨ 57 < ((c.toNat : Nat) : Int)) (l : List UInt8) (ds : List Int) (n : Int) : numsGo (c :: l) ds n = numsGo l (ds ++ [n]) 0 := by
  simp only [numsGo]
  rw [if_pos h]
theorem nums_end {n : Int} (h0 : 0 ≤ n) (h1 : n ≤ 99999) (ds : List Int) : numsGo (dd n) ds 0 = ds ++ [n] := by
  have := nums_dd h0 h1 [] ds
  rw [List.append_nil] at this
  rw [this]; rfl
theorem nums_write {a : Addr} (h : LowA a) : numsR (writeA a) = [a.a, a.b, a.c, a.d, a.port] := by
  obtain ⟨⟨a0, a1, b0, b1, c0, c1, d0, d1⟩, p0, p1⟩ := h
  simp only [ipOf] at a0 a1 b0 b1 c0 c1 d0 d1
  have e : bl (writeIP (ipOf a)) = Lib.join [dd a.a, dd a.b, dd a.c, dd a.d] [46] := rfl
  unfold numsR
  rw [writeA_bl, e, join4]
  simp only [List.append_assoc, List.cons_append]
  rw [nums_dd a0 (by omega), nums_sep (by decide), nums_dd b0 (by omega), nums_sep (by decide), nums_dd c0 (by omega), nums_sep (by decide), nums_dd d0 (by omega), nums_sep (by decide), nums_end p0 (by omega)]
  rfl
/-- The address of a text's five numbers. -/
def docA (s : ByteArray) : Addr :=
  match numsR s with
  | [n0, n1, n2, n3, n4] => ⟨IntKind.wrap .u8 n0, IntKind.wrap .u8 n1, IntKind.wrap .u8 n2, IntKind.wrap .u8 n3, IntKind.wrap .u16 n4⟩
  | _ => addr0
theorem five {α : Type} (l : List α) : (∃ p q r t u, l = [p, q, r, t, u]) ∨ l.length ≠ 5 := by
  rcases l with _ | ⟨p, _ | ⟨q, _ | ⟨r, _ | ⟨t, _ | ⟨u, _ | ⟨v, l⟩⟩⟩⟩⟩⟩ <;> simp
theorem wr_u8 (n : Int) : 0 ≤ IntKind.wrap .u8 n ∧ IntKind.wrap .u8 n < 256 := by
  simp [IntKind.wrap, IntKind.bits, IntKind.signed]
  omega
theorem wr_u16 (n : Int) : 0 ≤ IntKind.wrap .u16 n ∧ IntKind.wrap .u16 n < 65536 := by
  simp [IntKind.wrap, IntKind.bits, IntKind.signed]
  omega
theorem docA_low (s : ByteArray) : LowA (docA s) := by
  unfold docA
  split
  · rename_i n0 n1 n2 n3 n4 _
    exact ⟨⟨(wr_u8 n0).1, (wr_u8 n0).2, (wr_u8 n1).1, (wr_u8 n1).2, (wr_u8 n2).1, (wr_u8 n2).2, (wr_u8 n3).1, (wr_u8 n3).2⟩, (wr_u16 n4).1, (wr_u16 n4).2⟩
  · exact ⟨⟨by decide, by decide, by decide, by decide, by decide, by decide, by decide, by decide⟩, by decide, by decide⟩
theorem docA_write {a : Addr} (h : LowA a) : docA (writeA a) = a := by
  have h1 := h.ip
  obtain ⟨⟨a0, a1, b0, b1, c0, c1, d0, d1⟩, p0, p1⟩ := h
  simp only [ipOf] at a0 a1 b0 b1 c0 c1 d0 d1
  unfold docA
  rw [nums_write ⟨h1, p0, p1⟩]
  simp only
  rw [wrap8 a0 (by omega), wrap8 b0 (by omega), wrap8 c0 (by omega), wrap8 d0 (by omega), wrap16 p0 (by omega)]
theorem readA_doc (s : ByteArray) : readA s = if (numsR s).length = 5 ∧ writeA (docA s) = s then (docA s, 0) else (addr0, 7) := by
  split
  · rename_i h
    have := readA_write (docA_low s)
    rw [h.2] at this
    exact this
  · rename_i h
    rcases readA_cases s with ⟨a, h1, h2, h3⟩ | h3
    · exfalso
      apply h
      rw [h2, docA_write h1, nums_write h1]
      exact ⟨rfl, rfl⟩
    · exact h3
theorem readA_docB (s : ByteArray) : ((numsR s).length ≠ 5 ∧ readA s = (addr0, 7)) ∨ (∃ n0 n1 n2 n3 n4, numsR s = [n0, n1, n2, n3, n4] ∧ docA s = ⟨IntKind.wrap .u8 n0, IntKind.wrap .u8 n1, IntKind.wrap .u8 n2, IntKind.wrap .u8 n3, IntKind.wrap .u16 n4⟩ ∧
    ((((writeA (docA s)).toList == s.toList) = false ∧ readA s = (addr0, 7)) ∨ (((writeA (docA s)).toList == s.toList) = true ∧ readA s = (docA s, 0)))) := by
  have h := readA_doc s
  rcases five (numsR s) with ⟨n0, n1, n2, n3, n4, e⟩ | e
  · right
    refine ⟨n0, n1, n2, n3, n4, e, by unfold docA; rw [e], ?_⟩
    rw [str_eq]
    by_cases hw : writeA (docA s) = s
    · rw [if_pos ⟨by rw [e]; rfl, hw⟩] at h
      exact .inr ⟨by simp [hw], h⟩
    · rw [if_neg (fun hh => hw hh.2)] at h
      exact .inl ⟨by simp [hw], h⟩
  · left
    rw [if_neg (fun hh => e hh.1)] at h
    exact ⟨e, h⟩
/-- An address without a port is one with the port nought. -/
theorem readIP_doc (s : ByteArray) : ipOf (readA (s ++ ⟨#[58, 48]⟩)).1 = (readIP s).1 ∧ (readA (s ++ ⟨#[58, 48]⟩)).2 = (readIP s).2 := by
  have hb : bl (s ++ ⟨#[58, 48]⟩) = bl s ++ 58 :: [48] := by simp [bl, ByteArray.data_append]
  rcases readIP_cases s with ⟨a, h1, h2, h3⟩ | h3
  · have hl : LowA ⟨a.a, a.b, a.c, a.d, 0⟩ := ⟨h1, Int.le_refl 0, by show (0 : Int) < 65536; decide⟩
    have e : s ++ ⟨#[58, 48]⟩ = writeA ⟨a.a, a.b, a.c, a.d, 0⟩ := by
      rw [← ofL_bl (s ++ ⟨#[58, 48]⟩), hb, ← ofL_bl (writeA _), writeA_bl, dd0, h2]
      rfl
    rw [e, readA_write hl, h3]
    exact ⟨rfl, rfl⟩
  · rcases readA_cases (s ++ ⟨#[58, 48]⟩) with ⟨a, h1, h2, h4⟩ | h4
    · exfalso
      have e := congrArg bl h2
      rw [hb, writeA_bl] at e
      have c1 := congrArg (List.count (58 : UInt8)) e
      have n1 : (58 : UInt8) ∉ bl (writeIP (ipOf a)) := ip_no (by decide) (by decide)
      have n2 : (58 : UInt8) ∉ dd a.port := dd_no (by decide)
      rw [List.count_append, List.count_append, List.count_cons_self, List.count_cons_self, count_no n1, count_no n2] at c1
      have n3 : (58 : UInt8) ∉ bl s := List.count_eq_zero.1 (by
        have : List.count (58 : UInt8) [48] = 0 := by decide
        omega)
      have e2 := congrArg (fun l => splitL l 58) e
      rw [split_app _ n3, split_app _ n1] at e2
      have e3 : bl s = bl (writeIP (ipOf a)) := (List.cons.inj e2).1
      have e4 : s = writeIP (ipOf a) := by rw [← ofL_bl s, e3, ofL_bl]
      rw [e4, readIP_write h1.ip] at h3
      have := congrArg Prod.snd h3
      cases this
    · rw [h4, h3]
      exact ⟨rfl, rfl⟩
/-! ### As the document writes it -/
theorem ofL_app (a b : List UInt8) : ofL a ++ ofL b = ofL (a ++ b) := by
  apply ByteArray.ext
  simp [ofL, ByteArray.data_append]
def ipTxt (a : Ip) : Nat → ByteArray
  | 0 => ⟨#[]⟩
  | 1 => ofL (dd a.a)
  | 2 => ofL (dd a.a) ++ ⟨#[46]⟩ ++ ofL (dd a.b)
  | 3 => ofL (dd a.a) ++ ⟨#[46]⟩ ++ ofL (dd a.b) ++ ⟨#[46]⟩ ++ ofL (dd a.c)
  | _ => ofL (dd a.a) ++ ⟨#[46]⟩ ++ ofL (dd a.b) ++ ⟨#[46]⟩ ++ ofL (dd a.c) ++ ⟨#[46]⟩ ++ ofL (dd a.d)
theorem ipTxt_4 (a : Ip) : ipTxt a 4 = writeIP a := by
  have e : (⟨#[46]⟩ : ByteArray) = ofL [46] := rfl
  unfold ipTxt writeIP
  rw [join4, e]
  simp only [ofL_app]
  simp
theorem ipTxt_sizes (a : Ip) (l1 : (dd a.a).length ≤ 5) (l2 : (dd a.b).length ≤ 5) (l3 : (dd a.c).length ≤ 5) (l4 : (dd a.d).length ≤ 5) : (ipTxt a 0).size + (dd a.a).length ≤ 4611686018427387904 ∧
    (ipTxt a 1).size + (⟨#[46]⟩ : ByteArray).size ≤ 4611686018427387904 ∧ (ipTxt a 1).size + (⟨#[46]⟩ : ByteArray).size + (dd a.b).length ≤ 4611686018427387904 ∧
    (ipTxt a 2).size + (⟨#[46]⟩ : ByteArray).size ≤ 4611686018427387904 ∧ (ipTxt a 2).size + (⟨#[46]⟩ : ByteArray).size + (dd a.c).length ≤ 4611686018427387904 ∧
    (ipTxt a 3).size + (⟨#[46]⟩ : ByteArray).size ≤ 4611686018427387904 ∧ (ipTxt a 3).size + (⟨#[46]⟩ : ByteArray).size + (dd a.d).length ≤ 4611686018427387904 := by
  have h0 : (⟨#[]⟩ : ByteArray).size = 0 := rfl
  have h1 : (⟨#[46]⟩ : ByteArray).size = 1 := rfl
  simp only [ipTxt, ByteArray.size_append, ofL_size, h0, h1]
  omega
end Caw

-- Printed by genwalk.py.
namespace Go.Proofs.YtkmjoppcecffkaaDoor
open Go Go.RowKit Caw
set_option linter.unusedSimpArgs false
set_option linter.unusedVariables false
set_option maxRecDepth 100000

-- caravel/caravelref04.IP
theorem g17 : GOk1 Tryd.prog (ctxOf [(29, F29)]) := gok_cons spec29 en29 (gok_nil)
set_option maxHeartbeats 4000000 in
theorem at17 (a : Caw.Ip) (hpre : LowIp a) : SpecAt Tryd.prog 17 [.agg (ipCells a)] (.v (.string (writeIP a))) none := by
  have hw := lowIp_wrap hpre
  obtain ⟨w0, w1, w2, w3⟩ := hw
  have h4 := ipTxt_4 a
  have l1 := dd_len (Int.lt_trans hpre.a1 (by decide))
  have l2 := dd_len (Int.lt_trans hpre.b1 (by decide))
  have l3 := dd_len (Int.lt_trans hpre.c1 (by decide))
  have l4 := dd_len (Int.lt_trans hpre.d1 (by decide))
  obtain ⟨a0, a1, b0, b1, c0, c1, d0, d1⟩ := hpre
  have q1 : a.a < 100000 := by omega
  have q2 : a.b < 100000 := by omega
  have q3 : a.c < 100000 := by omega
  have q4 : a.d < 100000 := by omega
  obtain ⟨t0, u1, t1, u2, t2, u3, t3⟩ := ipTxt_sizes a l1 l2 l3 l4
  refine specAt_of_tri Tryd.func17 rfl (Nat.le_of_ble_eq_true rfl) ?_
  all_goals (repeat' (first
      | (refine tri_condT (b_true (by simp; with_reducible exact IsB.mk)) ?_)
      | (refine tri_condF (b_true (by simp; with_reducible exact IsB.mk)) ?_)
      | (refine tri_skipT ?_)
      | (refine tri_skip ?_)
      | (refine then_to ?_)
      | (refine th_n ?_)
      | (refine in_n ?_)
      | (refine in_e ?_)
      | (refine in_x rfl ?_)
      | (refine th_e ?_)
      | (refine th_r ?_)
      | (refine in_r ?_)
      | (refine tri_ret ?_)
      | (refine tri_exit ?_)
      | (refine tri_block ?_)
      | (refine tri_step (id := 0) (C := ⟨[], [], []⟩) [1] [(2, 0, 0)] g17 nodraw ?_; refine ⟨_, by (simp [*, F29, dd_fold, flg]; exact Is.mk), ?_⟩)
      | (refine tri_last (id := 0) (C := ⟨[], [], []⟩) [1] [(2, 0, 0)] g17 nodraw ?_; refine ⟨_, by (simp [*, F29, dd_fold, flg]; exact Is.mk), ?_⟩)
      | (refine tri_step (id := 1) (C := ⟨[], [], []⟩) [1, 3] [(2, 0, 0)] g17 nodraw ?_; refine ⟨_, by (simp [*, F29, dd_fold, flg]; exact Is.mk), ?_⟩)
      | (refine tri_last (id := 1) (C := ⟨[], [], []⟩) [1, 3] [(2, 0, 0)] g17 nodraw ?_; refine ⟨_, by (simp [*, F29, dd_fold, flg]; exact Is.mk), ?_⟩)
      | (refine tri_step (id := 2) (C := ⟨[], [], []⟩) [1, 3, 4] [(2, 0, 0)] g17 nodraw ?_; refine ⟨_, by (simp [*, F29, dd_fold, flg]; exact Is.mk), ?_⟩)
      | (refine tri_last (id := 2) (C := ⟨[], [], []⟩) [1, 3, 4] [(2, 0, 0)] g17 nodraw ?_; refine ⟨_, by (simp [*, F29, dd_fold, flg]; exact Is.mk), ?_⟩)
      | (refine tri_step (id := 3) (C := ⟨[], [], []⟩) [1, 3, 4, 6] [(2, 0, 0)] g17 nodraw ?_; refine ⟨_, by (simp [*, F29, dd_fold, flg]; exact Is.mk), ?_⟩)
      | (refine tri_last (id := 3) (C := ⟨[], [], []⟩) [1, 3, 4, 6] [(2, 0, 0)] g17 nodraw ?_; refine ⟨_, by (simp [*, F29, dd_fold, flg]; exact Is.mk), ?_⟩)
      | (refine tri_step (id := 4) (C := ⟨[], [], []⟩) [1, 3, 4] [(2, 0, 0)] g17 nodraw ?_; refine ⟨_, by (simp [*, F29, dd_fold, flg]; exact Is.mk), ?_⟩)
      | (refine tri_last (id := 4) (C := ⟨[], [], []⟩) [1, 3, 4] [(2, 0, 0)] g17 nodraw ?_; refine ⟨_, by (simp [*, F29, dd_fold, flg]; exact Is.mk), ?_⟩)
      | (refine tri_step (id := 5) (C := ⟨[], [], []⟩) [1, 3, 4, 10] [(2, 0, 0)] g17 nodraw ?_; refine ⟨_, by (simp [*, F29, dd_fold, flg]; exact Is.mk), ?_⟩)
      | (refine tri_last (id := 5) (C := ⟨[], [], []⟩) [1, 3, 4, 10] [(2, 0, 0)] g17 nodraw ?_; refine ⟨_, by (simp [*, F29, dd_fold, flg]; exact Is.mk), ?_⟩)
      | (refine tri_step (id := 6) (C := ⟨[], [], []⟩) [1, 3, 4] [(2, 0, 0)] g17 nodraw ?_; refine ⟨_, by (simp [*, F29, dd_fold, flg]; exact Is.mk), ?_⟩)
      | (refine tri_last (id := 6) (C := ⟨[], [], []⟩) [1, 3, 4] [(2, 0, 0)] g17 nodraw ?_; refine ⟨_, by (simp [*, F29, dd_fold, flg]; exact Is.mk), ?_⟩)
      | (refine tri_step (id := 7) (C := ⟨[], [], []⟩) [1, 3, 4] [(2, 0, 0)] g17 nodraw ?_; refine ⟨_, by (simp [*, F29, dd_fold, flg]; exact Is.mk), ?_⟩)
      | (refine tri_last (id := 7) (C := ⟨[], [], []⟩) [1, 3, 4] [(2, 0, 0)] g17 nodraw ?_; refine ⟨_, by (simp [*, F29, dd_fold, flg]; exact Is.mk), ?_⟩)
      | (refine tri_step (id := 8) (C := ⟨[], [], []⟩) [2] [] g17 nodraw ?_; refine ⟨_, by (simp [*, F29, dd_fold, flg]; exact Is.mk), ?_⟩)
      | (refine tri_last (id := 8) (C := ⟨[], [], []⟩) [2] [] g17 nodraw ?_; refine ⟨_, by (simp [*, F29, dd_fold, flg]; exact Is.mk), ?_⟩)
      | (refine tri_cond (c := .tmp 6) (b_true (by simp; exact IsB.mk)) (fun hc => ?_) (fun hc => ?_))
      | (refine tri_cond (c := .tmp 10) (b_true (by simp; exact IsB.mk)) (fun hc => ?_) (fun hc => ?_))
      | (refine to_mk (by simp; exact IsK.mk))
      | (refine imp_ ?_)
      | ((simp; exact IsK.mk))
      | (refine tri_seq ?_)
      ))
  refine tri_loop (fun n st => ∃ i : Nat, i ≤ 4 ∧ n = 4 - i ∧ st = mkSt [(1, .ptr (2,0,0) 0), (3, .v (.string (ipTxt a i))), (4, .v (.int .i64 i))] [((2,0,0), ipCells a)]) 4 _ (le_K (by simp [ipTxt]) (by simp [ipCells])) ⟨0, by omega, rfl, rfl⟩ ?_
  rintro n st ⟨i, hi, hn, rfl⟩
  rcases (by omega : i = 0 ∨ i = 1 ∨ i = 2 ∨ i = 3 ∨ i = 4) with rfl | rfl | rfl | rfl | rfl
  · all_goals (repeat' (first
      | (refine tri_condT (b_true (by simp; with_reducible exact IsB.mk)) ?_)
      | (refine tri_condF (b_true (by simp; with_reducible exact IsB.mk)) ?_)
      | (refine tri_skipT ?_)
      | (refine tri_skip ?_)
      | (refine then_to ?_)
      | (refine th_n ?_)
      | (refine in_n ?_)
      | (refine in_e ?_)
      | (refine in_x rfl ?_)
      | (refine th_e ?_)
      | (refine th_r ?_)
      | (refine in_r ?_)
      | (refine tri_ret ?_)
      | (refine tri_exit ?_)
      | (refine tri_block ?_)
      | (refine tri_step (id := 0) (C := ⟨[], [], []⟩) [1] [(2, 0, 0)] g17 nodraw ?_; refine ⟨_, by (simp [*, F29, dd_fold, flg]; exact Is.mk), ?_⟩)
      | (refine tri_last (id := 0) (C := ⟨[], [], []⟩) [1] [(2, 0, 0)] g17 nodraw ?_; refine ⟨_, by (simp [*, F29, dd_fold, flg]; exact Is.mk), ?_⟩)
      | (refine tri_step (id := 1) (C := ⟨[], [], []⟩) [1, 3] [(2, 0, 0)] g17 nodraw ?_; refine ⟨_, by (simp [*, F29, dd_fold, flg]; exact Is.mk), ?_⟩)
      | (refine tri_last (id := 1) (C := ⟨[], [], []⟩) [1, 3] [(2, 0, 0)] g17 nodraw ?_; refine ⟨_, by (simp [*, F29, dd_fold, flg]; exact Is.mk), ?_⟩)
      | (refine tri_step (id := 2) (C := ⟨[], [], []⟩) [1, 3, 4] [(2, 0, 0)] g17 nodraw ?_; refine ⟨_, by (simp [*, F29, dd_fold, flg]; exact Is.mk), ?_⟩)
      | (refine tri_last (id := 2) (C := ⟨[], [], []⟩) [1, 3, 4] [(2, 0, 0)] g17 nodraw ?_; refine ⟨_, by (simp [*, F29, dd_fold, flg]; exact Is.mk), ?_⟩)
      | (refine tri_step (id := 3) (C := ⟨[], [], []⟩) [1, 3, 4, 6] [(2, 0, 0)] g17 nodraw ?_; refine ⟨_, by (simp [*, F29, dd_fold, flg]; exact Is.mk), ?_⟩)
      | (refine tri_last (id := 3) (C := ⟨[], [], []⟩) [1, 3, 4, 6] [(2, 0, 0)] g17 nodraw ?_; refine ⟨_, by (simp [*, F29, dd_fold, flg]; exact Is.mk), ?_⟩)
      | (refine tri_step (id := 4) (C := ⟨[], [], []⟩) [1, 3, 4] [(2, 0, 0)] g17 nodraw ?_; refine ⟨_, by (simp [*, F29, dd_fold, flg]; exact Is.mk), ?_⟩)
      | (refine tri_last (id := 4) (C := ⟨[], [], []⟩) [1, 3, 4] [(2, 0, 0)] g17 nodraw ?_; refine ⟨_, by (simp [*, F29, dd_fold, flg]; exact Is.mk), ?_⟩)
      | (refine tri_step (id := 5) (C := ⟨[], [], []⟩) [1, 3, 4, 10] [(2, 0, 0)] g17 nodraw ?_; refine ⟨_, by (simp [*, F29, dd_fold, flg]; exact Is.mk), ?_⟩)
      | (refine tri_last (id := 5) (C := ⟨[], [], []⟩) [1, 3, 4, 10] [(2, 0, 0)] g17 nodraw ?_; refine ⟨_, by (simp [*, F29, dd_fold, flg]; exact Is.mk), ?_⟩)
      | (refine tri_step (id := 6) (C := ⟨[], [], []⟩) [1, 3, 4] [(2, 0, 0)] g17 nodraw ?_; refine ⟨_, by (simp [*, F29, dd_fold, flg]; exact Is.mk), ?_⟩)
      | (refine tri_last (id := 6) (C := ⟨[], [], []⟩) [1, 3, 4] [(2, 0, 0)] g17 nodraw ?_; refine ⟨_, by (simp [*, F29, dd_fold, flg]; exact Is.mk), ?_⟩)
      | (refine tri_step (id := 7) (C := ⟨[], [], []⟩) [1, 3, 4] [(2, 0, 0)] g17 nodraw ?_; refine ⟨_, by (simp [*, F29, dd_fold, flg]; exact Is.mk), ?_⟩)
      | (refine tri_last (id := 7) (C := ⟨[], [], []⟩) [1, 3, 4] [(2, 0, 0)] g17 nodraw ?_; refine ⟨_, by (simp [*, F29, dd_fold, flg]; exact Is.mk), ?_⟩)
      | (refine tri_step (id := 8) (C := ⟨[], [], []⟩) [2] [] g17 nodraw ?_; refine ⟨_, by (simp [*, F29, dd_fold, flg]; exact Is.mk), ?_⟩)
      | (refine tri_last (id := 8) (C := ⟨[], [], []⟩) [2] [] g17 nodraw ?_; refine ⟨_, by (simp [*, F29, dd_fold, flg]; exact Is.mk), ?_⟩)
      | (refine tri_cond (c := .tmp 6) (b_true (by simp; exact IsB.mk)) (fun hc => ?_) (fun hc => ?_))
      | (refine tri_cond (c := .tmp 10) (b_true (by simp; exact IsB.mk)) (fun hc => ?_) (fun hc => ?_))
      | (refine to_mk (by simp; exact IsK.mk))
      | (refine imp_ ?_)
      | ((simp; exact IsK.mk))
      | (refine tri_seq ?_)
      ))
    exact ⟨4 - (0 + 1), _, by omega, le_S (by simp [ipTxt, mt_app]) (by simp [ipCells]), 0 + 1, by omega, rfl, rfl⟩
  · all_goals (repeat' (first
      | (refine tri_condT (b_true (by simp; with_reducible exact IsB.mk)) ?_)
      | (refine tri_condF (b_true (by simp; with_reducible exact IsB.mk)) ?_)
      | (refine tri_skipT ?_)
      | (refine tri_skip ?_)
      | (refine then_to ?_)
      | (refine th_n ?_)
      | (refine in_n ?_)
      | (refine in_e ?_)
      | (refine in_x rfl ?_)
      | (refine th_e ?_)
      | (refine th_r ?_)
      | (refine in_r ?_)
      | (refine tri_ret ?_)
      | (refine tri_exit ?_)
      | (refine tri_block ?_)
      | (refine tri_step (id := 0) (C := ⟨[], [], []⟩) [1] [(2, 0, 0)] g17 nodraw ?_; refine ⟨_, by (simp [*, F29, dd_fold, flg]; exact Is.mk), ?_⟩)
      | (refine tri_last (id := 0) (C := ⟨[], [], []⟩) [1] [(2, 0, 0)] g17 nodraw ?_; refine ⟨_, by (simp [*, F29, dd_fold, flg]; exact Is.mk), ?_⟩)
      | (refine tri_step (id := 1) (C := ⟨[], [], []⟩) [1, 3] [(2, 0, 0)] g17 nodraw ?_; refine ⟨_, by (simp [*, F29, dd_fold, flg]; exact Is.mk), ?_⟩)
      | (refine tri_last (id := 1) (C := ⟨[], [], []⟩) [1, 3] [(2, 0, 0)] g17 nodraw ?_; refine ⟨_, by (simp [*, F29, dd_fold, flg]; exact Is.mk), ?_⟩)
      | (refine tri_step (id := 2) (C := ⟨[], [], []⟩) [1, 3, 4] [(2, 0, 0)] g17 nodraw ?_; refine ⟨_, by (simp [*, F29, dd_fold, flg]; exact Is.mk), ?_⟩)
      | (refine tri_last (id := 2) (C := ⟨[], [], []⟩) [1, 3, 4] [(2, 0, 0)] g17 nodraw ?_; refine ⟨_, by (simp [*, F29, dd_fold, flg]; exact Is.mk), ?_⟩)
      | (refine tri_step (id := 3) (C := ⟨[], [], []⟩) [1, 3, 4, 6] [(2, 0, 0)] g17 nodraw ?_; refine ⟨_, by (simp [*, F29, dd_fold, flg]; exact Is.mk), ?_⟩)
      | (refine tri_last (id := 3) (C := ⟨[], [], []⟩) [1, 3, 4, 6] [(2, 0, 0)] g17 nodraw ?_; refine ⟨_, by (simp [*, F29, dd_fold, flg]; exact Is.mk), ?_⟩)
      | (refine tri_step (id := 4) (C := ⟨[], [], []⟩) [1, 3, 4] [(2, 0, 0)] g17 nodraw ?_; refine ⟨_, by (simp [*, F29, dd_fold, flg]; exact Is.mk), ?_⟩)
      | (refine tri_last (id := 4) (C := ⟨[], [], []⟩) [1, 3, 4] [(2, 0, 0)] g17 nodraw ?_; refine ⟨_, by (simp [*, F29, dd_fold, flg]; exact Is.mk), ?_⟩)
      | (refine tri_step (id := 5) (C := ⟨[], [], []⟩) [1, 3, 4, 10] [(2, 0, 0)] g17 nodraw ?_; refine ⟨_, by (simp [*, F29, dd_fold, flg]; exact Is.mk), ?_⟩)
      | (refine tri_last (id := 5) (C := ⟨[], [], []⟩) [1, 3, 4, 10] [(2, 0, 0)] g17 nodraw ?_; refine ⟨_, by (simp [*, F29, dd_fold, flg]; exact Is.mk), ?_⟩)
      | (refine tri_step (id := 6) (C := ⟨[], [], []⟩) [1, 3, 4] [(2, 0, 0)] g17 nodraw ?_; refine ⟨_, by (simp [*, F29, dd_fold, flg]; exact Is.mk), ?_⟩)
      | (refine tri_last (id := 6) (C := ⟨[], [], []⟩) [1, 3, 4] [(2, 0, 0)] g17 nodraw ?_; refine ⟨_, by (simp [*, F29, dd_fold, flg]; exact Is.mk), ?_⟩)
      | (refine tri_step (id := 7) (C := ⟨[], [], []⟩) [1, 3, 4] [(2, 0, 0)] g17 nodraw ?_; refine ⟨_, by (simp [*, F29, dd_fold, flg]; exact Is.mk), ?_⟩)
      | (refine tri_last (id := 7) (C := ⟨[], [], []⟩) [1, 3, 4] [(2, 0, 0)] g17 nodraw ?_; refine ⟨_, by (simp [*, F29, dd_fold, flg]; exact Is.mk), ?_⟩)
      | (refine tri_step (id := 8) (C := ⟨[], [], []⟩) [2] [] g17 nodraw ?_; refine ⟨_, by (simp [*, F29, dd_fold, flg]; exact Is.mk), ?_⟩)
      | (refine tri_last (id := 8) (C := ⟨[], [], []⟩) [2] [] g17 nodraw ?_; refine ⟨_, by (simp [*, F29, dd_fold, flg]; exact Is.mk), ?_⟩)
      | (refine tri_cond (c := .tmp 6) (b_true (by simp; exact IsB.mk)) (fun hc => ?_) (fun hc => ?_))
      | (refine tri_cond (c := .tmp 10) (b_true (by simp; exact IsB.mk)) (fun hc => ?_) (fun hc => ?_))
      | (refine to_mk (by simp; exact IsK.mk))
      | (refine imp_ ?_)
      | ((simp; exact IsK.mk))
      | (refine tri_seq ?_)
      ))
    exact ⟨4 - (1 + 1), _, by omega, le_S (by simp [ipTxt, mt_app]) (by simp [ipCells]), 1 + 1, by omega, rfl, rfl⟩
  · all_goals (repeat' (first
      | (refine tri_condT (b_true (by simp; with_reducible exact IsB.mk)) ?_)
      | (refine tri_condF (b_true (by simp; with_reducible exact IsB.mk)) ?_)
      | (refine tri_skipT ?_)
      | (refine tri_skip ?_)
      | (refine then_to ?_)
      | (refine th_n ?_)
      | (refine in_n ?_)
      | (refine in_e ?_)
      | (refine in_x rfl ?_)
      | (refine th_e ?_)
      | (refine th_r ?_)
      | (refine in_r ?_)
      | (refine tri_ret ?_)
      | (refine tri_exit ?_)
      | (refine tri_block ?_)
      | (refine tri_step (id := 0) (C := ⟨[], [], []⟩) [1] [(2, 0, 0)] g17 nodraw ?_; refine ⟨_, by (simp [*, F29, dd_fold, flg]; exact Is.mk), ?_⟩)
      | (refine tri_last (id := 0) (C := ⟨[], [], []⟩) [1] [(2, 0, 0)] g17 nodraw ?_; refine ⟨_, by (simp [*, F29, dd_fold, flg]; exact Is.mk), ?_⟩)
      | (refine tri_step (id := 1) (C := ⟨[], [], []⟩) [1, 3] [(2, 0, 0)] g17 nodraw ?_; refine ⟨_, by (simp [*, F29, dd_fold, flg]; exact Is.mk), ?_⟩)
      | (refine tri_last (id := 1) (C := ⟨[], [], []⟩) [1, 3] [(2, 0, 0)] g17 nodraw ?_; refine ⟨_, by (simp [*, F29, dd_fold, flg]; exact Is.mk), ?_⟩)
      | (refine tri_step (id := 2) (C := ⟨[], [], []⟩) [1, 3, 4] [(2, 0, 0)] g17 nodraw ?_; refine ⟨_, by (simp [*, F29, dd_fold, flg]; exact Is.mk), ?_⟩)
      | (refine tri_last (id := 2) (C := ⟨[], [], []⟩) [1, 3, 4] [(2, 0, 0)] g17 nodraw ?_; refine ⟨_, by (simp [*, F29, dd_fold, flg]; exact Is.mk), ?_⟩)
      | (refine tri_step (id := 3) (C := ⟨[], [], []⟩) [1, 3, 4, 6] [(2, 0, 0)] g17 nodraw ?_; refine ⟨_, by (simp [*, F29, dd_fold, flg]; exact Is.mk), ?_⟩)
      | (refine tri_last (id := 3) (C := ⟨[], [], []⟩) [1, 3, 4, 6] [(2, 0, 0)] g17 nodraw ?_; refine ⟨_, by (simp [*, F29, dd_fold, flg]; exact Is.mk), ?_⟩)
      | (refine tri_step (id := 4) (C := ⟨[], [], []⟩) [1, 3, 4] [(2, 0, 0)] g17 nodraw ?_; refine ⟨_, by (simp [*, F29, dd_fold, flg]; exact Is.mk), ?_⟩)
      | (refine tri_last (id := 4) (C := ⟨[], [], []⟩) [1, 3, 4] [(2, 0, 0)] g17 nodraw ?_; refine ⟨_, by (simp [*, F29, dd_fold, flg]; exact Is.mk), ?_⟩)
      | (refine tri_step (id := 5) (C := ⟨[], [], []⟩) [1, 3, 4, 10] [(2, 0, 0)] g17 nodraw ?_; refine ⟨_, by (simp [*, F29, dd_fold, flg]; exact Is.mk), ?_⟩)
      | (refine tri_last (id := 5) (C := ⟨[], [], []⟩) [1, 3, 4, 10] [(2, 0, 0)] g17 nodraw ?_; refine ⟨_, by (simp [*, F29, dd_fold, flg]; exact Is.mk), ?_⟩)
      | (refine tri_step (id := 6) (C := ⟨[], [], []⟩) [1, 3, 4] [(2, 0, 0)] g17 nodraw ?_; refine ⟨_, by (simp [*, F29, dd_fold, flg]; exact Is.mk), ?_⟩)
      | (refine tri_last (id := 6) (C := ⟨[], [], []⟩) [1, 3, 4] [(2, 0, 0)] g17 nodraw ?_; refine ⟨_, by (simp [*, F29, dd_fold, flg]; exact Is.mk), ?_⟩)
      | (refine tri_step (id := 7) (C := ⟨[], [], []⟩) [1, 3, 4] [(2, 0, 0)] g17 nodraw ?_; refine ⟨_, by (simp [*, F29, dd_fold, flg]; exact Is.mk), ?_⟩)
      | (refine tri_last (id := 7) (C := ⟨[], [], []⟩) [1, 3, 4] [(2, 0, 0)] g17 nodraw ?_; refine ⟨_, by (simp [*, F29, dd_fold, flg]; exact Is.mk), ?_⟩)
      | (refine tri_step (id := 8) (C := ⟨[], [], []⟩) [2] [] g17 nodraw ?_; refine ⟨_, by (simp [*, F29, dd_fold, flg]; exact Is.mk), ?_⟩)
      | (refine tri_last (id := 8) (C := ⟨[], [], []⟩) [2] [] g17 nodraw ?_; refine ⟨_, by (simp [*, F29, dd_fold, flg]; exact Is.mk), ?_⟩)
      | (refine tri_cond (c := .tmp 6) (b_true (by simp; exact IsB.mk)) (fun hc => ?_) (fun hc => ?_))
      | (refine tri_cond (c := .tmp 10) (b_true (by simp; exact IsB.mk)) (fun hc => ?_) (fun hc => ?_))
      | (refine to_mk (by simp; exact IsK.mk))
      | (refine imp_ ?_)
      | ((simp; exact IsK.mk))
      | (refine tri_seq ?_)
      ))
    exact ⟨4 - (2 + 1), _, by omega, le_S (by simp [ipTxt, mt_app]) (by simp [ipCells]), 2 + 1, by omega, rfl, rfl⟩
  · all_goals (repeat' (first
      | (refine tri_condT (b_true (by simp; with_reducible exact IsB.mk)) ?_)
      | (refine tri_condF (b_true (by simp; with_reducible exact IsB.mk)) ?_)
      | (refine tri_skipT ?_)
      | (refine tri_skip ?_)
      | (refine then_to ?_)
      | (refine th_n ?_)
      | (refine in_n ?_)
      | (refine in_e ?_)
      | (refine in_x rfl ?_)
      | (refine th_e ?_)
      | (refine th_r ?_)
      | (refine in_r ?_)
      | (refine tri_ret ?_)
      | (refine tri_exit ?_)
      | (refine tri_block ?_)
      | (refine tri_step (id := 0) (C := ⟨[], [], []⟩) [1] [(2, 0, 0)] g17 nodraw ?_; refine ⟨_, by (simp [*, F29, dd_fold, flg]; exact Is.mk), ?_⟩)
      | (refine tri_last (id := 0) (C := ⟨[], [], []⟩) [1] [(2, 0, 0)] g17 nodraw ?_; refine ⟨_, by (simp [*, F29, dd_fold, flg]; exact Is.mk), ?_⟩)
      | (refine tri_step (id := 1) (C := ⟨[], [], []⟩) [1, 3] [(2, 0, 0)] g17 nodraw ?_; refine ⟨_, by (simp [*, F29, dd_fold, flg]; exact Is.mk), ?_⟩)
      | (refine tri_last (id := 1) (C := ⟨[], [], []⟩) [1, 3] [(2, 0, 0)] g17 nodraw ?_; refine ⟨_, by (simp [*, F29, dd_fold, flg]; exact Is.mk), ?_⟩)
      | (refine tri_step (id := 2) (C := ⟨[], [], []⟩) [1, 3, 4] [(2, 0, 0)] g17 nodraw ?_; refine ⟨_, by (simp [*, F29, dd_fold, flg]; exact Is.mk), ?_⟩)
      | (refine tri_last (id := 2) (C := ⟨[], [], []⟩) [1, 3, 4] [(2, 0, 0)] g17 nodraw ?_; refine ⟨_, by (simp [*, F29, dd_fold, flg]; exact Is.mk), ?_⟩)
      | (refine tri_step (id := 3) (C := ⟨[], [], []⟩) [1, 3, 4, 6] [(2, 0, 0)] g17 nodraw ?_; refine ⟨_, by (simp [*, F29, dd_fold, flg]; exact Is.mk), ?_⟩)
      | (refine tri_last (id := 3) (C := ⟨[], [], []⟩) [1, 3, 4, 6] [(2, 0, 0)] g17 nodraw ?_; refine ⟨_, by (simp [*, F29, dd_fold, flg]; exact Is.mk), ?_⟩)
      | (refine tri_step (id := 4) (C := ⟨[], [], []⟩) [1, 3, 4] [(2, 0, 0)] g17 nodraw ?_; refine ⟨_, by (simp [*, F29, dd_fold, flg]; exact Is.mk), ?_⟩)
      | (refine tri_last (id := 4) (C := ⟨[], [], []⟩) [1, 3, 4] [(2, 0, 0)] g17 nodraw ?_; refine ⟨_, by (simp [*, F29, dd_fold, flg]; exact Is.mk), ?_⟩)
      | (refine tri_step (id := 5) (C := ⟨[], [], []⟩) [1, 3, 4, 10] [(2, 0, 0)] g17 nodraw ?_; refine ⟨_, by (simp [*, F29, dd_fold, flg]; exact Is.mk), ?_⟩)
      | (refine tri_last (id := 5) (C := ⟨[], [], []⟩) [1, 3, 4, 10] [(2, 0, 0)] g17 nodraw ?_; refine ⟨_, by (simp [*, F29, dd_fold, flg]; exact Is.mk), ?_⟩)
      | (refine tri_step (id := 6) (C := ⟨[], [], []⟩) [1, 3, 4] [(2, 0, 0)] g17 nodraw ?_; refine ⟨_, by (simp [*, F29, dd_fold, flg]; exact Is.mk), ?_⟩)
      | (refine tri_last (id := 6) (C := ⟨[], [], []⟩) [1, 3, 4] [(2, 0, 0)] g17 nodraw ?_; refine ⟨_, by (simp [*, F29, dd_fold, flg]; exact Is.mk), ?_⟩)
      | (refine tri_step (id := 7) (C := ⟨[], [], []⟩) [1, 3, 4] [(2, 0, 0)] g17 nodraw ?_; refine ⟨_, by (simp [*, F29, dd_fold, flg]; exact Is.mk), ?_⟩)
      | (refine tri_last (id := 7) (C := ⟨[], [], []⟩) [1, 3, 4] [(2, 0, 0)] g17 nodraw ?_; refine ⟨_, by (simp [*, F29, dd_fold, flg]; exact Is.mk), ?_⟩)
      | (refine tri_step (id := 8) (C := ⟨[], [], []⟩) [2] [] g17 nodraw ?_; refine ⟨_, by (simp [*, F29, dd_fold, flg]; exact Is.mk), ?_⟩)
      | (refine tri_last (id := 8) (C := ⟨[], [], []⟩) [2] [] g17 nodraw ?_; refine ⟨_, by (simp [*, F29, dd_fold, flg]; exact Is.mk), ?_⟩)
      | (refine tri_cond (c := .tmp 6) (b_true (by simp; exact IsB.mk)) (fun hc => ?_) (fun hc => ?_))
      | (refine tri_cond (c := .tmp 10) (b_true (by simp; exact IsB.mk)) (fun hc => ?_) (fun hc => ?_))
      | (refine to_mk (by simp; exact IsK.mk))
      | (refine imp_ ?_)
      | ((simp; exact IsK.mk))
      | (refine tri_seq ?_)
      ))
    exact ⟨4 - (3 + 1), _, by omega, le_S (by simp [ipTxt, mt_app]) (by simp [ipCells]), 3 + 1, by omega, rfl, rfl⟩
  · all_goals (repeat' (first
      | (refine tri_condT (b_true (by simp; with_reducible exact IsB.mk)) ?_)
      | (refine tri_condF (b_true (by simp; with_reducible exact IsB.mk)) ?_)
      | (refine tri_skipT ?_)
      | (refine tri_skip ?_)
      | (refine then_to ?_)
      | (refine th_n ?_)
      | (refine in_n ?_)
      | (refine in_e ?_)
      | (refine in_x rfl ?_)
      | (refine th_e ?_)
      | (refine th_r ?_)
      | (refine in_r ?_)
      | (refine tri_ret ?_)
      | (refine tri_exit ?_)
      | (refine tri_block ?_)
      | (refine tri_step (id := 0) (C := ⟨[], [], []⟩) [1] [(2, 0, 0)] g17 nodraw ?_; refine ⟨_, by (simp [*, F29, dd_fold, flg]; exact Is.mk), ?_⟩)
      | (refine tri_last (id := 0) (C := ⟨[], [], []⟩) [1] [(2, 0, 0)] g17 nodraw ?_; refine ⟨_, by (simp [*, F29, dd_fold, flg]; exact Is.mk), ?_⟩)
      | (refine tri_step (id := 1) (C := ⟨[], [], []⟩) [1, 3] [(2, 0, 0)] g17 nodraw ?_; refine ⟨_, by (simp [*, F29, dd_fold, flg]; exact Is.mk), ?_⟩)
      | (refine tri_last (id := 1) (C := ⟨[], [], []⟩) [1, 3] [(2, 0, 0)] g17 nodraw ?_; refine ⟨_, by (simp [*, F29, dd_fold, flg]; exact Is.mk), ?_⟩)
      | (refine tri_step (id := 2) (C := ⟨[], [], []⟩) [1, 3, 4] [(2, 0, 0)] g17 nodraw ?_; refine ⟨_, by (simp [*, F29, dd_fold, flg]; exact Is.mk), ?_⟩)
      | (refine tri_last (id := 2) (C := ⟨[], [], []⟩) [1, 3, 4] [(2, 0, 0)] g17 nodraw ?_; refine ⟨_, by (simp [*, F29, dd_fold, flg]; exact Is.mk), ?_⟩)
      | (refine tri_step (id := 3) (C := ⟨[], [], []⟩) [1, 3, 4, 6] [(2, 0, 0)] g17 nodraw ?_; refine ⟨_, by (simp [*, F29, dd_fold, flg]; exact Is.mk), ?_⟩)
      | (refine tri_last (id := 3) (C := ⟨[], [], []⟩) [1, 3, 4, 6] [(2, 0, 0)] g17 nodraw ?_; refine ⟨_, by (simp [*, F29, dd_fold, flg]; exact Is.mk), ?_⟩)
      | (refine tri_step (id := 4) (C := ⟨[], [], []⟩) [1, 3, 4] [(2, 0, 0)] g17 nodraw ?_; refine ⟨_, by (simp [*, F29, dd_fold, flg]; exact Is.mk), ?_⟩)
      | (refine tri_last (id := 4) (C := ⟨[], [], []⟩) [1, 3, 4] [(2, 0, 0)] g17 nodraw ?_; refine ⟨_, by (simp [*, F29, dd_fold, flg]; exact Is.mk), ?_⟩)
      | (refine tri_step (id := 5) (C := ⟨[], [], []⟩) [1, 3, 4, 10] [(2, 0, 0)] g17 nodraw ?_; refine ⟨_, by (simp [*, F29, dd_fold, flg]; exact Is.mk), ?_⟩)
      | (refine tri_last (id := 5) (C := ⟨[], [], []⟩) [1, 3, 4, 10] [(2, 0, 0)] g17 nodraw ?_; refine ⟨_, by (simp [*, F29, dd_fold, flg]; exact Is.mk), ?_⟩)
      | (refine tri_step (id := 6) (C := ⟨[], [], []⟩) [1, 3, 4] [(2, 0, 0)] g17 nodraw ?_; refine ⟨_, by (simp [*, F29, dd_fold, flg]; exact Is.mk), ?_⟩)
      | (refine tri_last (id := 6) (C := ⟨[], [], []⟩) [1, 3, 4] [(2, 0, 0)] g17 nodraw ?_; refine ⟨_, by (simp [*, F29, dd_fold, flg]; exact Is.mk), ?_⟩)
      | (refine tri_step (id := 7) (C := ⟨[], [], []⟩) [1, 3, 4] [(2, 0, 0)] g17 nodraw ?_; refine ⟨_, by (simp [*, F29, dd_fold, flg]; exact Is.mk), ?_⟩)
      | (refine tri_last (id := 7) (C := ⟨[], [], []⟩) [1, 3, 4] [(2, 0, 0)] g17 nodraw ?_; refine ⟨_, by (simp [*, F29, dd_fold, flg]; exact Is.mk), ?_⟩)
      | (refine tri_step (id := 8) (C := ⟨[], [], []⟩) [2] [] g17 nodraw ?_; refine ⟨_, by (simp [*, F29, dd_fold, flg]; exact Is.mk), ?_⟩)
      | (refine tri_last (id := 8) (C := ⟨[], [], []⟩) [2] [] g17 nodraw ?_; refine ⟨_, by (simp [*, F29, dd_fold, flg]; exact Is.mk), ?_⟩)
      | (refine tri_cond (c := .tmp 6) (b_true (by simp; exact IsB.mk)) (fun hc => ?_) (fun hc => ?_))
      | (refine tri_cond (c := .tmp 10) (b_true (by simp; exact IsB.mk)) (fun hc => ?_) (fun hc => ?_))
      | (refine to_mk (by simp; exact IsK.mk))
      | (refine imp_ ?_)
      | ((simp; exact IsK.mk))
      | (refine tri_seq ?_)
      ))
    all_goals (refine post_plainV (P := Tryd.prog) (fn := Tryd.f17) (by simp; exact IsV.mk) rfl ?_)
    all_goals (simp [h4]; done)
open Classical in
noncomputable def F17 : Fn1
  | [x0] => (whole pIp x0).bind fun a => if LowIp a then some ((.v (.string (writeIP a))), none) else none
  | _ => none
theorem spec17 : Spec1 Tryd.prog 17 F17 := spec_of fun ys r o h => by
  unfold F17 at h
  split at h
  case h_2 => cases h
  obtain ⟨a, k0, h1⟩ := bind_some h
  obtain ⟨hpre, hz⟩ := ite_some h1
  cases hz
  exact ⟨_, at17 a hpre, rfl, le_plain ⟨whole_co pIp_snd k0, trivial⟩ (by simp only [List.all_cons, List.all_nil, Bool.not_false, Bool.and_self, notRefB (whole_co pIp_snd k0) rfl (by simp)]) rfl⟩
theorem en17 : Enters Tryd.prog 17 := enters_of Tryd.func17 (by kernel_rfl) rfl

end Go.Proofs.YtkmjoppcecffkaaDoor

-- Printed by genwalk.py.
namespace Go.Proofs.YtkmjoppcecffkaaDoor
open Go Go.RowKit Caw
set_option linter.unusedSimpArgs false
set_option linter.unusedVariables false
set_option maxRecDepth 100000

-- caravel/caravelref04.numbers
set_option maxHeartbeats 4000000 in
theorem at27 (s : ByteArray) (hpre : s.size ≤ 100010) : SpecAt Tryd.prog 27 [.v (.string s)] (.sl 1 (encI (numsR s)) none) none := by
  refine specAt_of_tri Tryd.func27 rfl (Nat.le_of_ble_eq_true rfl) ?_
  all_goals (repeat' (first
      | (refine tri_condT (b_true (by simp; with_reducible exact IsB.mk)) ?_)
      | (refine tri_condF (b_true (by simp; with_reducible exact IsB.mk)) ?_)
      | (refine tri_skipT ?_)
      | (refine tri_skip ?_)
      | (refine then_to ?_)
      | (refine th_n ?_)
      | (refine in_n ?_)
      | (refine in_e ?_)
      | (refine in_x rfl ?_)
      | (refine th_e ?_)
      | (refine th_r ?_)
      | (refine in_r ?_)
      | (refine tri_ret ?_)
      | (refine tri_exit ?_)
      | (refine tri_block ?_)
      | (refine tri_step (id := 0) (C := ⟨[], [], []⟩) [0] [] gok_nil nodraw ?_; refine ⟨_, by (simp [*, flg]; exact Is.mk), ?_⟩)
      | (refine tri_last (id := 0) (C := ⟨[], [], []⟩) [0] [] gok_nil nodraw ?_; refine ⟨_, by (simp [*, flg]; exact Is.mk), ?_⟩)
      | (refine tri_step (id := 1) (C := ⟨[], [], []⟩) [0, 3] [] gok_nil nodraw ?_; refine ⟨_, by (simp [*, flg]; exact Is.mk), ?_⟩)
      | (refine tri_last (id := 1) (C := ⟨[], [], []⟩) [0, 3] [] gok_nil nodraw ?_; refine ⟨_, by (simp [*, flg]; exact Is.mk), ?_⟩)
      | (refine tri_step (id := 2) (C := ⟨[], [], []⟩) [0, 3, 4] [] gok_nil nodraw ?_; refine ⟨_, by (simp [*, flg]; exact Is.mk), ?_⟩)
      | (refine tri_last (id := 2) (C := ⟨[], [], []⟩) [0, 3, 4] [] gok_nil nodraw ?_; refine ⟨_, by (simp [*, flg]; exact Is.mk), ?_⟩)
      | (refine tri_step (id := 3) (C := ⟨[], [], []⟩) [0, 3, 4, 10] [] gok_nil nodraw ?_; refine ⟨_, by (simp [*, flg]; exact Is.mk), ?_⟩)
      | (refine tri_last (id := 3) (C := ⟨[], [], []⟩) [0, 3, 4, 10] [] gok_nil nodraw ?_; refine ⟨_, by (simp [*, flg]; exact Is.mk), ?_⟩)
      | (refine tri_step (id := 4) (C := ⟨[], [], []⟩) [0, 3, 4] [] gok_nil nodraw ?_; refine ⟨_, by (simp [*, flg]; exact Is.mk), ?_⟩)
      | (refine tri_last (id := 4) (C := ⟨[], [], []⟩) [0, 3, 4] [] gok_nil nodraw ?_; refine ⟨_, by (simp [*, flg]; exact Is.mk), ?_⟩)
      | (refine tri_stepG (id := 5) (C := ⟨[], [], []⟩) [0, 3, 4, 22] [] gok_nil nodraw ?_; refine ⟨_, (by repeat' (first | refine go_T ?_ | refine go_F ?_ | apply go_S | (refine run_go 0 5 17 (by simp [*, flg]; exact Is.mk) (by simp [*]; exact IsB.mk) ?_) | (simp [*, flg]; exact IsK.mk))), ?_⟩)
      | (refine tri_lastG (id := 5) (C := ⟨[], [], []⟩) [0, 3, 4, 22] [] gok_nil nodraw ?_; refine ⟨_, (by repeat' (first | refine go_T ?_ | refine go_F ?_ | apply go_S | (refine run_go 0 5 17 (by simp [*, flg]; exact Is.mk) (by simp [*]; exact IsB.mk) ?_) | (simp [*, flg]; exact IsK.mk))), ?_⟩)
      | (refine tri_step (id := 6) (C := ⟨[], [], []⟩) [0, 3, 4] [] gok_nil nodraw ?_; refine ⟨_, by (simp [*, flg]; exact Is.mk), ?_⟩)
      | (refine tri_last (id := 6) (C := ⟨[], [], []⟩) [0, 3, 4] [] gok_nil nodraw ?_; refine ⟨_, by (simp [*, flg]; exact Is.mk), ?_⟩)
      | (refine tri_step (id := 7) (C := ⟨[], [], []⟩) [0, 3, 4, 5] [] gok_nil nodraw ?_; refine ⟨_, by (simp [*, flg]; exact Is.mk), ?_⟩)
      | (refine tri_last (id := 7) (C := ⟨[], [], []⟩) [0, 3, 4, 5] [] gok_nil nodraw ?_; refine ⟨_, by (simp [*, flg]; exact Is.mk), ?_⟩)
      | (refine tri_step (id := 8) (C := ⟨[], [], []⟩) [0, 3, 4] [] gok_nil (fun _ => ⟨q_mixed, by kernel_rfl⟩) ?_; refine ⟨_, by (simp [*, flg]; exact Is.mk), ?_⟩)
      | (refine tri_last (id := 8) (C := ⟨[], [], []⟩) [0, 3, 4] [] gok_nil (fun _ => ⟨q_mixed, by kernel_rfl⟩) ?_; refine ⟨_, by (simp [*, flg]; exact Is.mk), ?_⟩)
      | (refine tri_step (id := 9) (C := ⟨[], [], []⟩) [2] [] gok_nil nodraw ?_; refine ⟨_, by (simp [*, flg]; exact Is.mk), ?_⟩)
      | (refine tri_last (id := 9) (C := ⟨[], [], []⟩) [2] [] gok_nil nodraw ?_; refine ⟨_, by (simp [*, flg]; exact Is.mk), ?_⟩)
      | (refine tri_cond (c := .tmp 10) (b_true (by simp; exact IsB.mk)) (fun hc => ?_) (fun hc => ?_))
      | (refine tri_cond (c := .tmp 22) (b_true (by simp; exact IsB.mk)) (fun hc => ?_) (fun hc => ?_))
      | (refine to_mk (by simp; exact IsK.mk))
      | (refine imp_ ?_)
      | ((simp; exact IsK.mk))
      | (refine tri_seq ?_)
      ))
  refine tri_loop (fun k st => ∃ (i : Nat) (ds : List Int) (n : Int), i ≤ s.size ∧ k = s.size - i ∧ ds.length ≤ i ∧ 0 ≤ n ∧ n ≤ 99999 ∧ numsGo ((bl s).drop i) ds n = numsR s ∧ st = mkSt [(0, .v (.string s)), (3, .sl 1 (encI (ds ++ [n])) (some ((7,0,0),0))), (4, .v (.int .i64 i))] []) s.size _ (le_K (by simp [encI]) (by simp)) ⟨0, [], 0, by omega, rfl, by simp, by omega, by omega, rfl, rfl⟩ ?_
  rintro k st ⟨i, ds, n, hi, hk, hd, h0, h1, hn, rfl⟩
  have z1 : ds.length * 9 ≤ 1099511627776 := by omega
  have z2 : (ds.length + 1) * 9 ≤ 1099511627776 := by omega
  have z3 : (ds.length + 1 + 1) * 9 ≤ 1099511627776 := by omega
  have w1 : IntKind.wrap .i64 (ds.length : Int) = ds.length := wrap_i64 (by omega)
  have w7 : (ds.length : Int) ≤ (ds.length : Int) + 1 := by omega
  have gI : ∀ h : ds.length < (encI (ds ++ [n])).length, (encI (ds ++ [n]))[ds.length]'h = .v (.int .i64 n) := fun h => by simp [encI]
  have w2 : IntKind.wrap .i64 (10 * n) = 10 * n := wrap_i64 (by omega)
  have w6 : IntKind.wrap .i64 ((i : Int) + 1) = (i : Int) + 1 := wrap_i64 (by omega)
  by_cases hlt : i < s.size
  · rw [drop_bl s i hlt] at hn
    obtain ⟨c, hc0, hg⟩ : ∃ c, s[i] = c ∧ ∀ h : i < s.size, s[i]'h = c := ⟨_, rfl, fun _ => rfl⟩
    rw [hc0] at hn
    clear hc0
    have hc := c.toNat_lt
    by_cases hs : ((c.toNat : Nat) : Int) < 48 ∨ 57 < ((c.toNat : Nat) : Int)
    · rw [nums_sep hs] at hn
      rcases hs with hs | hs
      · all_goals (repeat' (first
      | (refine tri_condT (b_true (by simp; with_reducible exact IsB.mk)) ?_)
      | (refine tri_condF (b_true (by simp; with_reducible exact IsB.mk)) ?_)
      | (refine tri_skipT ?_)
      | (refine tri_skip ?_)
      | (refine then_to ?_)
      | (refine th_n ?_)
      | (refine in_n ?_)
      | (refine in_e ?_)
      | (refine in_x rfl ?_)
      | (refine th_e ?_)
      | (refine th_r ?_)
      | (refine in_r ?_)
      | (refine tri_ret ?_)
      | (refine tri_exit ?_)
      | (refine tri_block ?_)
      | (refine tri_step (id := 0) (C := ⟨[], [], []⟩) [0] [] gok_nil nodraw ?_; refine ⟨_, by (simp [*, flg]; exact Is.mk), ?_⟩)
      | (refine tri_last (id := 0) (C := ⟨[], [], []⟩) [0] [] gok_nil nodraw ?_; refine ⟨_, by (simp [*, flg]; exact Is.mk), ?_⟩)
      | (refine tri_step (id := 1) (C := ⟨[], [], []⟩) [0, 3] [] gok_nil nodraw ?_; refine ⟨_, by (simp [*, flg]; exact Is.mk), ?_⟩)
      | (refine tri_last (id := 1) (C := ⟨[], [], []⟩) [0, 3] [] gok_nil nodraw ?_; refine ⟨_, by (simp [*, flg]; exact Is.mk), ?_⟩)
      | (refine tri_step (id := 2) (C := ⟨[], [], []⟩) [0, 3, 4] [] gok_nil nodraw ?_; refine ⟨_, by (simp [*, flg]; exact Is.mk), ?_⟩)
      | (refine tri_last (id := 2) (C := ⟨[], [], []⟩) [0, 3, 4] [] gok_nil nodraw ?_; refine ⟨_, by (simp [*, flg]; exact Is.mk), ?_⟩)
      | (refine tri_step (id := 3) (C := ⟨[], [], []⟩) [0, 3, 4, 10] [] gok_nil nodraw ?_; refine ⟨_, by (simp [*, flg]; exact Is.mk), ?_⟩)
      | (refine tri_last (id := 3) (C := ⟨[], [], []⟩) [0, 3, 4, 10] [] gok_nil nodraw ?_; refine ⟨_, by (simp [*, flg]; exact Is.mk), ?_⟩)
      | (refine tri_step (id := 4) (C := ⟨[], [], []⟩) [0, 3, 4] [] gok_nil nodraw ?_; refine ⟨_, by (simp [*, flg]; exact Is.mk), ?_⟩)
      | (refine tri_last (id := 4) (C := ⟨[], [], []⟩) [0, 3, 4] [] gok_nil nodraw ?_; refine ⟨_, by (simp [*, flg]; exact Is.mk), ?_⟩)
      | (refine tri_stepG (id := 5) (C := ⟨[], [], []⟩) [0, 3, 4, 22] [] gok_nil nodraw ?_; refine ⟨_, (by repeat' (first | refine go_T ?_ | refine go_F ?_ | apply go_S | (refine run_go 0 5 17 (by simp [*, flg]; exact Is.mk) (by simp [*]; exact IsB.mk) ?_) | (simp [*, flg]; exact IsK.mk))), ?_⟩)
      | (refine tri_lastG (id := 5) (C := ⟨[], [], []⟩) [0, 3, 4, 22] [] gok_nil nodraw ?_; refine ⟨_, (by repeat' (first | refine go_T ?_ | refine go_F ?_ | apply go_S | (refine run_go 0 5 17 (by simp [*, flg]; exact Is.mk) (by simp [*]; exact IsB.mk) ?_) | (simp [*, flg]; exact IsK.mk))), ?_⟩)
      | (refine tri_step (id := 6) (C := ⟨[], [], []⟩) [0, 3, 4] [] gok_nil nodraw ?_; refine ⟨_, by (simp [*, flg]; exact Is.mk), ?_⟩)
      | (refine tri_last (id := 6) (C := ⟨[], [], []⟩) [0, 3, 4] [] gok_nil nodraw ?_; refine ⟨_, by (simp [*, flg]; exact Is.mk), ?_⟩)
      | (refine tri_step (id := 7) (C := ⟨[], [], []⟩) [0, 3, 4, 5] [] gok_nil nodraw ?_; refine ⟨_, by (simp [*, flg]; exact Is.mk), ?_⟩)
      | (refine tri_last (id := 7) (C := ⟨[], [], []⟩) [0, 3, 4, 5] [] gok_nil nodraw ?_; refine ⟨_, by (simp [*, flg]; exact Is.mk), ?_⟩)
      | (refine tri_step (id := 8) (C := ⟨[], [], []⟩) [0, 3, 4] [] gok_nil (fun _ => ⟨q_mixed, by kernel_rfl⟩) ?_; refine ⟨_, by (simp [*, flg]; exact Is.mk), ?_⟩)
      | (refine tri_last (id := 8) (C := ⟨[], [], []⟩) [0, 3, 4] [] gok_nil (fun _ => ⟨q_mixed, by kernel_rfl⟩) ?_; refine ⟨_, by (simp [*, flg]; exact Is.mk), ?_⟩)
      | (refine tri_step (id := 9) (C := ⟨[], [], []⟩) [2] [] gok_nil nodraw ?_; refine ⟨_, by (simp [*, flg]; exact Is.mk), ?_⟩)
      | (refine tri_last (id := 9) (C := ⟨[], [], []⟩) [2] [] gok_nil nodraw ?_; refine ⟨_, by (simp [*, flg]; exact Is.mk), ?_⟩)
      | (refine tri_cond (c := .tmp 10) (b_true (by simp; exact IsB.mk)) (fun hc => ?_) (fun hc => ?_))
      | (refine tri_cond (c := .tmp 22) (b_true (by simp; exact IsB.mk)) (fun hc => ?_) (fun hc => ?_))
      | (refine to_mk (by simp; exact IsK.mk))
      | (refine imp_ ?_)
      | ((simp; exact IsK.mk))
      | (refine tri_seq ?_)
      ))
        exact ⟨s.size - (i + 1), _, by omega, le_Sn [((7,0,0),(26,0,0))] ⟨rfl, trivial⟩ (by simp) (by simp), i + 1, ds ++ [n], 0, by omega, rfl, by simp; omega, by omega, by omega, hn, rfl⟩
      · have hs2 : ¬ ((c.toNat : Nat) : Int) < 48 := by omega
        all_goals (repeat' (first
      | (refine tri_condT (b_true (by simp; with_reducible exact IsB.mk)) ?_)
      | (refine tri_condF (b_true (by simp; with_reducible exact IsB.mk)) ?_)
      | (refine tri_skipT ?_)
      | (refine tri_skip ?_)
      | (refine then_to ?_)
      | (refine th_n ?_)
      | (refine in_n ?_)
      | (refine in_e ?_)
      | (refine in_x rfl ?_)
      | (refine th_e ?_)
      | (refine th_r ?_)
      | (refine in_r ?_)
      | (refine tri_ret ?_)
      | (refine tri_exit ?_)
      | (refine tri_block ?_)
      | (refine tri_step (id := 0) (C := ⟨[], [], []⟩) [0] [] gok_nil nodraw ?_; refine ⟨_, by (simp [*, flg]; exact Is.mk), ?_⟩)
      | (refine tri_last (id := 0) (C := ⟨[], [], []⟩) [0] [] gok_nil nodraw ?_; refine ⟨_, by (simp [*, flg]; exact Is.mk), ?_⟩)
      | (refine tri_step (id := 1) (C := ⟨[], [], []⟩) [0, 3] [] gok_nil nodraw ?_; refine ⟨_, by (simp [*, flg]; exact Is.mk), ?_⟩)
      | (refine tri_last (id := 1) (C := ⟨[], [], []⟩) [0, 3] [] gok_nil nodraw ?_; refine ⟨_, by (simp [*, flg]; exact Is.mk), ?_⟩)
      | (refine tri_step (id := 2) (C := ⟨[], [], []⟩) [0, 3, 4] [] gok_nil nodraw ?_; refine ⟨_, by (simp [*, flg]; exact Is.mk), ?_⟩)
      | (refine tri_last (id := 2) (C := ⟨[], [], []⟩) [0, 3, 4] [] gok_nil nodraw ?_; refine ⟨_, by (simp [*, flg]; exact Is.mk), ?_⟩)
      | (refine tri_step (id := 3) (C := ⟨[], [], []⟩) [0, 3, 4, 10] [] gok_nil nodraw ?_; refine ⟨_, by (simp [*, flg]; exact Is.mk), ?_⟩)
      | (refine tri_last (id := 3) (C := ⟨[], [], []⟩) [0, 3, 4, 10] [] gok_nil nodraw ?_; refine ⟨_, by (simp [*, flg]; exact Is.mk), ?_⟩)
      | (refine tri_step (id := 4) (C := ⟨[], [], []⟩) [0, 3, 4] [] gok_nil nodraw ?_; refine ⟨_, by (simp [*, flg]; exact Is.mk), ?_⟩)
      | (refine tri_last (id := 4) (C := ⟨[], [], []⟩) [0, 3, 4] [] gok_nil nodraw ?_; refine ⟨_, by (simp [*, flg]; exact Is.mk), ?_⟩)
      | (refine tri_stepG (id := 5) (C := ⟨[], [], []⟩) [0, 3, 4, 22] [] gok_nil nodraw ?_; refine ⟨_, (by repeat' (first | refine go_T ?_ | refine go_F ?_ | apply go_S | (refine run_go 0 5 17 (by simp [*, flg]; exact Is.mk) (by simp [*]; exact IsB.mk) ?_) | (simp [*, flg]; exact IsK.mk))), ?_⟩)
      | (refine tri_lastG (id := 5) (C := ⟨[], [], []⟩) [0, 3, 4, 22] [] gok_nil nodraw ?_; refine ⟨_, (by repeat' (first | refine go_T ?_ | refine go_F ?_ | apply go_S | (refine run_go 0 5 17 (by simp [*, flg]; exact Is.mk) (by simp [*]; exact IsB.mk) ?_) | (simp [*, flg]; exact IsK.mk))), ?_⟩)
      | (refine tri_step (id := 6) (C := ⟨[], [], []⟩) [0, 3, 4] [] gok_nil nodraw ?_; refine ⟨_, by (simp [*, flg]; exact Is.mk), ?_⟩)
      | (refine tri_last (id := 6) (C := ⟨[], [], []⟩) [0, 3, 4] [] gok_nil nodraw ?_; refine ⟨_, by (simp [*, flg]; exact Is.mk), ?_⟩)
      | (refine tri_step (id := 7) (C := ⟨[], [], []⟩) [0, 3, 4, 5] [] gok_nil nodraw ?_; refine ⟨_, by (simp [*, flg]; exact Is.mk), ?_⟩)
      | (refine tri_last (id := 7) (C := ⟨[], [], []⟩) [0, 3, 4, 5] [] gok_nil nodraw ?_; refine ⟨_, by (simp [*, flg]; exact Is.mk), ?_⟩)
      | (refine tri_step (id := 8) (C := ⟨[], [], []⟩) [0, 3, 4] [] gok_nil (fun _ => ⟨q_mixed, by kernel_rfl⟩) ?_; refine ⟨_, by (simp [*, flg]; exact Is.mk), ?_⟩)
      | (refine tri_last (id := 8) (C := ⟨[], [], []⟩) [0, 3, 4] [] gok_nil (fun _ => ⟨q_mixed, by kernel_rfl⟩) ?_; refine ⟨_, by (simp [*, flg]; exact Is.mk), ?_⟩)
      | (refine tri_step (id := 9) (C := ⟨[], [], []⟩) [2] [] gok_nil nodraw ?_; refine ⟨_, by (simp [*, flg]; exact Is.mk), ?_⟩)
      | (refine tri_last (id := 9) (C := ⟨[], [], []⟩) [2] [] gok_nil nodraw ?_; refine ⟨_, by (simp [*, flg]; exact Is.mk), ?_⟩)
      | (refine tri_cond (c := .tmp 10) (b_true (by simp; exact IsB.mk)) (fun hc => ?_) (fun hc => ?_))
      | (refine tri_cond (c := .tmp 22) (b_true (by simp; exact IsB.mk)) (fun hc => ?_) (fun hc => ?_))
      | (refine to_mk (by simp; exact IsK.mk))
      | (refine imp_ ?_)
      | ((simp; exact IsK.mk))
      | (refine tri_seq ?_)
      ))
        exact ⟨s.size - (i + 1), _, by omega, le_Sn [((7,0,0),(26,0,0))] ⟨rfl, trivial⟩ (by simp) (by simp), i + 1, ds ++ [n], 0, by omega, rfl, by simp; omega, by omega, by omega, hn, rfl⟩
    · simp only [numsGo, if_neg hs] at hn
      have hs1 : ¬ ((c.toNat : Nat) : Int) < 48 := fun e => hs (.inl e)
      have hs2 : ¬ 57 < ((c.toNat : Nat) : Int) := fun e => hs (.inr e)
      have w3 : IntKind.wrap .u8 (((c.toNat : Nat) : Int) - 48) = ((c.toNat : Nat) : Int) - 48 := wrap8 (by omega) (by omega)
      have w4 : IntKind.wrap .i64 (((c.toNat : Nat) : Int) - 48) = ((c.toNat : Nat) : Int) - 48 := wrap_i64 (by omega)
      have w5 : IntKind.wrap .i64 (10 * n + (((c.toNat : Nat) : Int) - 48)) = 10 * n + (((c.toNat : Nat) : Int) - 48) := wrap_i64 (by omega)
      have hm : 0 ≤ minI (10 * n + (((c.toNat : Nat) : Int) - 48)) 99999 ∧ minI (10 * n + (((c.toNat : Nat) : Int) - 48)) 99999 ≤ 99999 := by unfold minI; split <;> omega
      generalize hx : minI (10 * n + (((c.toNat : Nat) : Int) - 48)) 99999 = x at *
      all_goals (repeat' (first
      | (refine tri_condT (b_true (by simp; with_reducible exact IsB.mk)) ?_)
      | (refine tri_condF (b_true (by simp; with_reducible exact IsB.mk)) ?_)
      | (refine tri_skipT ?_)
      | (refine tri_skip ?_)
      | (refine then_to ?_)
      | (refine th_n ?_)
      | (refine in_n ?_)
      | (refine in_e ?_)
      | (refine in_x rfl ?_)
      | (refine th_e ?_)
      | (refine th_r ?_)
      | (refine in_r ?_)
      | (refine tri_ret ?_)
      | (refine tri_exit ?_)
      | (refine tri_block ?_)
      | (refine tri_step (id := 0) (C := ⟨[], [], []⟩) [0] [] gok_nil nodraw ?_; refine ⟨_, by (simp [*, flg]; exact Is.mk), ?_⟩)
      | (refine tri_last (id := 0) (C := ⟨[], [], []⟩) [0] [] gok_nil nodraw ?_; refine ⟨_, by (simp [*, flg]; exact Is.mk), ?_⟩)
      | (refine tri_step (id := 1) (C := ⟨[], [], []⟩) [0, 3] [] gok_nil nodraw ?_; refine ⟨_, by (simp [*, flg]; exact Is.mk), ?_⟩)
      | (refine tri_last (id := 1) (C := ⟨[], [], []⟩) [0, 3] [] gok_nil nodraw ?_; refine ⟨_, by (simp [*, flg]; exact Is.mk), ?_⟩)
      | (refine tri_step (id := 2) (C := ⟨[], [], []⟩) [0, 3, 4] [] gok_nil nodraw ?_; refine ⟨_, by (simp [*, flg]; exact Is.mk), ?_⟩)
      | (refine tri_last (id := 2) (C := ⟨[], [], []⟩) [0, 3, 4] [] gok_nil nodraw ?_; refine ⟨_, by (simp [*, flg]; exact Is.mk), ?_⟩)
      | (refine tri_step (id := 3) (C := ⟨[], [], []⟩) [0, 3, 4, 10] [] gok_nil nodraw ?_; refine ⟨_, by (simp [*, flg]; exact Is.mk), ?_⟩)
      | (refine tri_last (id := 3) (C := ⟨[], [], []⟩) [0, 3, 4, 10] [] gok_nil nodraw ?_; refine ⟨_, by (simp [*, flg]; exact Is.mk), ?_⟩)
      | (refine tri_step (id := 4) (C := ⟨[], [], []⟩) [0, 3, 4] [] gok_nil nodraw ?_; refine ⟨_, by (simp [*, flg]; exact Is.mk), ?_⟩)
      | (refine tri_last (id := 4) (C := ⟨[], [], []⟩) [0, 3, 4] [] gok_nil nodraw ?_; refine ⟨_, by (simp [*, flg]; exact Is.mk), ?_⟩)
      | (refine tri_stepG (id := 5) (C := ⟨[], [], []⟩) [0, 3, 4, 22] [] gok_nil nodraw ?_; refine ⟨_, (by repeat' (first | refine go_T ?_ | refine go_F ?_ | apply go_S | (refine run_go 0 5 17 (by simp [*, flg]; exact Is.mk) (by simp [*]; exact IsB.mk) ?_) | (simp [*, flg]; exact IsK.mk))), ?_⟩)
      | (refine tri_lastG (id := 5) (C := ⟨[], [], []⟩) [0, 3, 4, 22] [] gok_nil nodraw ?_; refine ⟨_, (by repeat' (first | refine go_T ?_ | refine go_F ?_ | apply go_S | (refine run_go 0 5 17 (by simp [*, flg]; exact Is.mk) (by simp [*]; exact IsB.mk) ?_) | (simp [*, flg]; exact IsK.mk))), ?_⟩)
      | (refine tri_step (id := 6) (C := ⟨[], [], []⟩) [0, 3, 4] [] gok_nil nodraw ?_; refine ⟨_, by (simp [*, flg]; exact Is.mk), ?_⟩)
      | (refine tri_last (id := 6) (C := ⟨[], [], []⟩) [0, 3, 4] [] gok_nil nodraw ?_; refine ⟨_, by (simp [*, flg]; exact Is.mk), ?_⟩)
      | (refine tri_step (id := 7) (C := ⟨[], [], []⟩) [0, 3, 4, 5] [] gok_nil nodraw ?_; refine ⟨_, by (simp [*, flg]; exact Is.mk), ?_⟩)
      | (refine tri_last (id := 7) (C := ⟨[], [], []⟩) [0, 3, 4, 5] [] gok_nil nodraw ?_; refine ⟨_, by (simp [*, flg]; exact Is.mk), ?_⟩)
      | (refine tri_step (id := 8) (C := ⟨[], [], []⟩) [0, 3, 4] [] gok_nil (fun _ => ⟨q_mixed, by kernel_rfl⟩) ?_; refine ⟨_, by (simp [*, flg]; exact Is.mk), ?_⟩)
      | (refine tri_last (id := 8) (C := ⟨[], [], []⟩) [0, 3, 4] [] gok_nil (fun _ => ⟨q_mixed, by kernel_rfl⟩) ?_; refine ⟨_, by (simp [*, flg]; exact Is.mk), ?_⟩)
      | (refine tri_step (id := 9) (C := ⟨[], [], []⟩) [2] [] gok_nil nodraw ?_; refine ⟨_, by (simp [*, flg]; exact Is.mk), ?_⟩)
      | (refine tri_last (id := 9) (C := ⟨[], [], []⟩) [2] [] gok_nil nodraw ?_; refine ⟨_, by (simp [*, flg]; exact Is.mk), ?_⟩)
      | (refine tri_cond (c := .tmp 10) (b_true (by simp; exact IsB.mk)) (fun hc => ?_) (fun hc => ?_))
      | (refine tri_cond (c := .tmp 22) (b_true (by simp; exact IsB.mk)) (fun hc => ?_) (fun hc => ?_))
      | (refine to_mk (by simp; exact IsK.mk))
      | (refine imp_ ?_)
      | ((simp; exact IsK.mk))
      | (refine tri_seq ?_)
      ))
      exact ⟨s.size - (i + 1), _, by omega, le_Sn [((7,0,0),(50,0,0))] ⟨rfl, trivial⟩ (by simp) (by simp), i + 1, ds, x, by omega, rfl, by omega, hm.1, hm.2, hn, rfl⟩
  · have he : (bl s).drop i = [] := List.drop_eq_nil_of_le (by rw [bl_len]; omega)
    rw [he] at hn
    have hn2 : ds ++ [n] = numsR s := hn
    have hlt2 : ¬ ((i : Nat) : Int) < ((s.size : Nat) : Int) := by omega
    all_goals (repeat' (first
      | (refine tri_condT (b_true (by simp; with_reducible exact IsB.mk)) ?_)
      | (refine tri_condF (b_true (by simp; with_reducible exact IsB.mk)) ?_)
      | (refine tri_skipT ?_)
      | (refine tri_skip ?_)
      | (refine then_to ?_)
      | (refine th_n ?_)
      | (refine in_n ?_)
      | (refine in_e ?_)
      | (refine in_x rfl ?_)
      | (refine th_e ?_)
      | (refine th_r ?_)
      | (refine in_r ?_)
      | (refine tri_ret ?_)
      | (refine tri_exit ?_)
      | (refine tri_block ?_)
      | (refine tri_step (id := 0) (C := ⟨[], [], []⟩) [0] [] gok_nil nodraw ?_; refine ⟨_, by (simp [*, flg]; exact Is.mk), ?_⟩)
      | (refine tri_last (id := 0) (C := ⟨[], [], []⟩) [0] [] gok_nil nodraw ?_; refine ⟨_, by (simp [*, flg]; exact Is.mk), ?_⟩)
      | (refine tri_step (id := 1) (C := ⟨[], [], []⟩) [0, 3] [] gok_nil nodraw ?_; refine ⟨_, by (simp [*, flg]; exact Is.mk), ?_⟩)
      | (refine tri_last (id := 1) (C := ⟨[], [], []⟩) [0, 3] [] gok_nil nodraw ?_; refine ⟨_, by (simp [*, flg]; exact Is.mk), ?_⟩)
      | (refine tri_step (id := 2) (C := ⟨[], [], []⟩) [0, 3, 4] [] gok_nil nodraw ?_; refine ⟨_, by (simp [*, flg]; exact Is.mk), ?_⟩)
      | (refine tri_last (id := 2) (C := ⟨[], [], []⟩) [0, 3, 4] [] gok_nil nodraw ?_; refine ⟨_, by (simp [*, flg]; exact Is.mk), ?_⟩)
      | (refine tri_step (id := 3) (C := ⟨[], [], []⟩) [0, 3, 4, 10] [] gok_nil nodraw ?_; refine ⟨_, by (simp [*, flg]; exact Is.mk), ?_⟩)
      | (refine tri_last (id := 3) (C := ⟨[], [], []⟩) [0, 3, 4, 10] [] gok_nil nodraw ?_; refine ⟨_, by (simp [*, flg]; exact Is.mk), ?_⟩)
      | (refine tri_step (id := 4) (C := ⟨[], [], []⟩) [0, 3, 4] [] gok_nil nodraw ?_; refine ⟨_, by (simp [*, flg]; exact Is.mk), ?_⟩)
      | (refine tri_last (id := 4) (C := ⟨[], [], []⟩) [0, 3, 4] [] gok_nil nodraw ?_; refine ⟨_, by (simp [*, flg]; exact Is.mk), ?_⟩)
      | (refine tri_stepG (id := 5) (C := ⟨[], [], []⟩) [0, 3, 4, 22] [] gok_nil nodraw ?_; refine ⟨_, (by repeat' (first | refine go_T ?_ | refine go_F ?_ | apply go_S | (refine run_go 0 5 17 (by simp [*, flg]; exact Is.mk) (by simp [*]; exact IsB.mk) ?_) | (simp [*, flg]; exact IsK.mk))), ?_⟩)
      | (refine tri_lastG (id := 5) (C := ⟨[], [], []⟩) [0, 3, 4, 22] [] gok_nil nodraw ?_; refine ⟨_, (by repeat' (first | refine go_T ?_ | refine go_F ?_ | apply go_S | (refine run_go 0 5 17 (by simp [*, flg]; exact Is.mk) (by simp [*]; exact IsB.mk) ?_) | (simp [*, flg]; exact IsK.mk))), ?_⟩)
      | (refine tri_step (id := 6) (C := ⟨[], [], []⟩) [0, 3, 4] [] gok_nil nodraw ?_; refine ⟨_, by (simp [*, flg]; exact Is.mk), ?_⟩)
      | (refine tri_last (id := 6) (C := ⟨[], [], []⟩) [0, 3, 4] [] gok_nil nodraw ?_; refine ⟨_, by (simp [*, flg]; exact Is.mk), ?_⟩)
      | (refine tri_step (id := 7) (C := ⟨[], [], []⟩) [0, 3, 4, 5] [] gok_nil nodraw ?_; refine ⟨_, by (simp [*, flg]; exact Is.mk), ?_⟩)
      | (refine tri_last (id := 7) (C := ⟨[], [], []⟩) [0, 3, 4, 5] [] gok_nil nodraw ?_; refine ⟨_, by (simp [*, flg]; exact Is.mk), ?_⟩)
      | (refine tri_step (id := 8) (C := ⟨[], [], []⟩) [0, 3, 4] [] gok_nil (fun _ => ⟨q_mixed, by kernel_rfl⟩) ?_; refine ⟨_, by (simp [*, flg]; exact Is.mk), ?_⟩)
      | (refine tri_last (id := 8) (C := ⟨[], [], []⟩) [0, 3, 4] [] gok_nil (fun _ => ⟨q_mixed, by kernel_rfl⟩) ?_; refine ⟨_, by (simp [*, flg]; exact Is.mk), ?_⟩)
      | (refine tri_step (id := 9) (C := ⟨[], [], []⟩) [2] [] gok_nil nodraw ?_; refine ⟨_, by (simp [*, flg]; exact Is.mk), ?_⟩)
      | (refine tri_last (id := 9) (C := ⟨[], [], []⟩) [2] [] gok_nil nodraw ?_; refine ⟨_, by (simp [*, flg]; exact Is.mk), ?_⟩)
      | (refine tri_cond (c := .tmp 10) (b_true (by simp; exact IsB.mk)) (fun hc => ?_) (fun hc => ?_))
      | (refine tri_cond (c := .tmp 22) (b_true (by simp; exact IsB.mk)) (fun hc => ?_) (fun hc => ?_))
      | (refine to_mk (by simp; exact IsK.mk))
      | (refine imp_ ?_)
      | ((simp; exact IsK.mk))
      | (refine tri_seq ?_)
      ))
    all_goals (refine post_plainV (P := Tryd.prog) (fn := Tryd.f27) (by simp; exact IsV.mk) rfl ?_)
    all_goals (simp [hn2]; done)
open Classical in
noncomputable def F27 : Fn1
  | [x0] => (dZ x0).bind fun s => if s.size ≤ 100010 then some ((.sl 1 (encI (numsR s)) none), none) else none
  | _ => none
theorem spec27 : Spec1 Tryd.prog 27 F27 := spec_of fun ys r o h => by
  unfold F27 at h
  split at h
  case h_2 => cases h
  obtain ⟨s, k0, h1⟩ := bind_some h
  obtain ⟨hpre, hz⟩ := ite_some h1
  cases hz
  exact ⟨_, at27 s hpre, rfl, le_plain ⟨dZ_co k0, trivial⟩ (by simp only [List.all_cons, List.all_nil, Bool.not_false, Bool.and_self, notRefB (dZ_co k0) rfl (by simp)]) rfl⟩
theorem en27 : Enters Tryd.prog 27 := enters_of Tryd.func27 (by kernel_rfl) rfl

end Go.Proofs.YtkmjoppcecffkaaDoor

-- Printed by genwalk.py.
namespace Go.Proofs.YtkmjoppcecffkaaDoor
open Go Go.RowKit Caw
set_option linter.unusedSimpArgs false
set_option linter.unusedVariables false
set_option maxRecDepth 100000

-- caravel/caravelref04.Addr
theorem g15 : GOk1 Tryd.prog (ctxOf [(17, F17), (29, F29)]) := gok_cons spec17 en17 (gok_cons spec29 en29 (gok_nil))
set_option maxHeartbeats 2000000 in
theorem at15 (a : Caw.Addr) (hpre : LowA a) : SpecAt Tryd.prog 15 [.agg (addrCells a)] (.v (.string (writeA a))) none := by
  obtain ⟨w1, w2, w3⟩ := writeA_facts hpre
  obtain ⟨h0, p0, p1⟩ := hpre
  have q1 : a.port < 100000 := by omega
  have hp : pIp [AV.v (.int .u8 a.a), .v (.int .u8 a.b), .v (.int .u8 a.c), .v (.int .u8 a.d)] = some (ipOf a, []) := pIp_all (ipOf a)
  refine specAt_of_tri Tryd.func15 rfl (Nat.le_of_ble_eq_true rfl) ?_
  all_goals (repeat' (first
      | (refine tri_condT (b_true (by simp; with_reducible exact IsB.mk)) ?_)
      | (refine tri_condF (b_true (by simp; with_reducible exact IsB.mk)) ?_)
      | (refine tri_skipT ?_)
      | (refine tri_skip ?_)
      | (refine then_to ?_)
      | (refine th_n ?_)
      | (refine in_n ?_)
      | (refine in_e ?_)
      | (refine in_x rfl ?_)
      | (refine th_e ?_)
      | (refine th_r ?_)
      | (refine in_r ?_)
      | (refine tri_ret ?_)
      | (refine tri_exit ?_)
      | (refine tri_block ?_)
      | (refine tri_step (id := 0) (C := ⟨[], [], [(3, (2, 0, 0)), (7, (2, 0, 0))]⟩) [1] [(2, 0, 0)] g15 nodraw ?_; refine ⟨_, by (simp [*, F17, F29, addrCells, dd_fold, flg]; exact Is.mk), ?_⟩)
      | (refine tri_last (id := 0) (C := ⟨[], [], [(3, (2, 0, 0)), (7, (2, 0, 0))]⟩) [1] [(2, 0, 0)] g15 nodraw ?_; refine ⟨_, by (simp [*, F17, F29, addrCells, dd_fold, flg]; exact Is.mk), ?_⟩)
      | (refine tri_step (id := 1) (C := ⟨[], [], [(3, (2, 0, 0)), (7, (2, 0, 0))]⟩) [2] [] g15 (fun _ => ⟨q_mixed, by kernel_rfl⟩) ?_; refine ⟨_, by (simp [*, F17, F29, addrCells, dd_fold, flg]; exact Is.mk), ?_⟩)
      | (refine tri_last (id := 1) (C := ⟨[], [], [(3, (2, 0, 0)), (7, (2, 0, 0))]⟩) [2] [] g15 (fun _ => ⟨q_mixed, by kernel_rfl⟩) ?_; refine ⟨_, by (simp [*, F17, F29, addrCells, dd_fold, flg]; exact Is.mk), ?_⟩)
      | (refine to_mk (by simp; exact IsK.mk))
      | (refine imp_ ?_)
      | ((simp; exact IsK.mk))
      | (refine tri_seq ?_)
      ))
  all_goals (refine post_plainV (P := Tryd.prog) (fn := Tryd.f15) (by simp; exact IsV.mk) rfl ?_)
  all_goals (first | (simp [F17, F29, addrCells, dd_fold, flg, writeA]; done) | (simp [*, F17, F29, addrCells, dd_fold, flg, writeA]; done) | (simp_all [F17, F29, addrCells, dd_fold, flg, writeA]; done) | (simp [F17, F29, addrCells, dd_fold, flg, writeA] <;> (repeat' split) <;> simp_all; done) | (simp [F17, F29, addrCells, dd_fold, flg, writeA] <;> (repeat' split) <;> simp_all [Bool.and_assoc] <;> grind [List.length_eq_zero_iff, sendCells_co, recvCells_co, pieceCells_co, connCells_co, segCells_co, clockCells_co]))
open Classical in
noncomputable def F15 : Fn1
  | [x0] => (whole pAddr x0).bind fun a => if LowA a then some ((.v (.string (writeA a))), none) else none
  | _ => none
theorem spec15 : Spec1 Tryd.prog 15 F15 := spec_of fun ys r o h => by
  unfold F15 at h
  split at h
  case h_2 => cases h
  obtain ⟨a, k0, h1⟩ := bind_some h
  obtain ⟨hpre, hz⟩ := ite_some h1
  cases hz
  exact ⟨_, at15 a hpre, rfl, le_plain ⟨whole_co pAddr_snd k0, trivial⟩ (by simp only [List.all_cons, List.all_nil, Bool.not_false, Bool.and_self, notRefB (whole_co pAddr_snd k0) rfl (by simp)]) rfl⟩
theorem en15 : Enters Tryd.prog 15 := enters_of Tryd.func15 (by kernel_rfl) rfl

-- caravel/caravelref04.Read
theorem g11 : GOk1 Tryd.prog (ctxOf [(27, F27), (15, F15)]) := gok_cons spec27 en27 (gok_cons spec15 en15 (gok_nil))
set_option maxHeartbeats 4000000 in
theorem at11 (s : ByteArray) (hpre : s.size ≤ 100010) : SpecAt Tryd.prog 11 [.v (.string s)] (.tup [.agg (addrCells (readA s).1), .v (.int .i64 (readA s).2)]) none := by
  have lo := docA_low s
  rcases readA_docB s with ⟨k1, k2⟩ | ⟨n0, n1, n2, n3, n4, e, hd, hh⟩
  · have k3 : ((((numsR s).length : Nat) : Int) != 5) = true := by simp; omega
    refine specAt_of_tri Tryd.func11 rfl (Nat.le_of_ble_eq_true rfl) ?_
    all_goals (repeat' (first
      | (refine tri_condT (b_true (by simp; with_reducible exact IsB.mk)) ?_)
      | (refine tri_condF (b_true (by simp; with_reducible exact IsB.mk)) ?_)
      | (refine tri_skipT ?_)
      | (refine tri_skip ?_)
      | (refine then_to ?_)
      | (refine th_n ?_)
      | (refine in_n ?_)
      | (refine in_e ?_)
      | (refine in_x rfl ?_)
      | (refine th_e ?_)
      | (refine th_r ?_)
      | (refine in_r ?_)
      | (refine tri_ret ?_)
      | (refine tri_exit ?_)
      | (refine tri_block ?_)
      | (refine tri_step (id := 0) (C := ⟨[], [], [(5, (6, 0, 0))]⟩) [0, 2] [(3, 0, 0)] g11 nodraw ?_; refine ⟨_, by (simp [*, F27, F15, encI, flg]; exact Is.mk), ?_⟩)
      | (refine tri_last (id := 0) (C := ⟨[], [], [(5, (6, 0, 0))]⟩) [0, 2] [(3, 0, 0)] g11 nodraw ?_; refine ⟨_, by (simp [*, F27, F15, encI, flg]; exact Is.mk), ?_⟩)
      | (refine tri_step (id := 1) (C := ⟨[], [], [(5, (6, 0, 0))]⟩) [0, 2, 4] [(3, 0, 0)] g11 nodraw ?_; refine ⟨_, by (simp [*, F27, F15, encI, flg]; exact Is.mk), ?_⟩)
      | (refine tri_last (id := 1) (C := ⟨[], [], [(5, (6, 0, 0))]⟩) [0, 2, 4] [(3, 0, 0)] g11 nodraw ?_; refine ⟨_, by (simp [*, F27, F15, encI, flg]; exact Is.mk), ?_⟩)
      | (refine tri_step (id := 2) (C := ⟨[], [], [(5, (6, 0, 0))]⟩) [0, 2, 4, 10] [(3, 0, 0)] g11 nodraw ?_; refine ⟨_, by (simp [*, F27, F15, encI, flg]; exact Is.mk), ?_⟩)
      | (refine tri_last (id := 2) (C := ⟨[], [], [(5, (6, 0, 0))]⟩) [0, 2, 4, 10] [(3, 0, 0)] g11 nodraw ?_; refine ⟨_, by (simp [*, F27, F15, encI, flg]; exact Is.mk), ?_⟩)
      | (refine tri_step (id := 3) (C := ⟨[], [], [(5, (6, 0, 0))]⟩) [2, 3] [(3, 0, 0)] g11 nodraw ?_; refine ⟨_, by (simp [*, F27, F15, encI, flg]; exact Is.mk), ?_⟩)
      | (refine tri_last (id := 3) (C := ⟨[], [], [(5, (6, 0, 0))]⟩) [2, 3] [(3, 0, 0)] g11 nodraw ?_; refine ⟨_, by (simp [*, F27, F15, encI, flg]; exact Is.mk), ?_⟩)
      | (refine tri_step (id := 4) (C := ⟨[], [], [(5, (6, 0, 0))]⟩) [0, 2, 5] [(3, 0, 0), (6, 0, 0)] g11 (fun _ => ⟨q_mixed, by kernel_rfl⟩) ?_; refine ⟨_, by (simp [*, F27, F15, encI, flg]; exact Is.mk), ?_⟩)
      | (refine tri_last (id := 4) (C := ⟨[], [], [(5, (6, 0, 0))]⟩) [0, 2, 5] [(3, 0, 0), (6, 0, 0)] g11 (fun _ => ⟨q_mixed, by kernel_rfl⟩) ?_; refine ⟨_, by (simp [*, F27, F15, encI, flg]; exact Is.mk), ?_⟩)
      | (refine tri_step (id := 5) (C := ⟨[], [], [(5, (6, 0, 0))]⟩) [2, 5, 37] [(3, 0, 0), (6, 0, 0)] g11 nodraw ?_; refine ⟨_, by (simp [*, F27, F15, encI, flg]; exact Is.mk), ?_⟩)
      | (refine tri_last (id := 5) (C := ⟨[], [], [(5, (6, 0, 0))]⟩) [2, 5, 37] [(3, 0, 0), (6, 0, 0)] g11 nodraw ?_; refine ⟨_, by (simp [*, F27, F15, encI, flg]; exact Is.mk), ?_⟩)
      | (refine tri_step (id := 6) (C := ⟨[], [], [(5, (6, 0, 0))]⟩) [2, 3] [(3, 0, 0)] g11 nodraw ?_; refine ⟨_, by (simp [*, F27, F15, encI, flg]; exact Is.mk), ?_⟩)
      | (refine tri_last (id := 6) (C := ⟨[], [], [(5, (6, 0, 0))]⟩) [2, 3] [(3, 0, 0)] g11 nodraw ?_; refine ⟨_, by (simp [*, F27, F15, encI, flg]; exact Is.mk), ?_⟩)
      | (refine tri_step (id := 7) (C := ⟨[], [], [(5, (6, 0, 0))]⟩) [2, 3] [(3, 0, 0)] g11 nodraw ?_; refine ⟨_, by (simp [*, F27, F15, encI, flg]; exact Is.mk), ?_⟩)
      | (refine tri_last (id := 7) (C := ⟨[], [], [(5, (6, 0, 0))]⟩) [2, 3] [(3, 0, 0)] g11 nodraw ?_; refine ⟨_, by (simp [*, F27, F15, encI, flg]; exact Is.mk), ?_⟩)
      | (refine tri_cond (c := .tmp 10) (b_true (by simp; exact IsB.mk)) (fun hc => ?_) (fun hc => ?_))
      | (refine tri_cond (c := .tmp 37) (b_true (by simp; exact IsB.mk)) (fun hc => ?_) (fun hc => ?_))
      | (refine to_mk (by simp; exact IsK.mk))
      | (refine imp_ ?_)
      | ((simp; exact IsK.mk))
      | (refine tri_seq ?_)
      ))
    all_goals (refine post_plainV (P := Tryd.prog) (fn := Tryd.f11) (by simp; exact IsV.mk) rfl ?_)
    all_goals (simp [k2, addr0, addrCells]; done)
  · have ha : pAddr [AV.v (.int .u8 (IntKind.wrap .u8 n0)), .v (.int .u8 (IntKind.wrap .u8 n1)), .v (.int .u8 (IntKind.wrap .u8 n2)), .v (.int .u8 (IntKind.wrap .u8 n3)), .v (.int .u16 (IntKind.wrap .u16 n4))] = some (docA s, []) := by rw [hd]; exact pAddr_all ⟨IntKind.wrap .u8 n0, IntKind.wrap .u8 n1, IntKind.wrap .u8 n2, IntKind.wrap .u8 n3, IntKind.wrap .u16 n4⟩
    rcases hh with ⟨k1, k2⟩ | ⟨k1, k2⟩
    · clear hd
      refine specAt_of_tri Tryd.func11 rfl (Nat.le_of_ble_eq_true rfl) ?_
      all_goals (repeat' (first
      | (refine tri_condT (b_true (by simp; with_reducible exact IsB.mk)) ?_)
      | (refine tri_condF (b_true (by simp; with_reducible exact IsB.mk)) ?_)
      | (refine tri_skipT ?_)
      | (refine tri_skip ?_)
      | (refine then_to ?_)
      | (refine th_n ?_)
      | (refine in_n ?_)
      | (refine in_e ?_)
      | (refine in_x rfl ?_)
      | (refine th_e ?_)
      | (refine th_r ?_)
      | (refine in_r ?_)
      | (refine tri_ret ?_)
      | (refine tri_exit ?_)
      | (refine tri_block ?_)
      | (refine tri_step (id := 0) (C := ⟨[], [], [(5, (6, 0, 0))]⟩) [0, 2] [(3, 0, 0)] g11 nodraw ?_; refine ⟨_, by (simp [*, F27, F15, encI, flg]; exact Is.mk), ?_⟩)
      | (refine tri_last (id := 0) (C := ⟨[], [], [(5, (6, 0, 0))]⟩) [0, 2] [(3, 0, 0)] g11 nodraw ?_; refine ⟨_, by (simp [*, F27, F15, encI, flg]; exact Is.mk), ?_⟩)
      | (refine tri_step (id := 1) (C := ⟨[], [], [(5, (6, 0, 0))]⟩) [0, 2, 4] [(3, 0, 0)] g11 nodraw ?_; refine ⟨_, by (simp [*, F27, F15, encI, flg]; exact Is.mk), ?_⟩)
      | (refine tri_last (id := 1) (C := ⟨[], [], [(5, (6, 0, 0))]⟩) [0, 2, 4] [(3, 0, 0)] g11 nodraw ?_; refine ⟨_, by (simp [*, F27, F15, encI, flg]; exact Is.mk), ?_⟩)
      | (refine tri_step (id := 2) (C := ⟨[], [], [(5, (6, 0, 0))]⟩) [0, 2, 4, 10] [(3, 0, 0)] g11 nodraw ?_; refine ⟨_, by (simp [*, F27, F15, encI, flg]; exact Is.mk), ?_⟩)
      | (refine tri_last (id := 2) (C := ⟨[], [], [(5, (6, 0, 0))]⟩) [0, 2, 4, 10] [(3, 0, 0)] g11 nodraw ?_; refine ⟨_, by (simp [*, F27, F15, encI, flg]; exact Is.mk), ?_⟩)
      | (refine tri_step (id := 3) (C := ⟨[], [], [(5, (6, 0, 0))]⟩) [2, 3] [(3, 0, 0)] g11 nodraw ?_; refine ⟨_, by (simp [*, F27, F15, encI, flg]; exact Is.mk), ?_⟩)
      | (refine tri_last (id := 3) (C := ⟨[], [], [(5, (6, 0, 0))]⟩) [2, 3] [(3, 0, 0)] g11 nodraw ?_; refine ⟨_, by (simp [*, F27, F15, encI, flg]; exact Is.mk), ?_⟩)
      | (refine tri_step (id := 4) (C := ⟨[], [], [(5, (6, 0, 0))]⟩) [0, 2, 5] [(3, 0, 0), (6, 0, 0)] g11 (fun _ => ⟨q_mixed, by kernel_rfl⟩) ?_; refine ⟨_, by (simp [*, F27, F15, encI, flg]; exact Is.mk), ?_⟩)
      | (refine tri_last (id := 4) (C := ⟨[], [], [(5, (6, 0, 0))]⟩) [0, 2, 5] [(3, 0, 0), (6, 0, 0)] g11 (fun _ => ⟨q_mixed, by kernel_rfl⟩) ?_; refine ⟨_, by (simp [*, F27, F15, encI, flg]; exact Is.mk), ?_⟩)
      | (refine tri_step (id := 5) (C := ⟨[], [], [(5, (6, 0, 0))]⟩) [2, 5, 37] [(3, 0, 0), (6, 0, 0)] g11 nodraw ?_; refine ⟨_, by (simp [*, F27, F15, encI, flg]; exact Is.mk), ?_⟩)
      | (refine tri_last (id := 5) (C := ⟨[], [], [(5, (6, 0, 0))]⟩) [2, 5, 37] [(3, 0, 0), (6, 0, 0)] g11 nodraw ?_; refine ⟨_, by (simp [*, F27, F15, encI, flg]; exact Is.mk), ?_⟩)
      | (refine tri_step (id := 6) (C := ⟨[], [], [(5, (6, 0, 0))]⟩) [2, 3] [(3, 0, 0)] g11 nodraw ?_; refine ⟨_, by (simp [*, F27, F15, encI, flg]; exact Is.mk), ?_⟩)
      | (refine tri_last (id := 6) (C := ⟨[], [], [(5, (6, 0, 0))]⟩) [2, 3] [(3, 0, 0)] g11 nodraw ?_; refine ⟨_, by (simp [*, F27, F15, encI, flg]; exact Is.mk), ?_⟩)
      | (refine tri_step (id := 7) (C := ⟨[], [], [(5, (6, 0, 0))]⟩) [2, 3] [(3, 0, 0)] g11 nodraw ?_; refine ⟨_, by (simp [*, F27, F15, encI, flg]; exact Is.mk), ?_⟩)
      | (refine tri_last (id := 7) (C := ⟨[], [], [(5, (6, 0, 0))]⟩) [2, 3] [(3, 0, 0)] g11 nodraw ?_; refine ⟨_, by (simp [*, F27, F15, encI, flg]; exact Is.mk), ?_⟩)
      | (refine tri_cond (c := .tmp 10) (b_true (by simp; exact IsB.mk)) (fun hc => ?_) (fun hc => ?_))
      | (refine tri_cond (c := .tmp 37) (b_true (by simp; exact IsB.mk)) (fun hc => ?_) (fun hc => ?_))
      | (refine to_mk (by simp; exact IsK.mk))
      | (refine imp_ ?_)
      | ((simp; exact IsK.mk))
      | (refine tri_seq ?_)
      ))
      all_goals (refine post_plainV (P := Tryd.prog) (fn := Tryd.f11) (by simp; exact IsV.mk) rfl ?_)
      all_goals (simp [k2, addr0, addrCells]; done)
    · rw [hd] at k2
      clear hd
      refine specAt_of_tri Tryd.func11 rfl (Nat.le_of_ble_eq_true rfl) ?_
      all_goals (repeat' (first
      | (refine tri_condT (b_true (by simp; with_reducible exact IsB.mk)) ?_)
      | (refine tri_condF (b_true (by simp; with_reducible exact IsB.mk)) ?_)
      | (refine tri_skipT ?_)
      | (refine tri_skip ?_)
      | (refine then_to ?_)
      | (refine th_n ?_)
      | (refine in_n ?_)
      | (refine in_e ?_)
      | (refine in_x rfl ?_)
      | (refine th_e ?_)
      | (refine th_r ?_)
      | (refine in_r ?_)
      | (refine tri_ret ?_)
      | (refine tri_exit ?_)
      | (refine tri_block ?_)
      | (refine tri_step (id := 0) (C := ⟨[], [], [(5, (6, 0, 0))]⟩) [0, 2] [(3, 0, 0)] g11 nodraw ?_; refine ⟨_, by (simp [*, F27, F15, encI, flg]; exact Is.mk), ?_⟩)
      | (refine tri_last (id := 0) (C := ⟨[], [], [(5, (6, 0, 0))]⟩) [0, 2] [(3, 0, 0)] g11 nodraw ?_; refine ⟨_, by (simp [*, F27, F15, encI, flg]; exact Is.mk), ?_⟩)
      | (refine tri_step (id := 1) (C := ⟨[], [], [(5, (6, 0, 0))]⟩) [0, 2, 4] [(3, 0, 0)] g11 nodraw ?_; refine ⟨_, by (simp [*, F27, F15, encI, flg]; exact Is.mk), ?_⟩)
      | (refine tri_last (id := 1) (C := ⟨[], [], [(5, (6, 0, 0))]⟩) [0, 2, 4] [(3, 0, 0)] g11 nodraw ?_; refine ⟨_, by (simp [*, F27, F15, encI, flg]; exact Is.mk), ?_⟩)
      | (refine tri_step (id := 2) (C := ⟨[], [], [(5, (6, 0, 0))]⟩) [0, 2, 4, 10] [(3, 0, 0)] g11 nodraw ?_; refine ⟨_, by (simp [*, F27, F15, encI, flg]; exact Is.mk), ?_⟩)
      | (refine tri_last (id := 2) (C := ⟨[], [], [(5, (6, 0, 0))]⟩) [0, 2, 4, 10] [(3, 0, 0)] g11 nodraw ?_; refine ⟨_, by (simp [*, F27, F15, encI, flg]; exact Is.mk), ?_⟩)
      | (refine tri_step (id := 3) (C := ⟨[], [], [(5, (6, 0, 0))]⟩) [2, 3] [(3, 0, 0)] g11 nodraw ?_; refine ⟨_, by (simp [*, F27, F15, encI, flg]; exact Is.mk), ?_⟩)
      | (refine tri_last (id := 3) (C := ⟨[], [], [(5, (6, 0, 0))]⟩) [2, 3] [(3, 0, 0)] g11 nodraw ?_; refine ⟨_, by (simp [*, F27, F15, encI, flg]; exact Is.mk), ?_⟩)
      | (refine tri_step (id := 4) (C := ⟨[], [], [(5, (6, 0, 0))]⟩) [0, 2, 5] [(3, 0, 0), (6, 0, 0)] g11 (fun _ => ⟨q_mixed, by kernel_rfl⟩) ?_; refine ⟨_, by (simp [*, F27, F15, encI, flg]; exact Is.mk), ?_⟩)
      | (refine tri_last (id := 4) (C := ⟨[], [], [(5, (6, 0, 0))]⟩) [0, 2, 5] [(3, 0, 0), (6, 0, 0)] g11 (fun _ => ⟨q_mixed, by kernel_rfl⟩) ?_; refine ⟨_, by (simp [*, F27, F15, encI, flg]; exact Is.mk), ?_⟩)
      | (refine tri_step (id := 5) (C := ⟨[], [], [(5, (6, 0, 0))]⟩) [2, 5, 37] [(3, 0, 0), (6, 0, 0)] g11 nodraw ?_; refine ⟨_, by (simp [*, F27, F15, encI, flg]; exact Is.mk), ?_⟩)
      | (refine tri_last (id := 5) (C := ⟨[], [], [(5, (6, 0, 0))]⟩) [2, 5, 37] [(3, 0, 0), (6, 0, 0)] g11 nodraw ?_; refine ⟨_, by (simp [*, F27, F15, encI, flg]; exact Is.mk), ?_⟩)
      | (refine tri_step (id := 6) (C := ⟨[], [], [(5, (6, 0, 0))]⟩) [2, 3] [(3, 0, 0)] g11 nodraw ?_; refine ⟨_, by (simp [*, F27, F15, encI, flg]; exact Is.mk), ?_⟩)
      | (refine tri_last (id := 6) (C := ⟨[], [], [(5, (6, 0, 0))]⟩) [2, 3] [(3, 0, 0)] g11 nodraw ?_; refine ⟨_, by (simp [*, F27, F15, encI, flg]; exact Is.mk), ?_⟩)
      | (refine tri_step (id := 7) (C := ⟨[], [], [(5, (6, 0, 0))]⟩) [2, 3] [(3, 0, 0)] g11 nodraw ?_; refine ⟨_, by (simp [*, F27, F15, encI, flg]; exact Is.mk), ?_⟩)
      | (refine tri_last (id := 7) (C := ⟨[], [], [(5, (6, 0, 0))]⟩) [2, 3] [(3, 0, 0)] g11 nodraw ?_; refine ⟨_, by (simp [*, F27, F15, encI, flg]; exact Is.mk), ?_⟩)
      | (refine tri_cond (c := .tmp 10) (b_true (by simp; exact IsB.mk)) (fun hc => ?_) (fun hc => ?_))
      | (refine tri_cond (c := .tmp 37) (b_true (by simp; exact IsB.mk)) (fun hc => ?_) (fun hc => ?_))
      | (refine to_mk (by simp; exact IsK.mk))
      | (refine imp_ ?_)
      | ((simp; exact IsK.mk))
      | (refine tri_seq ?_)
      ))
      all_goals (refine post_plainV (P := Tryd.prog) (fn := Tryd.f11) (by simp; exact IsV.mk) rfl ?_)
      all_goals (simp [k2, addrCells]; done)
open Classical in
noncomputable def F11 : Fn1
  | [x0] => (dZ x0).bind fun s => if s.size ≤ 100010 then some ((.tup [.agg (addrCells (readA s).1), .v (.int .i64 (readA s).2)]), none) else none
  | _ => none
theorem spec11 : Spec1 Tryd.prog 11 F11 := spec_of fun ys r o h => by
  unfold F11 at h
  split at h
  case h_2 => cases h
  obtain ⟨s, k0, h1⟩ := bind_some h
  obtain ⟨hpre, hz⟩ := ite_some h1
  cases hz
  exact ⟨_, at11 s hpre, rfl, le_plain ⟨dZ_co k0, trivial⟩ (by simp only [List.all_cons, List.all_nil, Bool.not_false, Bool.and_self, notRefB (dZ_co k0) rfl (by simp)]) rfl⟩
theorem en11 : Enters Tryd.prog 11 := enters_of Tryd.func11 (by kernel_rfl) rfl

end Go.Proofs.YtkmjoppcecffkaaDoor

-- Printed by genwalk.py.
namespace Go.Proofs.YtkmjoppcecffkaaDoor
open Go Go.RowKit Caw
set_option linter.unusedSimpArgs false
set_option linter.unusedVariables false
set_option maxRecDepth 100000

-- caravel/caravelref04.ReadIP
theorem g13 : GOk1 Tryd.prog (ctxOf [(11, F11)]) := gok_cons spec11 en11 (gok_nil)
set_option maxHeartbeats 4000000 in
theorem at13 (s : ByteArray) (hpre : s.size ≤ 100000) : SpecAt Tryd.prog 13 [.v (.string s)] (.tup [.agg (ipCells (readIP s).1), .v (.int .i64 (readIP s).2)]) none := by
  obtain ⟨d1, d2⟩ := readIP_doc s
  have hz : (⟨#[58, 48]⟩ : ByteArray).size = 2 := rfl
  have z1 : s.size + (⟨#[58, 48]⟩ : ByteArray).size ≤ 4611686018427387904 := by rw [hz]; omega
  have z2 : s.size + (⟨#[58, 48]⟩ : ByteArray).size ≤ 100010 := by rw [hz]; omega
  have z3 : (s ++ ⟨#[58, 48]⟩).size ≤ 100010 := by rw [ByteArray.size_append]; exact z2
  have z4 : s.size ≤ 4611686018427387902 := by omega
  have z5 : s.size ≤ 100008 := by omega
  generalize hr : readA (s ++ ⟨#[58, 48]⟩) = r at *
  obtain ⟨a, e⟩ := r
  simp only at d1 d2
  have hc1 : cut (addrCells a) 0 4 = ipCells (ipOf a) := rfl
  refine specAt_of_tri Tryd.func13 rfl (Nat.le_of_ble_eq_true rfl) ?_
  all_goals (repeat' (first
      | (refine tri_condT (b_true (by simp; with_reducible exact IsB.mk)) ?_)
      | (refine tri_condF (b_true (by simp; with_reducible exact IsB.mk)) ?_)
      | (refine tri_skipT ?_)
      | (refine tri_skip ?_)
      | (refine then_to ?_)
      | (refine th_n ?_)
      | (refine in_n ?_)
      | (refine in_e ?_)
      | (refine in_x rfl ?_)
      | (refine th_e ?_)
      | (refine th_r ?_)
      | (refine in_r ?_)
      | (refine tri_ret ?_)
      | (refine tri_exit ?_)
      | (refine tri_block ?_)
      | (refine tri_step (id := 0) (C := ⟨[], [], []⟩) [0, 2] [(3, 0, 0)] g13 nodraw ?_; refine ⟨_, by (simp [*, F11, flg]; exact Is.mk), ?_⟩)
      | (refine tri_last (id := 0) (C := ⟨[], [], []⟩) [0, 2] [(3, 0, 0)] g13 nodraw ?_; refine ⟨_, by (simp [*, F11, flg]; exact Is.mk), ?_⟩)
      | (refine tri_step (id := 1) (C := ⟨[], [], []⟩) [2, 4, 5] [(3, 0, 0), (5, 0, 0)] g13 nodraw ?_; refine ⟨_, by (simp [*, F11, flg]; exact Is.mk), ?_⟩)
      | (refine tri_last (id := 1) (C := ⟨[], [], []⟩) [2, 4, 5] [(3, 0, 0), (5, 0, 0)] g13 nodraw ?_; refine ⟨_, by (simp [*, F11, flg]; exact Is.mk), ?_⟩)
      | (refine tri_step (id := 2) (C := ⟨[], [], []⟩) [2, 3] [(3, 0, 0)] g13 nodraw ?_; refine ⟨_, by (simp [*, F11, flg]; exact Is.mk), ?_⟩)
      | (refine tri_last (id := 2) (C := ⟨[], [], []⟩) [2, 3] [(3, 0, 0)] g13 nodraw ?_; refine ⟨_, by (simp [*, F11, flg]; exact Is.mk), ?_⟩)
      | (refine to_mk (by simp; exact IsK.mk))
      | (refine imp_ ?_)
      | ((simp; exact IsK.mk))
      | (refine tri_seq ?_)
      ))
  all_goals (refine post_plainV (P := Tryd.prog) (fn := Tryd.f13) (by simp; exact IsV.mk) rfl ?_)
  all_goals (simp [← d1, ← d2]; done)
open Classical in
noncomputable def F13 : Fn1
  | [x0] => (dZ x0).bind fun s => if s.size ≤ 100000 then some ((.tup [.agg (ipCells (readIP s).1), .v (.int .i64 (readIP s).2)]), none) else none
  | _ => none
theorem spec13 : Spec1 Tryd.prog 13 F13 := spec_of fun ys r o h => by
  unfold F13 at h
  split at h
  case h_2 => cases h
  obtain ⟨s, k0, h1⟩ := bind_some h
  obtain ⟨hpre, hz⟩ := ite_some h1
  cases hz
  exact ⟨_, at13 s hpre, rfl, le_plain ⟨dZ_co k0, trivial⟩ (by simp only [List.all_cons, List.all_nil, Bool.not_false, Bool.and_self, notRefB (dZ_co k0) rfl (by simp)]) rfl⟩
theorem en13 : Enters Tryd.prog 13 := enters_of Tryd.func13 (by kernel_rfl) rfl

end Go.Proofs.YtkmjoppcecffkaaDoor

-- Printed by genwalk.py.
namespace Go.Proofs.YtkmjoppcecffkaaDoor
open Go Go.RowKit Caw
set_option linter.unusedSimpArgs false
set_option linter.unusedVariables false
set_option maxRecDepth 100000

-- caravel/caravellaw04.AddrHosts
theorem g3 : GOk1 Tryd.prog (ctxOf [(9, F9), (10, F10), (11, F11), (12, F12), (13, F13), (14, F14), (15, F15), (16, F16), (17, F17)]) := gok_cons spec9 en9 (gok_cons spec10 en10 (gok_cons spec11 en11 (gok_cons spec12 en12 (gok_cons spec13 en13 (gok_cons spec14 en14 (gok_cons spec15 en15 (gok_cons spec16 en16 (gok_cons spec17 en17 (gok_nil)))))))))
set_option maxHeartbeats 8000000 in
theorem at3 (a : Caw.Addr) (s : ByteArray) (hpre : LowA a) : SpecAt Tryd.prog 3 [.agg (addrCells a), .v (.string s)] (.v (.bool true)) none := by
  have ha1 : pAddr [AV.v (.int .u8 a.a), .v (.int .u8 a.b), .v (.int .u8 a.c), .v (.int .u8 a.d), .v (.int .u16 a.port)] = some (a, []) := pAddr_all a
  have hp : pIp [AV.v (.int .u8 a.a), .v (.int .u8 a.b), .v (.int .u8 a.c), .v (.int .u8 a.d)] = some (ipOf a, []) := pIp_all (ipOf a)
  have ip1 := hpre.ip
  have hc1 : cut (addrCells a) 0 4 = ipCells (ipOf a) := rfl
  have i1 : (ipOf a).a = a.a := rfl
  have i2 : (ipOf a).b = a.b := rfl
  have i3 : (ipOf a).c = a.c := rfl
  have i4 : (ipOf a).d = a.d := rfl
  by_cases hl : 100 < ((s.size : Nat) : Int)
  · refine specAt_of_tri Tryd.func3 rfl (Nat.le_of_ble_eq_true rfl) ?_
    all_goals (repeat' (first
      | (refine tri_condT (b_true (by simp; with_reducible exact IsB.mk)) ?_)
      | (refine tri_condF (b_true (by simp; with_reducible exact IsB.mk)) ?_)
      | (refine tri_skipT ?_)
      | (refine tri_skip ?_)
      | (refine then_to ?_)
      | (refine th_n ?_)
      | (refine in_n ?_)
      | (refine in_e ?_)
      | (refine in_x rfl ?_)
      | (refine th_e ?_)
      | (refine th_r ?_)
      | (refine in_r ?_)
      | (refine tri_ret ?_)
      | (refine tri_exit ?_)
      | (refine tri_block ?_)
      | (refine tri_step (id := 0) (C := ⟨[], [], [(2, (3, 0, 0)), (5, (6, 0, 0)), (7, (8, 0, 0)), (9, (10, 0, 0)), (11, (12, 0, 0)), (47, (3, 0, 0)), (50, (3, 0, 0))]⟩) [1, 2] [(3, 0, 0)] g3 nodraw ?_; refine ⟨_, by (simp [*, F9, F10, F11, F12, F13, F14, F15, F16, F17, encIp, encAddr, flg]; exact Is.mk), ?_⟩)
      | (refine tri_last (id := 0) (C := ⟨[], [], [(2, (3, 0, 0)), (5, (6, 0, 0)), (7, (8, 0, 0)), (9, (10, 0, 0)), (11, (12, 0, 0)), (47, (3, 0, 0)), (50, (3, 0, 0))]⟩) [1, 2] [(3, 0, 0)] g3 nodraw ?_; refine ⟨_, by (simp [*, F9, F10, F11, F12, F13, F14, F15, F16, F17, encIp, encAddr, flg]; exact Is.mk), ?_⟩)
      | (refine tri_stepG (id := 1) (C := ⟨[], [], [(2, (3, 0, 0)), (5, (6, 0, 0)), (7, (8, 0, 0)), (9, (10, 0, 0)), (11, (12, 0, 0)), (47, (3, 0, 0)), (50, (3, 0, 0))]⟩) [1, 2, 19] [(3, 0, 0)] g3 nodraw ?_; refine ⟨_, (by repeat' (first | refine go_T ?_ | refine go_F ?_ | apply go_S | (refine run_go 0 3 15 (by simp [*, F9, F10, F11, F12, F13, F14, F15, F16, F17, encIp, encAddr, flg]; exact Is.mk) (by simp [*]; exact IsB.mk) ?_) | (simp [*, F9, F10, F11, F12, F13, F14, F15, F16, F17, encIp, encAddr, flg]; exact IsK.mk))), ?_⟩)
      | (refine tri_lastG (id := 1) (C := ⟨[], [], [(2, (3, 0, 0)), (5, (6, 0, 0)), (7, (8, 0, 0)), (9, (10, 0, 0)), (11, (12, 0, 0)), (47, (3, 0, 0)), (50, (3, 0, 0))]⟩) [1, 2, 19] [(3, 0, 0)] g3 nodraw ?_; refine ⟨_, (by repeat' (first | refine go_T ?_ | refine go_F ?_ | apply go_S | (refine run_go 0 3 15 (by simp [*, F9, F10, F11, F12, F13, F14, F15, F16, F17, encIp, encAddr, flg]; exact Is.mk) (by simp [*]; exact IsB.mk) ?_) | (simp [*, F9, F10, F11, F12, F13, F14, F15, F16, F17, encIp, encAddr, flg]; exact IsK.mk))), ?_⟩)
      | (refine tri_step (id := 2) (C := ⟨[], [], [(2, (3, 0, 0)), (5, (6, 0, 0)), (7, (8, 0, 0)), (9, (10, 0, 0)), (11, (12, 0, 0)), (47, (3, 0, 0)), (50, (3, 0, 0))]⟩) [4] [] g3 nodraw ?_; refine ⟨_, by (simp [*, F9, F10, F11, F12, F13, F14, F15, F16, F17, encIp, encAddr, flg]; exact Is.mk), ?_⟩)
      | (refine tri_last (id := 2) (C := ⟨[], [], [(2, (3, 0, 0)), (5, (6, 0, 0)), (7, (8, 0, 0)), (9, (10, 0, 0)), (11, (12, 0, 0)), (47, (3, 0, 0)), (50, (3, 0, 0))]⟩) [4] [] g3 nodraw ?_; refine ⟨_, by (simp [*, F9, F10, F11, F12, F13, F14, F15, F16, F17, encIp, encAddr, flg]; exact Is.mk), ?_⟩)
      | (refine tri_step (id := 3) (C := ⟨[], [], [(2, (3, 0, 0)), (5, (6, 0, 0)), (7, (8, 0, 0)), (9, (10, 0, 0)), (11, (12, 0, 0)), (47, (3, 0, 0)), (50, (3, 0, 0))]⟩) [1, 2, 5, 6] [(3, 0, 0), (6, 0, 0)] g3 nodraw ?_; refine ⟨_, by (simp [*, F9, F10, F11, F12, F13, F14, F15, F16, F17, encIp, encAddr, flg]; exact Is.mk), ?_⟩)
      | (refine tri_last (id := 3) (C := ⟨[], [], [(2, (3, 0, 0)), (5, (6, 0, 0)), (7, (8, 0, 0)), (9, (10, 0, 0)), (11, (12, 0, 0)), (47, (3, 0, 0)), (50, (3, 0, 0))]⟩) [1, 2, 5, 6] [(3, 0, 0), (6, 0, 0)] g3 nodraw ?_; refine ⟨_, by (simp [*, F9, F10, F11, F12, F13, F14, F15, F16, F17, encIp, encAddr, flg]; exact Is.mk), ?_⟩)
      | (refine tri_step (id := 4) (C := ⟨[], [], [(2, (3, 0, 0)), (5, (6, 0, 0)), (7, (8, 0, 0)), (9, (10, 0, 0)), (11, (12, 0, 0)), (47, (3, 0, 0)), (50, (3, 0, 0))]⟩) [1, 2, 5, 6, 7, 8] [(3, 0, 0), (6, 0, 0), (8, 0, 0)] g3 nodraw ?_; refine ⟨_, by (simp [*, F9, F10, F11, F12, F13, F14, F15, F16, F17, encIp, encAddr, flg]; exact Is.mk), ?_⟩)
      | (refine tri_last (id := 4) (C := ⟨[], [], [(2, (3, 0, 0)), (5, (6, 0, 0)), (7, (8, 0, 0)), (9, (10, 0, 0)), (11, (12, 0, 0)), (47, (3, 0, 0)), (50, (3, 0, 0))]⟩) [1, 2, 5, 6, 7, 8] [(3, 0, 0), (6, 0, 0), (8, 0, 0)] g3 nodraw ?_; refine ⟨_, by (simp [*, F9, F10, F11, F12, F13, F14, F15, F16, F17, encIp, encAddr, flg]; exact Is.mk), ?_⟩)
      | (refine tri_step (id := 5) (C := ⟨[], [], [(2, (3, 0, 0)), (5, (6, 0, 0)), (7, (8, 0, 0)), (9, (10, 0, 0)), (11, (12, 0, 0)), (47, (3, 0, 0)), (50, (3, 0, 0))]⟩) [1, 2, 5, 6, 7, 8, 9, 10] [(3, 0, 0), (6, 0, 0), (8, 0, 0), (10, 0, 0)] g3 nodraw ?_; refine ⟨_, by (simp [*, F9, F10, F11, F12, F13, F14, F15, F16, F17, encIp, encAddr, flg]; exact Is.mk), ?_⟩)
      | (refine tri_last (id := 5) (C := ⟨[], [], [(2, (3, 0, 0)), (5, (6, 0, 0)), (7, (8, 0, 0)), (9, (10, 0, 0)), (11, (12, 0, 0)), (47, (3, 0, 0)), (50, (3, 0, 0))]⟩) [1, 2, 5, 6, 7, 8, 9, 10] [(3, 0, 0), (6, 0, 0), (8, 0, 0), (10, 0, 0)] g3 nodraw ?_; refine ⟨_, by (simp [*, F9, F10, F11, F12, F13, F14, F15, F16, F17, encIp, encAddr, flg]; exact Is.mk), ?_⟩)
      | (refine tri_step (id := 6) (C := ⟨[], [], [(2, (3, 0, 0)), (5, (6, 0, 0)), (7, (8, 0, 0)), (9, (10, 0, 0)), (11, (12, 0, 0)), (47, (3, 0, 0)), (50, (3, 0, 0))]⟩) [2, 5, 6, 7, 8, 9, 10, 11, 12] [(3, 0, 0), (6, 0, 0), (8, 0, 0), (10, 0, 0), (12, 0, 0)] g3 nodraw ?_; refine ⟨_, by (simp [*, F9, F10, F11, F12, F13, F14, F15, F16, F17, encIp, encAddr, flg]; exact Is.mk), ?_⟩)
      | (refine tri_last (id := 6) (C := ⟨[], [], [(2, (3, 0, 0)), (5, (6, 0, 0)), (7, (8, 0, 0)), (9, (10, 0, 0)), (11, (12, 0, 0)), (47, (3, 0, 0)), (50, (3, 0, 0))]⟩) [2, 5, 6, 7, 8, 9, 10, 11, 12] [(3, 0, 0), (6, 0, 0), (8, 0, 0), (10, 0, 0), (12, 0, 0)] g3 nodraw ?_; refine ⟨_, by (simp [*, F9, F10, F11, F12, F13, F14, F15, F16, F17, encIp, encAddr, flg]; exact Is.mk), ?_⟩)
      | (refine tri_stepG (id := 7) (C := ⟨[], [], [(2, (3, 0, 0)), (5, (6, 0, 0)), (7, (8, 0, 0)), (9, (10, 0, 0)), (11, (12, 0, 0)), (47, (3, 0, 0)), (50, (3, 0, 0))]⟩) [4] [] g3 (fun _ => ⟨q_mixed, by kernel_rfl⟩) ?_; refine ⟨_, (by repeat' (first | refine go_T ?_ | refine go_F ?_ | apply go_S | (refine run_go 0 6 46 (by simp [*, F9, F10, F11, F12, F13, F14, F15, F16, F17, encIp, encAddr, flg]; exact Is.mk) (by simp [*]; exact IsB.mk) ?_) | (refine run_go 0 15 55 (by simp [*, F9, F10, F11, F12, F13, F14, F15, F16, F17, encIp, encAddr, flg]; exact Is.mk) (by simp [*]; exact IsB.mk) ?_) | (refine run_go 0 20 60 (by simp [*, F9, F10, F11, F12, F13, F14, F15, F16, F17, encIp, encAddr, flg]; exact Is.mk) (by simp [*]; exact IsB.mk) ?_) | (refine run_go 0 25 65 (by simp [*, F9, F10, F11, F12, F13, F14, F15, F16, F17, encIp, encAddr, flg]; exact Is.mk) (by simp [*]; exact IsB.mk) ?_) | (refine run_go 0 30 70 (by simp [*, F9, F10, F11, F12, F13, F14, F15, F16, F17, encIp, encAddr, flg]; exact Is.mk) (by simp [*]; exact IsB.mk) ?_) | (refine run_go 6 9 55 (by simp [*, F9, F10, F11, F12, F13, F14, F15, F16, F17, encIp, encAddr, flg]; exact Is.mk) (by simp [*]; exact IsB.mk) ?_) | (refine run_go 6 14 60 (by simp [*, F9, F10, F11, F12, F13, F14, F15, F16, F17, encIp, encAddr, flg]; exact Is.mk) (by simp [*]; exact IsB.mk) ?_) | (refine run_go 6 19 65 (by simp [*, F9, F10, F11, F12, F13, F14, F15, F16, F17, encIp, encAddr, flg]; exact Is.mk) (by simp [*]; exact IsB.mk) ?_) | (refine run_go 6 24 70 (by simp [*, F9, F10, F11, F12, F13, F14, F15, F16, F17, encIp, encAddr, flg]; exact Is.mk) (by simp [*]; exact IsB.mk) ?_) | (refine run_go 15 5 60 (by simp [*, F9, F10, F11, F12, F13, F14, F15, F16, F17, encIp, encAddr, flg]; exact Is.mk) (by simp [*]; exact IsB.mk) ?_) | (refine run_go 15 10 65 (by simp [*, F9, F10, F11, F12, F13, F14, F15, F16, F17, encIp, encAddr, flg]; exact Is.mk) (by simp [*]; exact IsB.mk) ?_) | (refine run_go 15 15 70 (by simp [*, F9, F10, F11, F12, F13, F14, F15, F16, F17, encIp, encAddr, flg]; exact Is.mk) (by simp [*]; exact IsB.mk) ?_) | (refine run_go 20 5 65 (by simp [*, F9, F10, F11, F12, F13, F14, F15, F16, F17, encIp, encAddr, flg]; exact Is.mk) (by simp [*]; exact IsB.mk) ?_) | (refine run_go 20 10 70 (by simp [*, F9, F10, F11, F12, F13, F14, F15, F16, F17, encIp, encAddr, flg]; exact Is.mk) (by simp [*]; exact IsB.mk) ?_) | (refine run_go 25 5 70 (by simp [*, F9, F10, F11, F12, F13, F14, F15, F16, F17, encIp, encAddr, flg]; exact Is.mk) (by simp [*]; exact IsB.mk) ?_) | (simp [*, F9, F10, F11, F12, F13, F14, F15, F16, F17, encIp, encAddr, flg]; exact IsK.mk))), ?_⟩)
      | (refine tri_lastG (id := 7) (C := ⟨[], [], [(2, (3, 0, 0)), (5, (6, 0, 0)), (7, (8, 0, 0)), (9, (10, 0, 0)), (11, (12, 0, 0)), (47, (3, 0, 0)), (50, (3, 0, 0))]⟩) [4] [] g3 (fun _ => ⟨q_mixed, by kernel_rfl⟩) ?_; refine ⟨_, (by repeat' (first | refine go_T ?_ | refine go_F ?_ | apply go_S | (refine run_go 0 6 46 (by simp [*, F9, F10, F11, F12, F13, F14, F15, F16, F17, encIp, encAddr, flg]; exact Is.mk) (by simp [*]; exact IsB.mk) ?_) | (refine run_go 0 15 55 (by simp [*, F9, F10, F11, F12, F13, F14, F15, F16, F17, encIp, encAddr, flg]; exact Is.mk) (by simp [*]; exact IsB.mk) ?_) | (refine run_go 0 20 60 (by simp [*, F9, F10, F11, F12, F13, F14, F15, F16, F17, encIp, encAddr, flg]; exact Is.mk) (by simp [*]; exact IsB.mk) ?_) | (refine run_go 0 25 65 (by simp [*, F9, F10, F11, F12, F13, F14, F15, F16, F17, encIp, encAddr, flg]; exact Is.mk) (by simp [*]; exact IsB.mk) ?_) | (refine run_go 0 30 70 (by simp [*, F9, F10, F11, F12, F13, F14, F15, F16, F17, encIp, encAddr, flg]; exact Is.mk) (by simp [*]; exact IsB.mk) ?_) | (refine run_go 6 9 55 (by simp [*, F9, F10, F11, F12, F13, F14, F15, F16, F17, encIp, encAddr, flg]; exact Is.mk) (by simp [*]; exact IsB.mk) ?_) | (refine run_go 6 14 60 (by simp [*, F9, F10, F11, F12, F13, F14, F15, F16, F17, encIp, encAddr, flg]; exact Is.mk) (by simp [*]; exact IsB.mk) ?_) | (refine run_go 6 19 65 (by simp [*, F9, F10, F11, F12, F13, F14, F15, F16, F17, encIp, encAddr, flg]; exact Is.mk) (by simp [*]; exact IsB.mk) ?_) | (refine run_go 6 24 70 (by simp [*, F9, F10, F11, F12, F13, F14, F15, F16, F17, encIp, encAddr, flg]; exact Is.mk) (by simp [*]; exact IsB.mk) ?_) | (refine run_go 15 5 60 (by simp [*, F9, F10, F11, F12, F13, F14, F15, F16, F17, encIp, encAddr, flg]; exact Is.mk) (by simp [*]; exact IsB.mk) ?_) | (refine run_go 15 10 65 (by simp [*, F9, F10, F11, F12, F13, F14, F15, F16, F17, encIp, encAddr, flg]; exact Is.mk) (by simp [*]; exact IsB.mk) ?_) | (refine run_go 15 15 70 (by simp [*, F9, F10, F11, F12, F13, F14, F15, F16, F17, encIp, encAddr, flg]; exact Is.mk) (by simp [*]; exact IsB.mk) ?_) | (refine run_go 20 5 65 (by simp [*, F9, F10, F11, F12, F13, F14, F15, F16, F17, encIp, encAddr, flg]; exact Is.mk) (by simp [*]; exact IsB.mk) ?_) | (refine run_go 20 10 70 (by simp [*, F9, F10, F11, F12, F13, F14, F15, F16, F17, encIp, encAddr, flg]; exact Is.mk) (by simp [*]; exact IsB.mk) ?_) | (refine run_go 25 5 70 (by simp [*, F9, F10, F11, F12, F13, F14, F15, F16, F17, encIp, encAddr, flg]; exact Is.mk) (by simp [*]; exact IsB.mk) ?_) | (simp [*, F9, F10, F11, F12, F13, F14, F15, F16, F17, encIp, encAddr, flg]; exact IsK.mk))), ?_⟩)
      | (refine tri_cond (c := .tmp 19) (b_true (by simp; exact IsB.mk)) (fun hc => ?_) (fun hc => ?_))
      | (refine to_mk (by simp; exact IsK.mk))
      | (refine imp_ ?_)
      | ((simp; exact IsK.mk))
      | (refine tri_seq ?_)
      ))
    all_goals (refine post_plainV (P := Tryd.prog) (fn := Tryd.f3) (by simp; exact IsV.mk) rfl ?_)
    all_goals (first | (simp [F9, F10, F11, F12, F13, F14, F15, F16, F17, encIp, encAddr, flg]; done) | (simp [*, F9, F10, F11, F12, F13, F14, F15, F16, F17, encIp, encAddr, flg]; done) | (simp_all [F9, F10, F11, F12, F13, F14, F15, F16, F17, encIp, encAddr, flg]; done) | (simp [F9, F10, F11, F12, F13, F14, F15, F16, F17, encIp, encAddr, flg] <;> (repeat' split) <;> simp_all; done) | (simp [F9, F10, F11, F12, F13, F14, F15, F16, F17, encIp, encAddr, flg] <;> (repeat' split) <;> simp_all [Bool.and_assoc] <;> grind [List.length_eq_zero_iff, sendCells_co, recvCells_co, pieceCells_co, connCells_co, segCells_co, clockCells_co]))
  · have hs : s.size ≤ 100000 := by omega
    have hs2 : s.size ≤ 100010 := by omega
    generalize hr : readA s = r at *
    obtain ⟨x, e⟩ := r
    generalize hr2 : readIP s = r2 at *
    obtain ⟨y, f⟩ := r2
    refine specAt_of_tri Tryd.func3 rfl (Nat.le_of_ble_eq_true rfl) ?_
    all_goals (repeat' (first
      | (refine tri_condT (b_true (by simp; with_reducible exact IsB.mk)) ?_)
      | (refine tri_condF (b_true (by simp; with_reducible exact IsB.mk)) ?_)
      | (refine tri_skipT ?_)
      | (refine tri_skip ?_)
      | (refine then_to ?_)
      | (refine th_n ?_)
      | (refine in_n ?_)
      | (refine in_e ?_)
      | (refine in_x rfl ?_)
      | (refine th_e ?_)
      | (refine th_r ?_)
      | (refine in_r ?_)
      | (refine tri_ret ?_)
      | (refine tri_exit ?_)
      | (refine tri_block ?_)
      | (refine tri_step (id := 0) (C := ⟨[], [], [(2, (3, 0, 0)), (5, (6, 0, 0)), (7, (8, 0, 0)), (9, (10, 0, 0)), (11, (12, 0, 0)), (47, (3, 0, 0)), (50, (3, 0, 0))]⟩) [1, 2] [(3, 0, 0)] g3 nodraw ?_; refine ⟨_, by (simp [*, F9, F10, F11, F12, F13, F14, F15, F16, F17, encIp, encAddr, flg]; exact Is.mk), ?_⟩)
      | (refine tri_last (id := 0) (C := ⟨[], [], [(2, (3, 0, 0)), (5, (6, 0, 0)), (7, (8, 0, 0)), (9, (10, 0, 0)), (11, (12, 0, 0)), (47, (3, 0, 0)), (50, (3, 0, 0))]⟩) [1, 2] [(3, 0, 0)] g3 nodraw ?_; refine ⟨_, by (simp [*, F9, F10, F11, F12, F13, F14, F15, F16, F17, encIp, encAddr, flg]; exact Is.mk), ?_⟩)
      | (refine tri_stepG (id := 1) (C := ⟨[], [], [(2, (3, 0, 0)), (5, (6, 0, 0)), (7, (8, 0, 0)), (9, (10, 0, 0)), (11, (12, 0, 0)), (47, (3, 0, 0)), (50, (3, 0, 0))]⟩) [1, 2, 19] [(3, 0, 0)] g3 nodraw ?_; refine ⟨_, (by repeat' (first | refine go_T ?_ | refine go_F ?_ | apply go_S | (refine run_go 0 3 15 (by simp [*, F9, F10, F11, F12, F13, F14, F15, F16, F17, encIp, encAddr, flg]; exact Is.mk) (by simp [*]; exact IsB.mk) ?_) | (simp [*, F9, F10, F11, F12, F13, F14, F15, F16, F17, encIp, encAddr, flg]; exact IsK.mk))), ?_⟩)
      | (refine tri_lastG (id := 1) (C := ⟨[], [], [(2, (3, 0, 0)), (5, (6, 0, 0)), (7, (8, 0, 0)), (9, (10, 0, 0)), (11, (12, 0, 0)), (47, (3, 0, 0)), (50, (3, 0, 0))]⟩) [1, 2, 19] [(3, 0, 0)] g3 nodraw ?_; refine ⟨_, (by repeat' (first | refine go_T ?_ | refine go_F ?_ | apply go_S | (refine run_go 0 3 15 (by simp [*, F9, F10, F11, F12, F13, F14, F15, F16, F17, encIp, encAddr, flg]; exact Is.mk) (by simp [*]; exact IsB.mk) ?_) | (simp [*, F9, F10, F11, F12, F13, F14, F15, F16, F17, encIp, encAddr, flg]; exact IsK.mk))), ?_⟩)
      | (refine tri_step (id := 2) (C := ⟨[], [], [(2, (3, 0, 0)), (5, (6, 0, 0)), (7, (8, 0, 0)), (9, (10, 0, 0)), (11, (12, 0, 0)), (47, (3, 0, 0)), (50, (3, 0, 0))]⟩) [4] [] g3 nodraw ?_; refine ⟨_, by (simp [*, F9, F10, F11, F12, F13, F14, F15, F16, F17, encIp, encAddr, flg]; exact Is.mk), ?_⟩)
      | (refine tri_last (id := 2) (C := ⟨[], [], [(2, (3, 0, 0)), (5, (6, 0, 0)), (7, (8, 0, 0)), (9, (10, 0, 0)), (11, (12, 0, 0)), (47, (3, 0, 0)), (50, (3, 0, 0))]⟩) [4] [] g3 nodraw ?_; refine ⟨_, by (simp [*, F9, F10, F11, F12, F13, F14, F15, F16, F17, encIp, encAddr, flg]; exact Is.mk), ?_⟩)
      | (refine tri_step (id := 3) (C := ⟨[], [], [(2, (3, 0, 0)), (5, (6, 0, 0)), (7, (8, 0, 0)), (9, (10, 0, 0)), (11, (12, 0, 0)), (47, (3, 0, 0)), (50, (3, 0, 0))]⟩) [1, 2, 5, 6] [(3, 0, 0), (6, 0, 0)] g3 nodraw ?_; refine ⟨_, by (simp [*, F9, F10, F11, F12, F13, F14, F15, F16, F17, encIp, encAddr, flg]; exact Is.mk), ?_⟩)
      | (refine tri_last (id := 3) (C := ⟨[], [], [(2, (3, 0, 0)), (5, (6, 0, 0)), (7, (8, 0, 0)), (9, (10, 0, 0)), (11, (12, 0, 0)), (47, (3, 0, 0)), (50, (3, 0, 0))]⟩) [1, 2, 5, 6] [(3, 0, 0), (6, 0, 0)] g3 nodraw ?_; refine ⟨_, by (simp [*, F9, F10, F11, F12, F13, F14, F15, F16, F17, encIp, encAddr, flg]; exact Is.mk), ?_⟩)
      | (refine tri_step (id := 4) (C := ⟨[], [], [(2, (3, 0, 0)), (5, (6, 0, 0)), (7, (8, 0, 0)), (9, (10, 0, 0)), (11, (12, 0, 0)), (47, (3, 0, 0)), (50, (3, 0, 0))]⟩) [1, 2, 5, 6, 7, 8] [(3, 0, 0), (6, 0, 0), (8, 0, 0)] g3 nodraw ?_; refine ⟨_, by (simp [*, F9, F10, F11, F12, F13, F14, F15, F16, F17, encIp, encAddr, flg]; exact Is.mk), ?_⟩)
      | (refine tri_last (id := 4) (C := ⟨[], [], [(2, (3, 0, 0)), (5, (6, 0, 0)), (7, (8, 0, 0)), (9, (10, 0, 0)), (11, (12, 0, 0)), (47, (3, 0, 0)), (50, (3, 0, 0))]⟩) [1, 2, 5, 6, 7, 8] [(3, 0, 0), (6, 0, 0), (8, 0, 0)] g3 nodraw ?_; refine ⟨_, by (simp [*, F9, F10, F11, F12, F13, F14, F15, F16, F17, encIp, encAddr, flg]; exact Is.mk), ?_⟩)
      | (refine tri_step (id := 5) (C := ⟨[], [], [(2, (3, 0, 0)), (5, (6, 0, 0)), (7, (8, 0, 0)), (9, (10, 0, 0)), (11, (12, 0, 0)), (47, (3, 0, 0)), (50, (3, 0, 0))]⟩) [1, 2, 5, 6, 7, 8, 9, 10] [(3, 0, 0), (6, 0, 0), (8, 0, 0), (10, 0, 0)] g3 nodraw ?_; refine ⟨_, by (simp [*, F9, F10, F11, F12, F13, F14, F15, F16, F17, encIp, encAddr, flg]; exact Is.mk), ?_⟩)
      | (refine tri_last (id := 5) (C := ⟨[], [], [(2, (3, 0, 0)), (5, (6, 0, 0)), (7, (8, 0, 0)), (9, (10, 0, 0)), (11, (12, 0, 0)), (47, (3, 0, 0)), (50, (3, 0, 0))]⟩) [1, 2, 5, 6, 7, 8, 9, 10] [(3, 0, 0), (6, 0, 0), (8, 0, 0), (10, 0, 0)] g3 nodraw ?_; refine ⟨_, by (simp [*, F9, F10, F11, F12, F13, F14, F15, F16, F17, encIp, encAddr, flg]; exact Is.mk), ?_⟩)
      | (refine tri_step (id := 6) (C := ⟨[], [], [(2, (3, 0, 0)), (5, (6, 0, 0)), (7, (8, 0, 0)), (9, (10, 0, 0)), (11, (12, 0, 0)), (47, (3, 0, 0)), (50, (3, 0, 0))]⟩) [2, 5, 6, 7, 8, 9, 10, 11, 12] [(3, 0, 0), (6, 0, 0), (8, 0, 0), (10, 0, 0), (12, 0, 0)] g3 nodraw ?_; refine ⟨_, by (simp [*, F9, F10, F11, F12, F13, F14, F15, F16, F17, encIp, encAddr, flg]; exact Is.mk), ?_⟩)
      | (refine tri_last (id := 6) (C := ⟨[], [], [(2, (3, 0, 0)), (5, (6, 0, 0)), (7, (8, 0, 0)), (9, (10, 0, 0)), (11, (12, 0, 0)), (47, (3, 0, 0)), (50, (3, 0, 0))]⟩) [2, 5, 6, 7, 8, 9, 10, 11, 12] [(3, 0, 0), (6, 0, 0), (8, 0, 0), (10, 0, 0), (12, 0, 0)] g3 nodraw ?_; refine ⟨_, by (simp [*, F9, F10, F11, F12, F13, F14, F15, F16, F17, encIp, encAddr, flg]; exact Is.mk), ?_⟩)
      | (refine tri_stepG (id := 7) (C := ⟨[], [], [(2, (3, 0, 0)), (5, (6, 0, 0)), (7, (8, 0, 0)), (9, (10, 0, 0)), (11, (12, 0, 0)), (47, (3, 0, 0)), (50, (3, 0, 0))]⟩) [4] [] g3 (fun _ => ⟨q_mixed, by kernel_rfl⟩) ?_; refine ⟨_, (by repeat' (first | refine go_T ?_ | refine go_F ?_ | apply go_S | (refine run_go 0 6 46 (by simp [*, F9, F10, F11, F12, F13, F14, F15, F16, F17, encIp, encAddr, flg]; exact Is.mk) (by simp [*]; exact IsB.mk) ?_) | (refine run_go 0 15 55 (by simp [*, F9, F10, F11, F12, F13, F14, F15, F16, F17, encIp, encAddr, flg]; exact Is.mk) (by simp [*]; exact IsB.mk) ?_) | (refine run_go 0 20 60 (by simp [*, F9, F10, F11, F12, F13, F14, F15, F16, F17, encIp, encAddr, flg]; exact Is.mk) (by simp [*]; exact IsB.mk) ?_) | (refine run_go 0 25 65 (by simp [*, F9, F10, F11, F12, F13, F14, F15, F16, F17, encIp, encAddr, flg]; exact Is.mk) (by simp [*]; exact IsB.mk) ?_) | (refine run_go 0 30 70 (by simp [*, F9, F10, F11, F12, F13, F14, F15, F16, F17, encIp, encAddr, flg]; exact Is.mk) (by simp [*]; exact IsB.mk) ?_) | (refine run_go 6 9 55 (by simp [*, F9, F10, F11, F12, F13, F14, F15, F16, F17, encIp, encAddr, flg]; exact Is.mk) (by simp [*]; exact IsB.mk) ?_) | (refine run_go 6 14 60 (by simp [*, F9, F10, F11, F12, F13, F14, F15, F16, F17, encIp, encAddr, flg]; exact Is.mk) (by simp [*]; exact IsB.mk) ?_) | (refine run_go 6 19 65 (by simp [*, F9, F10, F11, F12, F13, F14, F15, F16, F17, encIp, encAddr, flg]; exact Is.mk) (by simp [*]; exact IsB.mk) ?_) | (refine run_go 6 24 70 (by simp [*, F9, F10, F11, F12, F13, F14, F15, F16, F17, encIp, encAddr, flg]; exact Is.mk) (by simp [*]; exact IsB.mk) ?_) | (refine run_go 15 5 60 (by simp [*, F9, F10, F11, F12, F13, F14, F15, F16, F17, encIp, encAddr, flg]; exact Is.mk) (by simp [*]; exact IsB.mk) ?_) | (refine run_go 15 10 65 (by simp [*, F9, F10, F11, F12, F13, F14, F15, F16, F17, encIp, encAddr, flg]; exact Is.mk) (by simp [*]; exact IsB.mk) ?_) | (refine run_go 15 15 70 (by simp [*, F9, F10, F11, F12, F13, F14, F15, F16, F17, encIp, encAddr, flg]; exact Is.mk) (by simp [*]; exact IsB.mk) ?_) | (refine run_go 20 5 65 (by simp [*, F9, F10, F11, F12, F13, F14, F15, F16, F17, encIp, encAddr, flg]; exact Is.mk) (by simp [*]; exact IsB.mk) ?_) | (refine run_go 20 10 70 (by simp [*, F9, F10, F11, F12, F13, F14, F15, F16, F17, encIp, encAddr, flg]; exact Is.mk) (by simp [*]; exact IsB.mk) ?_) | (refine run_go 25 5 70 (by simp [*, F9, F10, F11, F12, F13, F14, F15, F16, F17, encIp, encAddr, flg]; exact Is.mk) (by simp [*]; exact IsB.mk) ?_) | (simp [*, F9, F10, F11, F12, F13, F14, F15, F16, F17, encIp, encAddr, flg]; exact IsK.mk))), ?_⟩)
      | (refine tri_lastG (id := 7) (C := ⟨[], [], [(2, (3, 0, 0)), (5, (6, 0, 0)), (7, (8, 0, 0)), (9, (10, 0, 0)), (11, (12, 0, 0)), (47, (3, 0, 0)), (50, (3, 0, 0))]⟩) [4] [] g3 (fun _ => ⟨q_mixed, by kernel_rfl⟩) ?_; refine ⟨_, (by repeat' (first | refine go_T ?_ | refine go_F ?_ | apply go_S | (refine run_go 0 6 46 (by simp [*, F9, F10, F11, F12, F13, F14, F15, F16, F17, encIp, encAddr, flg]; exact Is.mk) (by simp [*]; exact IsB.mk) ?_) | (refine run_go 0 15 55 (by simp [*, F9, F10, F11, F12, F13, F14, F15, F16, F17, encIp, encAddr, flg]; exact Is.mk) (by simp [*]; exact IsB.mk) ?_) | (refine run_go 0 20 60 (by simp [*, F9, F10, F11, F12, F13, F14, F15, F16, F17, encIp, encAddr, flg]; exact Is.mk) (by simp [*]; exact IsB.mk) ?_) | (refine run_go 0 25 65 (by simp [*, F9, F10, F11, F12, F13, F14, F15, F16, F17, encIp, encAddr, flg]; exact Is.mk) (by simp [*]; exact IsB.mk) ?_) | (refine run_go 0 30 70 (by simp [*, F9, F10, F11, F12, F13, F14, F15, F16, F17, encIp, encAddr, flg]; exact Is.mk) (by simp [*]; exact IsB.mk) ?_) | (refine run_go 6 9 55 (by simp [*, F9, F10, F11, F12, F13, F14, F15, F16, F17, encIp, encAddr, flg]; exact Is.mk) (by simp [*]; exact IsB.mk) ?_) | (refine run_go 6 14 60 (by simp [*, F9, F10, F11, F12, F13, F14, F15, F16, F17, encIp, encAddr, flg]; exact Is.mk) (by simp [*]; exact IsB.mk) ?_) | (refine run_go 6 19 65 (by simp [*, F9, F10, F11, F12, F13, F14, F15, F16, F17, encIp, encAddr, flg]; exact Is.mk) (by simp [*]; exact IsB.mk) ?_) | (refine run_go 6 24 70 (by simp [*, F9, F10, F11, F12, F13, F14, F15, F16, F17, encIp, encAddr, flg]; exact Is.mk) (by simp [*]; exact IsB.mk) ?_) | (refine run_go 15 5 60 (by simp [*, F9, F10, F11, F12, F13, F14, F15, F16, F17, encIp, encAddr, flg]; exact Is.mk) (by simp [*]; exact IsB.mk) ?_) | (refine run_go 15 10 65 (by simp [*, F9, F10, F11, F12, F13, F14, F15, F16, F17, encIp, encAddr, flg]; exact Is.mk) (by simp [*]; exact IsB.mk) ?_) | (refine run_go 15 15 70 (by simp [*, F9, F10, F11, F12, F13, F14, F15, F16, F17, encIp, encAddr, flg]; exact Is.mk) (by simp [*]; exact IsB.mk) ?_) | (refine run_go 20 5 65 (by simp [*, F9, F10, F11, F12, F13, F14, F15, F16, F17, encIp, encAddr, flg]; exact Is.mk) (by simp [*]; exact IsB.mk) ?_) | (refine run_go 20 10 70 (by simp [*, F9, F10, F11, F12, F13, F14, F15, F16, F17, encIp, encAddr, flg]; exact Is.mk) (by simp [*]; exact IsB.mk) ?_) | (refine run_go 25 5 70 (by simp [*, F9, F10, F11, F12, F13, F14, F15, F16, F17, encIp, encAddr, flg]; exact Is.mk) (by simp [*]; exact IsB.mk) ?_) | (simp [*, F9, F10, F11, F12, F13, F14, F15, F16, F17, encIp, encAddr, flg]; exact IsK.mk))), ?_⟩)
      | (refine tri_cond (c := .tmp 19) (b_true (by simp; exact IsB.mk)) (fun hc => ?_) (fun hc => ?_))
      | (refine to_mk (by simp; exact IsK.mk))
      | (refine imp_ ?_)
      | ((simp; exact IsK.mk))
      | (refine tri_seq ?_)
      ))
    all_goals (refine post_plainV (P := Tryd.prog) (fn := Tryd.f3) (by simp; exact IsV.mk) rfl ?_)
    all_goals (first | (simp [F9, F10, F11, F12, F13, F14, F15, F16, F17, encIp, encAddr, flg]; done) | (simp [*, F9, F10, F11, F12, F13, F14, F15, F16, F17, encIp, encAddr, flg]; done) | (simp_all [F9, F10, F11, F12, F13, F14, F15, F16, F17, encIp, encAddr, flg]; done) | (simp [F9, F10, F11, F12, F13, F14, F15, F16, F17, encIp, encAddr, flg] <;> (repeat' split) <;> simp_all; done) | (simp [F9, F10, F11, F12, F13, F14, F15, F16, F17, encIp, encAddr, flg] <;> (repeat' split) <;> simp_all [Bool.and_assoc] <;> grind [List.length_eq_zero_iff, sendCells_co, recvCells_co, pieceCells_co, connCells_co, segCells_co, clockCells_co]))
open Classical in
noncomputable def F3 : Fn1
  | [x0, x1] => (whole pAddr x0).bind fun a => (dZ x1).bind fun s => if LowA a then some ((.v (.bool true)), none) else none
  | _ => none
theorem spec3 : Spec1 Tryd.prog 3 F3 := spec_of fun ys r o h => by
  unfold F3 at h
  split at h
  case h_2 => cases h
  obtain ⟨a, k0, h1⟩ := bind_some h
  obtain ⟨s, k1, h2⟩ := bind_some h1
  obtain ⟨hpre, hz⟩ := ite_some h2
  cases hz
  exact ⟨_, at3 a s hpre, rfl, le_plain ⟨whole_co pAddr_snd k0, ⟨dZ_co k1, trivial⟩⟩ (by simp only [List.all_cons, List.all_nil, Bool.not_false, Bool.and_self, notRefB (whole_co pAddr_snd k0) rfl (by simp), notRefB (dZ_co k1) rfl (by simp)]) rfl⟩
theorem en3 : Enters Tryd.prog 3 := enters_of Tryd.func3 (by kernel_rfl) rfl

end Go.Proofs.YtkmjoppcecffkaaDoor

