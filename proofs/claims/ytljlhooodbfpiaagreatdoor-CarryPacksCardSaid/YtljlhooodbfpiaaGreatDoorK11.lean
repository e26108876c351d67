import Derived.Test.YtljlhooodbfpiaaGreatDoorK10
import Derived.Below
import Derived.Test.YtljlhooodbfpiaaGreatDoorProg
import Derived.KernelRfl
set_option linter.all false
namespace Caw
open Go Go.RowKit Go.Proofs

/-! ## From a contract of the library's to a contract of this walk's -/
theorem fr_below {w w' : World} (h : Below w.heap.size w w') {pr : Pr} (hp : ∀ b k, pr b k → b < w.heap.size) : Fr pr w w' :=
  ⟨h.os, h.tape, h.output, h.size, fun b k x hb hc => by
    rw [← hc]
    exact World.cell?_of_block (w := w) (a := ⟨b, k, none⟩) (h.block b (hp b k hb)), fun b hb _ => h.block b hb,
   fun b vs e m hv => ⟨vs, by rw [h.block b (Array.getElem?_eq_some_iff.1 hv).1]; exact hv, rfl⟩⟩

/-- Plain results: nothing of memory. -/
def plainR : AV → Option Value
  | .v x => some x
  | .tup xs => (allV xs).map fun vs => .tuple vs.toArray
  | _ => none

theorem allV_V {E : Env} {st : St} {w : World} : ∀ {cs : List AV} {vs : List Value}, allV cs = some vs → cs.length = vs.length ∧ ∀ i (hi : i < cs.length), V E st w cs[i] (vs.getD i undef)
  | [], vs, h => by
    simp only [allV, Option.some.injEq] at h
    subst h
    exact ⟨rfl, fun i hi => absurd hi (by simp)⟩
  | c :: r, vs, h => by
    cases c <;> simp only [allV, Option.map_eq_some_iff] at h
    case v x =>
      obtain ⟨us, hu, rfl⟩ := h
      obtain ⟨h1, h2⟩ := allV_V (E := E) (st := st) (w := w) hu
      refine ⟨by simp [h1], fun i hi => ?_⟩
      cases i with
      | zero => exact .v _
      | succ i => exact h2 i (by simpa using hi)
    all_goals cases h

theorem nameT_plain (g : Nm → Nat) (d : Nat) : ∀ (k : Nat) {xs : List AV} {vs : List Value}, allV xs = some vs → nameT g d k xs = xs
  | _, [], _, _ => rfl
  | k, c :: r, vs, h => by
    cases c <;> simp only [allV, Option.map_eq_some_iff] at h
    case v x =>
      obtain ⟨us, hu, rfl⟩ := h
      simp only [nameT, nameX, nameL]
      rw [nameT_plain g d _ hu]
    all_goals cases h

theorem V_plainR {E : Env} {st : St} {w : World} {r : AV} {y : Value} (h : plainR r = some y) : V E st w (resSlot r) y := by
  unfold plainR at h
  split at h
  · cases h; exact .v _
  · rename_i xs
    simp only [Option.map_eq_some_iff] at h
    obtain ⟨vs, h1, rfl⟩ := h
    have e : resSlot (.tup xs) = .tup xs := by
      simp only [resSlot, nameR]
      rw [nameT_plain zg 0 0 h1]
    rw [e]
    obtain ⟨h2, h3⟩ := allV_V (E := E) (st := st) (w := w) h1
    exact .tup (by simpa using h2) (fun i hi => by simpa using h3 i hi)
  · cases h

theorem enter_ob {ys : List AV} (hy : ys.all (fun y => !isRef y) = true) : (enterSt ys).ob = fun _ => none := by
  unfold enterSt
  split
  · simp [isRef] at hy
  · rfl
theorem enter_sl {ys : List AV} (hy : ys.all (fun y => !isRef y) = true) (i : Nat) : (enterSt ys).sl i = ys.getD i (.v undef) := by
  unfold enterSt
  split
  · simp [isRef] at hy
  · rfl
theorem enter_G {ys : List AV} (hy : ys.all (fun y => !isRef y) = true) : (enterSt ys).G = zg := by
  unfold enterSt
  split
  · simp [isRef] at hy
  · rfl

/-- Behind a call of the library's that yields something plain. -/
theorem leave_plain {B : Base} {E : Env} {ys : List AV} {args : Array Value} {w w' : World} (hy : ys.all (fun y => !isRef y) = true) (h : Rel0 B E (enterSt ys) ⟨args, []⟩ w) (hb : Below w.heap.size w w')
    {r : AV} {y : Value} (hr : plainR r = some y) : Rel0 { B with N := 1 } E (leaveSt r none) ⟨#[y], []⟩ w' := by
  have h1 := h.fresh (w' := w') (fr_below hb h.prlt) hb.block (pr' := E.pr) (fun _ _ h => h) (fun b k h1 h2 => absurd h1 h2)
  have hob : (leaveSt r none).ob = fun _ => none := by
    funext n
    simp only [leaveSt, Option.map_none]
    split
    · rfl
    · split
      · cases r <;> first | rfl | (simp [plainR] at hr)
      · rfl
  have hob' := enter_ob hy
  refine ⟨fun i => ?_, fun n cs hc => ?_, fun n m hn => ?_, fun n hn => ?_, fun n hn => ?_, fun n b e ht => ?_, h1.tdis, h1.frame, h1.keep, h1.prot, h1.prnew, h1.prlt, fun hp => ?_, rfl, rfl⟩
  · by_cases hi : i = 0
    · subst hi
      exact V_plainR hr
    · have e1 : (#[y] : Array Value).getD i undef = undef := by
        have : ¬ i < 1 := by omega
        simp [this]
      have e2 : (leaveSt r none).sl i = .v undef := by
        simp only [leaveSt]
        rw [if_neg hi]
      rw [e2]
      show V E _ w' _ ((#[y] : Array Value).getD i undef)
      rw [e1]
      exact .v _
  · rw [hob] at hc; cases hc
  · exact absurd (by rw [hob]) hn
  · exact absurd (by rw [hob]) hn
  · exact absurd (by rw [hob]) hn
  · obtain ⟨t1, t2, t3, t4⟩ := h1.tau n b e ht
    exact ⟨t1, t2, t3, fun m hm => absurd (by rw [hob]) hm⟩
  · exact absurd (by rw [hob]) hp

/-- A contract over plain values. -/
theorem specAt_libT {P : Program} {f : FuncId} {xs : List Value} {r : AV} {y : Value} (hr : plainR r = some y)
    (h : ∀ B : Base, TabB P B → Calls P f xs.toArray B.w fun e w' => e = .returned y ∧ Below B.w.heap.size B.w w') : SpecAt P f (xs.map .v) r none := by
  intro B E args w hw hTb hR hs
  have hy : (xs.map AV.v).all (fun y => !isRef y) = true := by
    rw [List.all_eq_true]
    intro x hx
    obtain ⟨v, -, rfl⟩ := List.mem_map.1 hx
    rfl
  have hargs : args = xs.toArray := by
    apply Array.ext
    · simpa using hs
    · intro i h1 h2
      have hi : i < xs.length := by simpa using h2
      have h3 := hR.sl i
      rw [enter_sl hy] at h3
      have e1 : (xs.map AV.v).getD i (.v undef) = .v xs[i] := by simp [List.getD, hi]
      rw [e1] at h3
      have h4 := V_v h3
      have e2 : args.getD i undef = args[i] := by simp [h1]
      simpa [e2] using h4
  subst hargs
  subst hw
  exact (h B hTb).mono fun e w' ⟨he, hb⟩ => ⟨y, E, he, leave_plain hy hR hb hr⟩
theorem specAt_lib {P : Program} {f : FuncId} {xs : List Value} {r : AV} {y : Value} (hr : plainR r = some y)
    (h : ∀ w, Calls P f xs.toArray w fun e w' => e = .returned y ∧ Below w.heap.size w w') : SpecAt P f (xs.map .v) r none := specAt_libT hr (fun B _ => h B.w)

/-- A row of strings, as it is handed to strings.Join. -/
theorem specAt_row {P : Program} {f : FuncId} {xs : List ByteArray} {vs : List Value} {r : AV} {y : Value} (hr : plainR r = some y)
    (h : ∀ w b o c, xs.length ≤ c → (∀ (j : Nat) x, xs[j]? = some x → w.cell? ⟨b, o + j, none⟩ = some (.string x)) → b < w.heap.size → Calls P f (#[.slice (some ⟨b, o, none⟩) xs.length c] ++ vs.toArray) w fun e w' => e = .returned y ∧ Below w.heap.size w w')
    (h0 : xs ≠ []) : SpecAt P f (.sl 1 (xs.map fun x => .v (.string x)) none :: vs.map .v) r none := by
  intro B E args w hw _ hR hs
  have hy : (AV.sl 1 (xs.map fun x => AV.v (.string x)) none :: vs.map AV.v).all (fun y => !isRef y) = true := by
    rw [List.all_eq_true]
    intro x hx
    rcases List.mem_cons.1 hx with rfl | hx
    · rfl
    · obtain ⟨v, -, rfl⟩ := List.mem_map.1 hx
      rfl
  have h3 := hR.sl 0
  rw [enter_sl hy] at h3
  have hsl : ∃ b o c, args.getD 0 undef = .slice (some ⟨b, o, none⟩) xs.length c ∧ xs.length ≤ c ∧ (∀ (j : Nat) x, xs[j]? = some x → w.cell? ⟨b, o + j, none⟩ = some (.string x)) ∧ b < w.heap.size := by
    have e0 : (AV.sl 1 (xs.map fun x => AV.v (.string x)) none :: vs.map AV.v).getD 0 (.v undef) = .sl 1 (xs.map fun x => AV.v (.string x)) none := rfl
    rw [e0] at h3
    generalize args.getD 0 undef = y0 at h3
    generalize hes : (xs.map fun x => AV.v (.string x)) = es at h3
    cases h3 with
    | sl h _ =>
      cases h with
      | nil => simp at hes; exact absurd hes h0
      | sl cells hle hs hp h hc =>
        rename_i b off cap _
        subst hes
        have hcell : ∀ (j : Nat) x, xs[j]? = some x → w.cell? ⟨b, off + j, none⟩ = some (.string x) := by
          intro j x hj
          obtain ⟨hj1, hj2⟩ := List.getElem?_eq_some_iff.1 hj
          have hj' : j < (xs.map fun x => AV.v (.string x)).length := by simpa using hj1
          have k1 := hc j hj' 0 (by omega)
          have k2 := h j hj' 0 (by simp [flat])
          have e1 : (flat (xs.map fun x => AV.v (.string x))[j])[0]'(by simp [flat]) = .v (.string x) := by simp [flat, hj2]
          rw [e1] at k2
          have k3 : cells j 0 = .string x := by
            generalize cells j 0 = q at k2
            cases k2; rfl
          rw [k3] at k1
          simpa using k1
        refine ⟨b, off, cap, by simp, by simpa using hle, hcell, ?_⟩
        cases xs with
        | nil => exact absurd rfl h0
        | cons x r =>
          have := hcell 0 x rfl
          exact World.block_lt_of_cell? _ _ this
  obtain ⟨b, o, c, e0, hc, hcell, hb⟩ := hsl
  have hargs : args = #[.slice (some ⟨b, o, none⟩) xs.length c] ++ vs.toArray := by
    apply Array.ext
    · simp at hs; simp [hs]
    · intro i h1 h2
      have e2 : args.getD i undef = args[i] := by simp [h1]
      cases i with
      | zero => rw [← e2, e0]; simp
      | succ i =>
        have h4 := hR.sl (i + 1)
        rw [enter_sl hy] at h4
        have hi : i < vs.length := by simp at h2; omega
        have e1 : (AV.sl 1 (xs.map fun x => AV.v (.string x)) none :: vs.map AV.v).getD (i + 1) (.v undef) = .v vs[i] := by simp [List.getD, hi]
        rw [e1] at h4
        have h5 := V_v h4
        simp [e2] at h5
        rw [h5]
        rw [Array.getElem_append_right (by simp)]
        simp
  subst hargs
  exact (h w b o c hc hcell hb).mono fun e w' ⟨he, hb⟩ => ⟨y, E, he, leave_plain hy hR hb hr⟩
end Caw

/-! Printed by gencells4.py: the structures of the laws of layer addr. -/
namespace Caw
open Go Go.RowKit
set_option linter.unusedSimpArgs false
set_option maxRecDepth 100000

@[ext] structure Ip where
  a : Int
  b : Int
  c : Int
  d : Int
deriving Inhabited
def ipCells (x : Ip) : List AV := [.v (.int .u8 x.a), .v (.int .u8 x.b), .v (.int .u8 x.c), .v (.int .u8 x.d)]
noncomputable def pIp : List AV → Option (Ip × List AV) := fun cs => (pI .u8 cs).bind fun (a0, cs) => (pI .u8 cs).bind fun (a1, cs) => (pI .u8 cs).bind fun (a2, cs) => (pI .u8 cs).bind fun (a3, cs) => some (⟨a0, a1, a2, a3⟩, cs)
theorem pIp_snd : Snd CoP pIp (fun x => ipCells x) := by
  intro cs x r h0
  unfold pIp at h0
  obtain ⟨a0, r0, q0, h1, e0, c0⟩ := Snd.step (pI_snd .u8) h0
  obtain ⟨a1, r1, q1, h2, e1, c1⟩ := Snd.step (pI_snd .u8) h1
  obtain ⟨a2, r2, q2, h3, e2, c2⟩ := Snd.step (pI_snd .u8) h2
  obtain ⟨a3, r3, q3, h4, e3, c3⟩ := Snd.step (pI_snd .u8) h3
  cases h4
  subst e3 e2 e1 e0
  exact ⟨(q0 ++ (q1 ++ (q2 ++ q3))), by simp only [List.append_assoc], (c0.app (c1.app (c2.app c3)))⟩
@[simp] theorem pIp_app (x : Ip) (r : List AV) : pIp (ipCells x ++ r) = some (x, r) := by simp [pIp, ipCells]
@[simp] theorem pIp_all (x : Ip) : pIp (ipCells x) = some (x, []) := by have := pIp_app x []; rwa [List.append_nil] at this
@[simp] theorem ipCells_len (x : Ip) : (ipCells x).length = 4 := rfl
def encIp (x : Ip) : AV := .v (.agg #[.int .u8 x.a, .int .u8 x.b, .int .u8 x.c, .int .u8 x.d])
@[simp high] theorem mkAgg_ip (x : Ip) : mkAgg (ipCells x) = encIp x := rfl
@[simp] theorem flat_encIp (x : Ip) : flat (encIp x) = ipCells x := by simp [encIp, flat, ipCells]
@[simp] theorem whole_encIp (x : Ip) : whole pIp (encIp x) = some x := by simp [encIp, pIp]
@[simp high] theorem encIp_kT (x : Ip) (s : St) (M : List Nm) : kT s M (encIp x) = encIp x := rfl
@[simp high] theorem encIp_kA (x : Ip) (s : St) (M : List Nm) : kA s M (encIp x) = encIp x := rfl
@[simp high] theorem encIp_kL (x : Ip) (s : St) (M : List Nm) : kL s M (encIp x) = encIp x := rfl
@[simp high] theorem encIp_leafP (x : Ip)  : leafP (encIp x) = true := rfl
@[simp high] theorem encIp_isPure (x : Ip)  : isPure (encIp x) = true := rfl
@[simp high] theorem encIp_leafH (x : Ip)  : leafH (encIp x) = true := rfl
@[simp high] theorem encIp_isHand (x : Ip)  : isHand (encIp x) = true := rfl
@[simp high] theorem encIp_live (x : Ip)  : live (encIp x) = true := rfl
@[simp high] theorem encIp_isRes (x : Ip)  : isRes (encIp x) = true := rfl
@[simp high] theorem encIp_isRef (x : Ip)  : isRef (encIp x) = false := rfl
@[simp high] theorem encIp_strip (x : Ip)  : strip (encIp x) = encIp x := rfl
@[simp high] theorem encIp_stripL (x : Ip)  : stripL (encIp x) = encIp x := rfl
@[simp high] theorem encIp_stripA (x : Ip)  : stripA (encIp x) = encIp x := rfl
@[simp high] theorem encIp_flagL (x : Ip) (s : St) : flagL s (encIp x) = encIp x := rfl
@[simp high] theorem encIp_nameL (x : Ip) (g : Nm → Nat) (m : Nm) : nameL g m (encIp x) = encIp x := rfl
@[simp high] theorem encIp_nameX (x : Ip) (g : Nm → Nat) (d k : Nat) : nameX g d k (encIp x) = encIp x := rfl
@[simp high] theorem encIp_nameR (x : Ip) (g : Nm → Nat) (d : Nat) : nameR g d (encIp x) = encIp x := rfl
@[simp high] theorem encIp_toV (x : Ip)  : toV (encIp x) = some (.agg #[.int .u8 x.a, .int .u8 x.b, .int .u8 x.c, .int .u8 x.d]) := rfl
@[simp high] theorem encIp_coA (x : Ip) (φ ψ : Nm → Option Nm) (s s2 : St) (ys : List AV) : CoA φ ψ s s2 (encIp x) (.agg ys) = All2P (CoL φ ψ s s2) (ipCells x) ys := rfl
@[simp high] theorem encIp_co (x : Ip) (φ ψ : Nm → Option Nm) (s s2 : St) (ys : List AV) : Co φ ψ s s2 (encIp x) (.agg ys) = All2P (CoL φ ψ s s2) (ipCells x) ys := rfl
@[simp] theorem encIp_ne_ptr (x : Ip) (n : Nm) (k : Nat) : (encIp x = .ptr n k) = False := eq_false (fun h => by cases h)
@[simp] theorem encIp_ne_tup (x : Ip) (c : List AV) : (encIp x = .tup c) = False := eq_false (fun h => by cases h)
@[simp] theorem encIp_ne_agg (x : Ip) (c : List AV) : (encIp x = .agg c) = False := eq_false (fun h => by cases h)
@[simp] theorem encIp_ne_ref (x : Ip) (c : List AV) : (encIp x = .ref c) = False := eq_false (fun h => by cases h)
@[simp] theorem encIp_ne_rptr (x : Ip) (y : AV) (k : Nat) : (encIp x = .rptr y k) = False := eq_false (fun h => by cases h)
@[simp] theorem ite_encIp (c : Prop) [Decidable c] (x y : Ip) : (if c then encIp x else encIp y) = encIp (if c then x else y) := by split <;> rfl
@[simp] theorem ip_get_a (x : Ip) : (ipCells x)[0]? = some (.v (.int .u8 x.a)) := rfl
@[simp] theorem ip_put_a (x : Ip) (y : Int) : splice (ipCells x) 0 [.v (.int .u8 y)] 1 = ipCells { x with a := y } := rfl
@[simp] theorem ip_get_b (x : Ip) : (ipCells x)[1]? = some (.v (.int .u8 x.b)) := rfl
@[simp] theorem ip_put_b (x : Ip) (y : Int) : splice (ipCells x) 1 [.v (.int .u8 y)] 1 = ipCells { x with b := y } := rfl
@[simp] theorem ip_get_c (x : Ip) : (ipCells x)[2]? = some (.v (.int .u8 x.c)) := rfl
@[simp] theorem ip_put_c (x : Ip) (y : Int) : splice (ipCells x) 2 [.v (.int .u8 y)] 1 = ipCells { x with c := y } := rfl
@[simp] theorem ip_get_d (x : Ip) : (ipCells x)[3]? = some (.v (.int .u8 x.d)) := rfl
@[simp] theorem ip_put_d (x : Ip) (y : Int) : splice (ipCells x) 3 [.v (.int .u8 y)] 1 = ipCells { x with d := y } := rfl
@[simp] theorem ip_whole (x : Ip) (ys : List AV) : splice (ipCells x) 0 ys 4 = ys := by simp [splice, ipCells]
@[simp] theorem ip_cutall (x : Ip) : cut (ipCells x) 0 4 = ipCells x := rfl
@[simp] theorem ipCells_leafH (x : Ip) : (ipCells x).all leafH = true := rfl
@[simp] theorem ipCells_leafP (x : Ip) : (ipCells x).all leafP = true := rfl
@[simp] theorem ipCells_leafOk (x : Ip) : (ipCells x).all leafOk = true := rfl
@[simp] theorem ipCells_kL (s : St) (M : List Nm) (x : Ip) : (ipCells x).map (kL s M) = ipCells x := rfl
@[simp] theorem ipCells_strip (x : Ip) : (ipCells x).map strip = ipCells x := rfl
@[simp] theorem ipCells_stripL (x : Ip) : (ipCells x).map stripL = ipCells x := rfl
@[simp] theorem ipCells_name (g : Nm → Nat) (d i k : Nat) (x : Ip) : nameC g d i k (ipCells x) = ipCells x := rfl
@[simp] theorem ipCells_flag (s : St) (x : Ip) : (ipCells x).map (flagL s) = ipCells x := rfl
@[simp] theorem ipCells_tags (s : St) (x : Ip) : tagsOf s (ipCells x) = [] := by simp [ipCells, tagsOf]
@[simp] theorem ipCells_co (φ ψ : Nm → Option Nm) (s s2 : St) (x : Ip) : All2P (CoL φ ψ s s2) (ipCells x) (ipCells x) := by simp [ipCells]

@[ext] structure Mac where
  a : Int
  b : Int
  c : Int
  d : Int
  e : Int
  f : Int
deriving Inhabited
def macCells (x : Mac) : List AV := [.v (.int .u8 x.a), .v (.int .u8 x.b), .v (.int .u8 x.c), .v (.int .u8 x.d), .v (.int .u8 x.e), .v (.int .u8 x.f)]
noncomputable def pMac : List AV → Option (Mac × List AV) := fun cs => (pI .u8 cs).bind fun (a0, cs) => (pI .u8 cs).bind fun (a1, cs) => (pI .u8 cs).bind fun (a2, cs) => (pI .u8 cs).bind fun (a3, cs) => (pI .u8 cs).bind fun (a4, cs) => (pI .u8 cs).bind fun (a5, cs) => some (⟨a0, a1, a2, a3, a4, a5⟩, cs)
theorem pMac_snd : Snd CoP pMac (fun x => macCells x) := by
  intro cs x r h0
  unfold pMac at h0
  obtain ⟨a0, r0, q0, h1, e0, c0⟩ := Snd.step (pI_snd .u8) h0
  obtain ⟨a1, r1, q1, h2, e1, c1⟩ := Snd.step (pI_snd .u8) h1
  obtain ⟨a2, r2, q2, h3, e2, c2⟩ := Snd.step (pI_snd .u8) h2
  obtain ⟨a3, r3, q3, h4, e3, c3⟩ := Snd.step (pI_snd .u8) h3
  obtain ⟨a4, r4, q4, h5, e4, c4⟩ := Snd.step (pI_snd .u8) h4
  obtain ⟨a5, r5, q5, h6, e5, c5⟩ := Snd.step (pI_snd .u8) h5
  cases h6
  subst e5 e4 e3 e2 e1 e0
  exact ⟨(q0 ++ (q1 ++ (q2 ++ (q3 ++ (q4 ++ q5))))), by simp only [List.append_assoc], (c0.app (c1.app (c2.app (c3.app (c4.app c5)))))⟩
@[simp] theorem pMac_app (x : Mac) (r : List AV) : pMac (macCells x ++ r) = some (x, r) := by simp [pMac, macCells]
@[simp] theorem pMac_all (x : Mac) : pMac (macCells x) = some (x, []) := by have := pMac_app x []; rwa [List.append_nil] at this
@[simp] theorem macCells_len (x : Mac) : (macCells x).length = 6 := rfl
def encMac (x : Mac) : AV := .v (.agg #[.int .u8 x.a, .int .u8 x.b, .int .u8 x.c, .int .u8 x.d, .int .u8 x.e, .int .u8 x.f])
@[simp high] theorem mkAgg_mac (x : Mac) : mkAgg (macCells x) = encMac x := rfl
@[simp] theorem flat_encMac (x : Mac) : flat (encMac x) = macCells x := by simp [encMac, flat, macCells]
@[simp] theorem whole_encMac (x : Mac) : whole pMac (encMac x) = some x := by simp [encMac, pMac]
@[simp high] theorem encMac_kT (x : Mac) (s : St) (M : List Nm) : kT s M (encMac x) = encMac x := rfl
@[simp high] theorem encMac_kA (x : Mac) (s : St) (M : List Nm) : kA s M (encMac x) = encMac x := rfl
@[simp high] theorem encMac_kL (x : Mac) (s : St) (M : List Nm) : kL s M (encMac x) = encMac x := rfl
@[simp high] theorem encMac_leafP (x : Mac)  : leafP (encMac x) = true := rfl
@[simp high] theorem encMac_isPure (x : Mac)  : isPure (encMac x) = true := rfl
@[simp high] theorem encMac_leafH (x : Mac)  : leafH (encMac x) = true := rfl
@[simp high] theorem encMac_isHand (x : Mac)  : isHand (encMac x) = true := rfl
@[simp high] theorem encMac_live (x : Mac)  : live (encMac x) = true := rfl
@[simp high] theorem encMac_isRes (x : Mac)  : isRes (encMac x) = true := rfl
@[simp high] theorem encMac_isRef (x : Mac)  : isRef (encMac x) = false := rfl
@[simp high] theorem encMac_strip (x : Mac)  : strip (encMac x) = encMac x := rfl
@[simp high] theorem encMac_stripL (x : Mac)  : stripL (encMac x) = encMac x := rfl
@[simp high] theorem encMac_stripA (x : Mac)  : stripA (encMac x) = encMac x := rfl
@[simp high] theorem encMac_flagL (x : Mac) (s : St) : flagL s (encMac x) = encMac x := rfl
@[simp high] theorem encMac_nameL (x : Mac) (g : Nm → Nat) (m : Nm) : nameL g m (encMac x) = encMac x := rfl
@[simp high] theorem encMac_nameX (x : Mac) (g : Nm → Nat) (d k : Nat) : nameX g d k (encMac x) = encMac x := rfl
@[simp high] theorem encMac_nameR (x : Mac) (g : Nm → Nat) (d : Nat) : nameR g d (encMac x) = encMac x := rfl
@[simp high] theorem encMac_toV (x : Mac)  : toV (encMac x) = some (.agg #[.int .u8 x.a, .int .u8 x.b, .int .u8 x.c, .int .u8 x.d, .int .u8 x.e, .int .u8 x.f]) := rfl
@[simp high] theorem encMac_coA (x : Mac) (φ ψ : Nm → Option Nm) (s s2 : St) (ys : List AV) : CoA φ ψ s s2 (encMac x) (.agg ys) = All2P (CoL φ ψ s s2) (macCells x) ys := rfl
@[simp high] theorem encMac_co (x : Mac) (φ ψ : Nm → Option Nm) (s s2 : St) (ys : List AV) : Co φ ψ s s2 (encMac x) (.agg ys) = All2P (CoL φ ψ s s2) (macCells x) ys := rfl
@[simp] theorem encMac_ne_ptr (x : Mac) (n : Nm) (k : Nat) : (encMac x = .ptr n k) = False := eq_false (fun h => by cases h)
@[simp] theorem encMac_ne_tup (x : Mac) (c : List AV) : (encMac x = .tup c) = False := eq_false (fun h => by cases h)
@[simp] theorem encMac_ne_agg (x : Mac) (c : List AV) : (encMac x = .agg c) = False := eq_false (fun h => by cases h)
@[simp] theorem encMac_ne_ref (x : Mac) (c : List AV) : (encMac x = .ref c) = False := eq_false (fun h => by cases h)
@[simp] theorem encMac_ne_rptr (x : Mac) (y : AV) (k : Nat) : (encMac x = .rptr y k) = False := eq_false (fun h => by cases h)
@[simp] theorem ite_encMac (c : Prop) [Decidable c] (x y : Mac) : (if c then encMac x else encMac y) = encMac (if c then x else y) := by split <;> rfl
@[simp] theorem mac_get_a (x : Mac) : (macCells x)[0]? = some (.v (.int .u8 x.a)) := rfl
@[simp] theorem mac_put_a (x : Mac) (y : Int) : splice (macCells x) 0 [.v (.int .u8 y)] 1 = macCells { x with a := y } := rfl
@[simp] theorem mac_get_b (x : Mac) : (macCells x)[1]? = some (.v (.int .u8 x.b)) := rfl
@[simp] theorem mac_put_b (x : Mac) (y : Int) : splice (macCells x) 1 [.v (.int .u8 y)] 1 = macCells { x with b := y } := rfl
@[simp] theorem mac_get_c (x : Mac) : (macCells x)[2]? = some (.v (.int .u8 x.c)) := rfl
@[simp] theorem mac_put_c (x : Mac) (y : Int) : splice (macCells x) 2 [.v (.int .u8 y)] 1 = macCells { x with c := y } := rfl
@[simp] theorem mac_get_d (x : Mac) : (macCells x)[3]? = some (.v (.int .u8 x.d)) := rfl
@[simp] theorem mac_put_d (x : Mac) (y : Int) : splice (macCells x) 3 [.v (.int .u8 y)] 1 = macCells { x with d := y } := rfl
@[simp] theorem mac_get_e (x : Mac) : (macCells x)[4]? = some (.v (.int .u8 x.e)) := rfl
@[simp] theorem mac_put_e (x : Mac) (y : Int) : splice (macCells x) 4 [.v (.int .u8 y)] 1 = macCells { x with e := y } := rfl
@[simp] theorem mac_get_f (x : Mac) : (macCells x)[5]? = some (.v (.int .u8 x.f)) := rfl
@[simp] theorem mac_put_f (x : Mac) (y : Int) : splice (macCells x) 5 [.v (.int .u8 y)] 1 = macCells { x with f := y } := rfl
@[simp] theorem mac_whole (x : Mac) (ys : List AV) : splice (macCells x) 0 ys 6 = ys := by simp [splice, macCells]
@[simp] theorem mac_cutall (x : Mac) : cut (macCells x) 0 6 = macCells x := rfl
@[simp] theorem macCells_leafH (x : Mac) : (macCells x).all leafH = true := rfl
@[simp] theorem macCells_leafP (x : Mac) : (macCells x).all leafP = true := rfl
@[simp] theorem macCells_leafOk (x : Mac) : (macCells x).all leafOk = true := rfl
@[simp] theorem macCells_kL (s : St) (M : List Nm) (x : Mac) : (macCells x).map (kL s M) = macCells x := rfl
@[simp] theorem macCells_strip (x : Mac) : (macCells x).map strip = macCells x := rfl
@[simp] theorem macCells_stripL (x : Mac) : (macCells x).map stripL = macCells x := rfl
@[simp] theorem macCells_name (g : Nm → Nat) (d i k : Nat) (x : Mac) : nameC g d i k (macCells x) = macCells x := rfl
@[simp] theorem macCells_flag (s : St) (x : Mac) : (macCells x).map (flagL s) = macCells x := rfl
@[simp] theorem macCells_tags (s : St) (x : Mac) : tagsOf s (macCells x) = [] := by simp [macCells, tagsOf]
@[simp] theorem macCells_co (φ ψ : Nm → Option Nm) (s s2 : St) (x : Mac) : All2P (CoL φ ψ s s2) (macCells x) (macCells x) := by simp [macCells]

@[simp] theorem ipCells_kLr (s : St) (l : List (Nm × Nm)) (M : List Nm) (x : Ip) : (ipCells x).map (kLr s l M) = ipCells x := rfl
@[simp] theorem ipCells_tagsAt (s : St) (n : Nm) (k : Nat) (x : Ip) : tagsAt s n k (ipCells x) = [] := by simp [ipCells, tagsAt]
@[simp] theorem mergeC_ip (b : Bool) (x y : Ip) : mergeC b (ipCells x) (ipCells y) = ipCells (if b = true then x else y) := by cases b <;> rfl
@[simp] theorem ite_ipCells (c : Prop) [Decidable c] (x y : Ip) : (if c then ipCells x else ipCells y) = ipCells (if c then x else y) := by split <;> rfl
theorem ipCells_coE {φ ψ : Nm → Option Nm} {s s2 : St} {x y : Ip} (e : x = y) : All2P (CoL φ ψ s s2) (ipCells x) (ipCells y) := by subst e; exact ipCells_co ..
@[simp] theorem macCells_kLr (s : St) (l : List (Nm × Nm)) (M : List Nm) (x : Mac) : (macCells x).map (kLr s l M) = macCells x := rfl
@[simp] theorem macCells_tagsAt (s : St) (n : Nm) (k : Nat) (x : Mac) : tagsAt s n k (macCells x) = [] := by simp [macCells, tagsAt]
@[simp] theorem mergeC_mac (b : Bool) (x y : Mac) : mergeC b (macCells x) (macCells y) = macCells (if b = true then x else y) := by cases b <;> rfl
@[simp] theorem ite_macCells (c : Prop) [Decidable c] (x y : Mac) : (if c then macCells x else macCells y) = macCells (if c then x else y) := by split <;> rfl
theorem macCells_coE {φ ψ : Nm → Option Nm} {s s2 : St} {x y : Mac} (e : x = y) : All2P (CoL φ ψ s s2) (macCells x) (macCells y) := by subst e; exact macCells_co ..
end Caw

/-! Addresses: what the functions compute. -/
set_option linter.unusedVariables false
namespace Caw
open Go Go.RowKit

theorem wrap_i64 {x : Int} (h : -9223372036854775808 ≤ x ∧ x < 9223372036854775808) : IntKind.wrap .i64 x = x := by
  simp [IntKind.wrap, IntKind.bits, IntKind.signed]
  omega
/-- How many of a byte's bits count. -/
def wN (bits : Int) (i : Int) : Int := maxI 0 (minI (bits - 8 * i) 8)
theorem wN_le (bits i : Int) : 0 ≤ wN bits i ∧ wN bits i ≤ 8 := by unfold wN maxI minI; split <;> split at * <;> omega
/-- Do the first n bits of two bytes differ? -/
def bad (a b n : Int) : Bool := (bXor .u8 a b).fdiv (2 ^ (min (8 - n).toNat (IntKind.bits .u8))) != 0
def within (a b : Ip) (bits : Int) : Bool :=
  !(decide (bits < 0) || decide (32 < bits)) && !bad a.a b.a (wN bits 0) && !bad a.b b.b (wN bits 1) && !bad a.c b.c (wN bits 2) && !bad a.d b.d (wN bits 3)
/-- From byte i on. -/
def withinF (a b : Ip) (bits : Int) : Nat → Bool
  | 0 => !bad a.a b.a (wN bits 0) && !bad a.b b.b (wN bits 1) && !bad a.c b.c (wN bits 2) && !bad a.d b.d (wN bits 3)
  | 1 => !bad a.b b.b (wN bits 1) && !bad a.c b.c (wN bits 2) && !bad a.d b.d (wN bits 3)
  | 2 => !bad a.c b.c (wN bits 2) && !bad a.d b.d (wN bits 3)
  | 3 => !bad a.d b.d (wN bits 3)
  | _ => true
theorem within_F {a b : Ip} {bits : Int} (h : ¬ bits < 0) (h2 : ¬ 32 < bits) : within a b bits = withinF a b bits 0 := by
  simp [within, withinF, h, h2]
theorem within_low {a b : Ip} {bits : Int} (h : bits < 0) : within a b bits = false := by simp [within, h]
theorem within_high {a b : Ip} {bits : Int} (h : 32 < bits) : within a b bits = false := by simp [within, h]
theorem wN_eq {bits : Int} (h : ¬ bits < 0) (h2 : ¬ 32 < bits) : maxI 0 (minI (IntKind.wrap .i64 (bits - IntKind.wrap .i64 0)) 8) = wN bits 0 ∧ maxI 0 (minI (IntKind.wrap .i64 (bits - IntKind.wrap .i64 8)) 8) = wN bits 1 ∧
    maxI 0 (minI (IntKind.wrap .i64 (bits - IntKind.wrap .i64 16)) 8) = wN bits 2 ∧ maxI 0 (minI (IntKind.wrap .i64 (bits - IntKind.wrap .i64 24)) 8) = wN bits 3 := by
  have e0 : IntKind.wrap .i64 0 = 0 := rfl
  have e1 : IntKind.wrap .i64 8 = 8 := rfl
  have e2 : IntKind.wrap .i64 16 = 16 := rfl
  have e3 : IntKind.wrap .i64 24 = 24 := rfl
  rw [e0, e1, e2, e3, wrap_i64 (by omega), wrap_i64 (by omega), wrap_i64 (by omega), wrap_i64 (by omega)]
  exact ⟨rfl, rfl, rfl, rfl⟩
theorem wN_sub (bits i : Int) : IntKind.wrap .i64 (8 - wN bits i) = 8 - wN bits i ∧ ¬ 8 - wN bits i < 0 := by
  have := wN_le bits i
  exact ⟨wrap_i64 (by omega), by omega⟩
end Caw

/-! Rows of strings. -/
namespace Caw
open Go Go.RowKit

def encZ (l : List ByteArray) : List AV := l.map fun x => .v (.string x)
def strsOf : List AV → Option (List ByteArray)
  | [] => some []
  | .v (.string x) :: r => (strsOf r).map (x :: ·)
  | _ => none
@[simp] theorem encZ_len (l : List ByteArray) : (encZ l).length = l.length := by simp [encZ]
@[simp] theorem encZ_nil : encZ [] = [] := rfl
@[simp] theorem strsOf_encZ : ∀ l : List ByteArray, strsOf (encZ l) = some l
  | [] => rfl
  | n :: l => by
    have := strsOf_encZ l
    simp only [encZ, List.map_cons, strsOf] at this ⊢
    rw [this]; rfl
theorem encZ_of : ∀ {es : List AV} {l : List ByteArray}, strsOf es = some l → es = encZ l
  | [], l, h => by
    simp only [strsOf, Option.some.injEq] at h
    subst h; rfl
  | e :: r, l, h => by
    unfold strsOf at h
    split at h
    · rename_i h1; cases h1
    · rename_i x q h1
      cases h1
      simp only [Option.map_eq_some_iff] at h
      obtain ⟨us, h2, rfl⟩ := h
      rw [encZ_of h2]; rfl
    · cases h
@[simp] theorem encZ_app (a b : List ByteArray) : encZ a ++ encZ b = encZ (a ++ b) := by simp [encZ]
@[simp] theorem encZ_snoc (a : List ByteArray) (b : ByteArray) : encZ a ++ [.v (.string b)] = encZ (a ++ [b]) := by simp [encZ]
@[simp] theorem encZ_take (k : Nat) (l : List ByteArray) : (encZ l).take k = encZ (l.take k) := by simp [encZ]
@[simp] theorem encZ_drop (k : Nat) (l : List ByteArray) : (encZ l).drop k = encZ (l.drop k) := by simp [encZ]
@[simp] theorem encZ_get? (l : List ByteArray) (k : Nat) : (encZ l)[k]? = l[k]?.map fun x => .v (.string x) := by simp [encZ]
@[simp] theorem encZ_flat (l : List ByteArray) : ((encZ l).all fun y => (flat y).all leafOk) = true := by
  simp [encZ, List.all_eq_true, flat, leafOk, Value.oneCell']
@[simp] theorem encZ_rows : ∀ l : List ByteArray, ((encZ l).flatMap flat).map strip = encZ l
  | [] => rfl
  | n :: l => by
    have := encZ_rows l
    simp only [encZ, List.map_cons, List.flatMap_cons, flat, List.cons_append, List.nil_append, strip] at this ⊢
    rw [this]
@[simp] theorem encZ_oneV (b : List ByteArray) : (encZ b).all oneV = true := by simp [encZ, oneV]
@[simp] theorem encZ_kL (s : St) (M : List Nm) (l : List ByteArray) : (encZ l).map (kL s M) = encZ l := by simp [encZ]
@[simp] theorem encZ_kLr (s : St) (m : List (Nm × Nm)) (M : List Nm) (l : List ByteArray) : (encZ l).map (kLr s m M) = encZ l := by simp [encZ]
@[simp] theorem encZ_fzL (n : Nm) (cs : List AV) (l : List ByteArray) : (encZ l).map (fzL n cs) = encZ l := by simp [encZ]
@[simp] theorem encZ_stripE (l : List ByteArray) : (encZ l).map stripE = encZ l := by simp [encZ, stripE]
@[simp] theorem encZ_co (φ ψ : Nm → Option Nm) (s s2 : St) : ∀ l : List ByteArray, All2P (CoL φ ψ s s2) (encZ l) (encZ l)
  | [] => trivial
  | x :: l => ⟨rfl, encZ_co φ ψ s s2 l⟩
theorem nat_neg (m : Nat) : decide ((m : Int) < 0) = false := by simp
@[simp] theorem cut_Z (b : List ByteArray) (k n : Nat) : cut (encZ b) k n = encZ ((b.drop k).take n) := by simp [cut]
theorem splice_Z (b : List ByteArray) (k : Nat) (x : ByteArray) (h : k < b.length) : splice (encZ b) k [.v (.string x)] 1 = encZ (b.set k x) := by
  simp only [splice, encZ_take, encZ_drop, encZ_snoc, encZ_app]
  congr 1
  rw [List.set_eq_take_append_cons_drop, if_pos h]
  simp
def decZs : AV → Option (List ByteArray)
  | .v (.slice none 0 0) => some []
  | .sl 1 es _ => strsOf es
  | _ => none
@[simp] theorem decZs_nil : decZs (.v (.slice none 0 0)) = some [] := rfl
@[simp] theorem decZs_sl (es : List AV) (tg : Tg) : decZs (.sl 1 es tg) = strsOf es := rfl
theorem decZs_co {x : AV} {l : List ByteArray} (h : decZs x = some l) : CoP x (.sl 1 (encZ l) none) := by
  unfold decZs at h
  split at h
  · cases h; exact coP_nil 1
  · rw [encZ_of h]; exact coP_sl _ _ _
  · cases h
theorem decZs_coA {x : AV} {l : List ByteArray} (h : decZs x = some l) : CoPA x (.sl 1 (encZ l) none) := coPA_of (decZs_co h)

def makeZ (P : Program) (t : TypeId) : Bool :=
  match P.underlying t with
  | some (.slice e) => (match P.info? e with
    | some i => (match i.zero with
      | some (.string ⟨⟨[]⟩⟩) => i.size == 1 && i.bytes == 16
      | _ => false)
    | none => false)
  | _ => false
theorem emakeZ_eq {P : Program} {st : St} {d : Nat} {t : TypeId} {n : Int} (h : makeZ P t = true) : emake P st d t n = if 0 ≤ n ∧ n * 17 ≤ 1099511627776 ∧ (st.ob (nmOf d 0)).isNone = true then
    some (.osl (nmOf d 0) 0 n.toNat n.toNat, { st with ob := setF st.ob (nmOf d 0) (some (encZ (List.replicate n.toNat ⟨#[]⟩))) }) else none := by
  unfold makeZ at h
  split at h
  case h_2 => cases h
  rename_i e hu
  split at h
  case h_2 => cases h
  rename_i i hi
  split at h
  case h_2 => cases h
  rename_i hz
  simp only [Bool.and_eq_true, beq_iff_eq] at h
  obtain ⟨h1, h2⟩ := h
  have e1 : ∀ k : Nat, (madeCells (Value.string ⟨#[]⟩).cells k).toList.map AV.v = encZ (List.replicate k ⟨#[]⟩) := by
    intro k
    have : (Value.string ⟨#[]⟩).cells = #[.string ⟨#[]⟩] := rfl
    rw [this]
    unfold madeCells encZ
    simp only [Array.toList_map, Array.toList_range, List.map_map]
    apply List.ext_getElem
    · simp
    · intro j hj1 hj2
      simp [Nat.mod_one]
  unfold emake
  simp only [hu, hi, hz, h1, h2, Nat.mul_one, if_true]
  rw [e1]
  rfl

/-! ### One byte -/
/-- Of one byte. -/
def one (t : ByteArray) : Prop := ∃ c, t = ⟨#[c]⟩
@[simp] theorem one_mk (c : UInt8) : one ⟨#[c]⟩ := ⟨c, rfl⟩
def hd (t : ByteArray) : UInt8 := t.data.toList.headD 0
@[simp] theorem hd_mk (c : UInt8) : hd ⟨#[c]⟩ = c := rfl
theorem one_eq {t : ByteArray} (h : one t) : t = ⟨#[hd t]⟩ := by
  obtain ⟨c, rfl⟩ := h; rfl
theorem one_size {t : ByteArray} (h : one t) : t.size = 1 := by
  obtain ⟨c, rfl⟩ := h; rfl
end Caw

/-! Printed by gentypes.py: what is asked of the types of this seat. -/
namespace Go.Proofs.YtljlhooodbfpiaaGreatDoor
open Go Go.RowKit Caw

theorem q_mixed : Tryz.prog.follows .mixedOrders = true := by kernel_rfl
@[simp] theorem q_row3 : rowT Tryz.prog 3 = some (false, 1) := by kernel_rfl
@[simp] theorem q_size3 : sizeT Tryz.prog 3 = some 1 := by kernel_rfl
@[simp] theorem q_int3 : intT Tryz.prog 3 = some .i64 := by kernel_rfl
@[simp] theorem q_ui3 : Tryz.prog.underlying 3 = some (.int .i64) := by kernel_rfl
@[simp] theorem q_row4 : rowT Tryz.prog 4 = some (false, 1) := by kernel_rfl
@[simp] theorem q_size4 : sizeT Tryz.prog 4 = some 1 := by kernel_rfl
@[simp] theorem q_bool4 : isBoolT Tryz.prog 4 = true := by kernel_rfl
@[simp] theorem q_ub4 : Tryz.prog.underlying 4 = some .bool := by kernel_rfl
@[simp] theorem q_row5 : rowT Tryz.prog 5 = some (false, 1) := by kernel_rfl
@[simp] theorem q_size5 : sizeT Tryz.prog 5 = some 1 := by kernel_rfl
@[simp] theorem q_int5 : intT Tryz.prog 5 = some .u8 := by kernel_rfl
@[simp] theorem q_ui5 : Tryz.prog.underlying 5 = some (.int .u8) := by kernel_rfl
@[simp] theorem q_row9 : rowT Tryz.prog 9 = some (false, 1) := by kernel_rfl
@[simp] theorem q_size9 : sizeT Tryz.prog 9 = some 1 := by kernel_rfl
@[simp] theorem q_us9 : Tryz.prog.underlying 9 = some .string := by kernel_rfl
@[simp] theorem q_row22 : rowT Tryz.prog 22 = some (false, 1) := by kernel_rfl
@[simp] theorem q_size22 : sizeT Tryz.prog 22 = some 1 := by kernel_rfl
@[simp] theorem q_int22 : intT Tryz.prog 22 = some .u32 := by kernel_rfl
@[simp] theorem q_ui22 : Tryz.prog.underlying 22 = some (.int .u32) := by kernel_rfl
@[simp] theorem q_row25 : rowT Tryz.prog 25 = some (false, 1) := by kernel_rfl
@[simp] theorem q_size25 : sizeT Tryz.prog 25 = some 1 := by kernel_rfl
@[simp] theorem q_sl25 : sliceT Tryz.prog 25 = some 1 := by kernel_rfl
@[simp] theorem q_app25 : appI Tryz.prog 25 = some (1, 1) := by kernel_rfl
@[simp] theorem q_ze25 : zeroE Tryz.prog 25 = true := by kernel_rfl
@[simp] theorem q_ul25 : Tryz.prog.underlying 25 = some (.slice 5) := by kernel_rfl
@[simp] theorem q_row27 : rowT Tryz.prog 27 = some (true, 7) := by kernel_rfl
@[simp] theorem q_size27 : sizeT Tryz.prog 27 = some 7 := by kernel_rfl
@[simp] theorem q_f27_0 : fieldOff Tryz.prog 27 0 = some 0 := by kernel_rfl
@[simp] theorem q_f27_1 : fieldOff Tryz.prog 27 1 = some 1 := by kernel_rfl
@[simp] theorem q_f27_2 : fieldOff Tryz.prog 27 2 = some 2 := by kernel_rfl
@[simp] theorem q_f27_3 : fieldOff Tryz.prog 27 3 = some 3 := by kernel_rfl
@[simp] theorem q_f27_4 : fieldOff Tryz.prog 27 4 = some 4 := by kernel_rfl
@[simp] theorem q_f27_5 : fieldOff Tryz.prog 27 5 = some 5 := by kernel_rfl
@[simp] theorem q_f27_6 : fieldOff Tryz.prog 27 6 = some 6 := by kernel_rfl
@[simp] theorem q_pl27 : placeT Tryz.prog 27 = some (fun i => [(0, 1), (1, 1), (2, 1), (3, 1), (4, 1), (5, 1), (6, 1)][i]?) := by kernel_rfl
@[simp] theorem q_nl27 : nilsT Tryz.prog 27 = [(3, 1), (4, 1)] := by kernel_rfl
@[simp] theorem q_z27 : zeroT Tryz.prog 27 = some (.agg #[.int .i64 0, .int .u32 0, .int .u32 0, .slice none 0 0, .slice none 0 0, .int .u32 0, .int .u32 0]) := by kernel_rfl
@[simp] theorem q_row29 : rowT Tryz.prog 29 = some (true, 4) := by kernel_rfl
@[simp] theorem q_size29 : sizeT Tryz.prog 29 = some 4 := by kernel_rfl
@[simp] theorem q_f29_0 : fieldOff Tryz.prog 29 0 = some 0 := by kernel_rfl
@[simp] theorem q_f29_1 : fieldOff Tryz.prog 29 1 = some 1 := by kernel_rfl
@[simp] theorem q_f29_2 : fieldOff Tryz.prog 29 2 = some 2 := by kernel_rfl
@[simp] theorem q_f29_3 : fieldOff Tryz.prog 29 3 = some 3 := by kernel_rfl
@[simp] theorem q_pl29 : placeT Tryz.prog 29 = some (fun i => [(0, 1), (1, 1), (2, 1), (3, 1)][i]?) := by kernel_rfl
@[simp] theorem q_nl29 : nilsT Tryz.prog 29 = [(3, 1)] := by kernel_rfl
@[simp] theorem q_z29 : zeroT Tryz.prog 29 = some (.agg #[.int .i64 0, .int .u32 0, .int .u32 0, .slice none 0 0]) := by kernel_rfl
@[simp] theorem q_row31 : rowT Tryz.prog 31 = some (true, 6) := by kernel_rfl
@[simp] theorem q_size31 : sizeT Tryz.prog 31 = some 6 := by kernel_rfl
@[simp] theorem q_arr31 : arrT Tryz.prog 31 = some (6, 1) := by kernel_rfl
@[simp] theorem q_pl31 : placeT Tryz.prog 31 = some (fun i => some (i * 1, 1)) := by kernel_rfl
@[simp] theorem q_nl31 : nilsT Tryz.prog 31 = [] := by kernel_rfl
@[simp] theorem q_z31 : zeroT Tryz.prog 31 = some (.agg #[.int .u8 0, .int .u8 0, .int .u8 0, .int .u8 0, .int .u8 0, .int .u8 0]) := by kernel_rfl
@[simp] theorem q_row33 : rowT Tryz.prog 33 = some (true, 4) := by kernel_rfl
@[simp] theorem q_size33 : sizeT Tryz.prog 33 = some 4 := by kernel_rfl
@[simp] theorem q_arr33 : arrT Tryz.prog 33 = some (4, 1) := by kernel_rfl
@[simp] theorem q_pl33 : placeT Tryz.prog 33 = some (fun i => some (i * 1, 1)) := by kernel_rfl
@[simp] theorem q_nl33 : nilsT Tryz.prog 33 = [] := by kernel_rfl
@[simp] theorem q_z33 : zeroT Tryz.prog 33 = some (.agg #[.int .u8 0, .int .u8 0, .int .u8 0, .int .u8 0]) := by kernel_rfl
@[simp] theorem q_row38 : rowT Tryz.prog 38 = some (false, 1) := by kernel_rfl
@[simp] theorem q_size38 : sizeT Tryz.prog 38 = some 1 := by kernel_rfl
@[simp] theorem q_sl38 : sliceT Tryz.prog 38 = some 1 := by kernel_rfl
@[simp] theorem q_app38 : appI Tryz.prog 38 = some (1, 24) := by kernel_rfl
@[simp] theorem q_ze38 : zeroE Tryz.prog 38 = true := by kernel_rfl
@[simp] theorem q_ul38 : Tryz.prog.underlying 38 = some (.slice 25) := by kernel_rfl
@[simp] theorem q_row39 : rowT Tryz.prog 39 = some (false, 1) := by kernel_rfl
@[simp] theorem q_size39 : sizeT Tryz.prog 39 = some 1 := by kernel_rfl
@[simp] theorem q_int39 : intT Tryz.prog 39 = some .u16 := by kernel_rfl
@[simp] theorem q_ui39 : Tryz.prog.underlying 39 = some (.int .u16) := by kernel_rfl
@[simp] theorem q_row46 : rowT Tryz.prog 46 = some (false, 1) := by kernel_rfl
@[simp] theorem q_size46 : sizeT Tryz.prog 46 = some 1 := by kernel_rfl
@[simp] theorem q_sl46 : sliceT Tryz.prog 46 = some 1 := by kernel_rfl
@[simp] theorem q_app46 : appI Tryz.prog 46 = some (1, 1) := by kernel_rfl
@[simp] theorem q_ze46 : zeroE Tryz.prog 46 = true := by kernel_rfl
@[simp] theorem q_ul46 : Tryz.prog.underlying 46 = some (.slice 4) := by kernel_rfl
@[simp] theorem q_row49 : rowT Tryz.prog 49 = some (false, 1) := by kernel_rfl
@[simp] theorem q_size49 : sizeT Tryz.prog 49 = some 1 := by kernel_rfl
@[simp] theorem q_int49 : intT Tryz.prog 49 = some .u64 := by kernel_rfl
@[simp] theorem q_ui49 : Tryz.prog.underlying 49 = some (.int .u64) := by kernel_rfl
@[simp] theorem q_row54 : rowT Tryz.prog 54 = some (true, 37) := by kernel_rfl
@[simp] theorem q_size54 : sizeT Tryz.prog 54 = some 37 := by kernel_rfl
@[simp] theorem q_f54_0 : fieldOff Tryz.prog 54 0 = some 0 := by kernel_rfl
@[simp] theorem q_f54_1 : fieldOff Tryz.prog 54 1 = some 6 := by kernel_rfl
@[simp] theorem q_f54_2 : fieldOff Tryz.prog 54 2 = some 10 := by kernel_rfl
@[simp] theorem q_f54_3 : fieldOff Tryz.prog 54 3 = some 11 := by kernel_rfl
@[simp] theorem q_f54_4 : fieldOff Tryz.prog 54 4 = some 12 := by kernel_rfl
@[simp] theorem q_f54_5 : fieldOff Tryz.prog 54 5 = some 13 := by kernel_rfl
@[simp] theorem q_f54_6 : fieldOff Tryz.prog 54 6 = some 14 := by kernel_rfl
@[simp] theorem q_f54_7 : fieldOff Tryz.prog 54 7 = some 19 := by kernel_rfl
@[simp] theorem q_f54_8 : fieldOff Tryz.prog 54 8 = some 24 := by kernel_rfl
@[simp] theorem q_f54_9 : fieldOff Tryz.prog 54 9 = some 35 := by kernel_rfl
@[simp] theorem q_f54_10 : fieldOff Tryz.prog 54 10 = some 36 := by kernel_rfl
@[simp] theorem q_pl54 : placeT Tryz.prog 54 = some (fun i => [(0, 6), (6, 4), (10, 1), (11, 1), (12, 1), (13, 1), (14, 5), (19, 5), (24, 11), (35, 1), (36, 1)][i]?) := by kernel_rfl
@[simp] theorem q_nl54 : nilsT Tryz.prog 54 = [] := by kernel_rfl
@[simp] theorem q_z54 : zeroT Tryz.prog 54 = some (.agg #[.int .u8 0, .int .u8 0, .int .u8 0, .int .u8 0, .int .u8 0, .int .u8 0, .int .u8 0, .int .u8 0, .int .u8 0, .int .u8 0, .slice none 0 0, .slice none 0 0, .slice none 0 0, .slice none 0 0, .slice none 0 0, .int .u16 0, .int .u16 0, .int .u16 0, .int .u16 0, .slice none 0 0, .int .u16 0, .int .u16 0, .int .u16 0, .int .u16 0, .int .u8 0, .int .u8 0, .int .u8 0, .int .u8 0, .slice none 0 0, .int .u16 0, .slice none 0 0, .slice none 0 0, .slice none 0 0, .int .u64 0, .int .u32 0, .slice none 0 0, .int .u16 0]) := by kernel_rfl
@[simp] theorem q_row60 : rowT Tryz.prog 60 = some (false, 1) := by kernel_rfl
@[simp] theorem q_size60 : sizeT Tryz.prog 60 = some 1 := by kernel_rfl
@[simp] theorem q_int60 : intT Tryz.prog 60 = some .i64 := by kernel_rfl
@[simp] theorem q_ui60 : Tryz.prog.underlying 60 = some (.int .i64) := by kernel_rfl
@[simp] theorem q_row74 : rowT Tryz.prog 74 = some (false, 1) := by kernel_rfl
@[simp] theorem q_size74 : sizeT Tryz.prog 74 = some 1 := by kernel_rfl
@[simp] theorem q_sl74 : sliceT Tryz.prog 74 = some 1 := by kernel_rfl
@[simp] theorem q_app74 : appI Tryz.prog 74 = some (1, 8) := by kernel_rfl
@[simp] theorem q_ze74 : zeroE Tryz.prog 74 = true := by kernel_rfl
@[simp] theorem q_ul74 : Tryz.prog.underlying 74 = some (.slice 3) := by kernel_rfl
@[simp] theorem q_row76 : rowT Tryz.prog 76 = some (true, 14) := by kernel_rfl
@[simp] theorem q_size76 : sizeT Tryz.prog 76 = some 14 := by kernel_rfl
@[simp] theorem q_f76_0 : fieldOff Tryz.prog 76 0 = some 0 := by kernel_rfl
@[simp] theorem q_f76_1 : fieldOff Tryz.prog 76 1 = some 1 := by kernel_rfl
@[simp] theorem q_f76_2 : fieldOff Tryz.prog 76 2 = some 2 := by kernel_rfl
@[simp] theorem q_f76_3 : fieldOff Tryz.prog 76 3 = some 3 := by kernel_rfl
@[simp] theorem q_f76_4 : fieldOff Tryz.prog 76 4 = some 4 := by kernel_rfl
@[simp] theorem q_f76_5 : fieldOff Tryz.prog 76 5 = some 5 := by kernel_rfl
@[simp] theorem q_f76_6 : fieldOff Tryz.prog 76 6 = some 6 := by kernel_rfl
@[simp] theorem q_f76_7 : fieldOff Tryz.prog 76 7 = some 10 := by kernel_rfl
@[simp] theorem q_f76_8 : fieldOff Tryz.prog 76 8 = some 11 := by kernel_rfl
@[simp] theorem q_f76_9 : fieldOff Tryz.prog 76 9 = some 12 := by kernel_rfl
@[simp] theorem q_f76_10 : fieldOff Tryz.prog 76 10 = some 13 := by kernel_rfl
@[simp] theorem q_pl76 : placeT Tryz.prog 76 = some (fun i => [(0, 1), (1, 1), (2, 1), (3, 1), (4, 1), (5, 1), (6, 4), (10, 1), (11, 1), (12, 1), (13, 1)][i]?) := by kernel_rfl
@[simp] theorem q_nl76 : nilsT Tryz.prog 76 = [(3, 1), (4, 1)] := by kernel_rfl
@[simp] theorem q_z76 : zeroT Tryz.prog 76 = some (.agg #[.int .i64 0, .int .u32 0, .int .i64 0, .slice none 0 0, .slice none 0 0, .int .i64 0, .int .i64 0, .int .u32 0, .int .u32 0, .slice none 0 0, .bool false, .int .u64 0, .int .i64 0, .int .i64 0]) := by kernel_rfl
@[simp] theorem q_row83 : rowT Tryz.prog 83 = some (false, 1) := by kernel_rfl
@[simp] theorem q_size83 : sizeT Tryz.prog 83 = some 1 := by kernel_rfl
@[simp] theorem q_sl83 : sliceT Tryz.prog 83 = some 2 := by kernel_rfl
@[simp] theorem q_app83 : appI Tryz.prog 83 = some (2, 16) := by kernel_rfl
@[simp] theorem q_ze83 : zeroE Tryz.prog 83 = true := by kernel_rfl
@[simp] theorem q_ul83 : Tryz.prog.underlying 83 = some (.slice 511) := by kernel_rfl
@[simp] theorem q_mk25 : makeB Tryz.prog 25 = true := by kernel_rfl
end Go.Proofs.YtljlhooodbfpiaaGreatDoor

/-! Printed by gencells7.py: messages and targets of a carrying. -/
namespace Caw
open Go Go.RowKit
set_option linter.unusedSimpArgs false
set_option maxRecDepth 100000

@[ext] structure Msg where
  kind : Int
  run : Int
  num : Int
  data : List Int
deriving Inhabited
def msgCells (x : Msg) : List AV := [.v (.int .i64 x.kind), .v (.int .u32 x.run), .v (.int .u32 x.num), .sl 1 (encB x.data) none]
noncomputable def pMsg : List AV → Option (Msg × List AV) := fun cs => (pI .i64 cs).bind fun (a0, cs) => (pI .u32 cs).bind fun (a1, cs) => (pI .u32 cs).bind fun (a2, cs) => (pB cs).bind fun (a3, cs) => some (⟨a0, a1, a2, a3⟩, cs)
theorem pMsg_snd : Snd CoP pMsg (fun x => msgCells x) := by
  intro cs x r h0
  unfold pMsg at h0
  obtain ⟨a0, r0, q0, h1, e0, c0⟩ := Snd.step (pI_snd .i64) h0
  obtain ⟨a1, r1, q1, h2, e1, c1⟩ := Snd.step (pI_snd .u32) h1
  obtain ⟨a2, r2, q2, h3, e2, c2⟩ := Snd.step (pI_snd .u32) h2
  obtain ⟨a3, r3, q3, h4, e3, c3⟩ := Snd.step pB_snd h3
  cases h4
  subst e3 e2 e1 e0
  exact ⟨(q0 ++ (q1 ++ (q2 ++ q3))), by simp only [List.append_assoc], (c0.app (c1.app (c2.app c3)))⟩
@[simp] theorem pMsg_app (x : Msg) (r : List AV) : pMsg (msgCells x ++ r) = some (x, r) := by simp [pMsg, msgCells]
@[simp] theorem pMsg_all (x : Msg) : pMsg (msgCells x) = some (x, []) := by have := pMsg_app x []; rwa [List.append_nil] at this
@[simp] theorem msgCells_len (x : Msg) : (msgCells x).length = 4 := rfl
@[simp high] theorem mkAgg_msg (x : Msg) : mkAgg (msgCells x) = .agg (msgCells x) := rfl
@[simp] theorem whole_msg (x : Msg) : whole pMsg (.agg (msgCells x)) = some x := by simp
@[simp] theorem msg_get_kind (x : Msg) : (msgCells x)[0]? = some (.v (.int .i64 x.kind)) := rfl
@[simp] theorem msg_put_kind (x : Msg) (y : Int) : splice (msgCells x) 0 [.v (.int .i64 y)] 1 = msgCells { x with kind := y } := rfl
@[simp] theorem msg_get_run (x : Msg) : (msgCells x)[1]? = some (.v (.int .u32 x.run)) := rfl
@[simp] theorem msg_put_run (x : Msg) (y : Int) : splice (msgCells x) 1 [.v (.int .u32 y)] 1 = msgCells { x with run := y } := rfl
@[simp] theorem msg_get_num (x : Msg) : (msgCells x)[2]? = some (.v (.int .u32 x.num)) := rfl
@[simp] theorem msg_put_num (x : Msg) (y : Int) : splice (msgCells x) 2 [.v (.int .u32 y)] 1 = msgCells { x with num := y } := rfl
@[simp] theorem msg_get_data (x : Msg) : (msgCells x)[3]? = some (.sl 1 (encB x.data) none) := rfl
@[simp] theorem msg_put_data (x : Msg) (y : List Int) : splice (msgCells x) 3 [.sl 1 (encB y) none] 1 = msgCells { x with data := y } := rfl
@[simp] theorem msg_whole (x : Msg) (ys : List AV) : splice (msgCells x) 0 ys 4 = ys := by simp [splice, msgCells]
@[simp] theorem msg_cutall (x : Msg) : cut (msgCells x) 0 4 = msgCells x := rfl
@[simp] theorem msgCells_leafH (x : Msg) : (msgCells x).all leafH = true := rfl
@[simp] theorem msgCells_leafP (x : Msg) : (msgCells x).all leafP = true := rfl
@[simp] theorem msgCells_leafOk (x : Msg) : (msgCells x).all leafOk = true := rfl
@[simp] theorem msgCells_kL (s : St) (M : List Nm) (x : Msg) : (msgCells x).map (kL s M) = msgCells x := rfl
@[simp] theorem msgCells_strip (x : Msg) : (msgCells x).map strip = msgCells x := rfl
@[simp] theorem msgCells_stripL (x : Msg) : (msgCells x).map stripL = msgCells x := rfl
@[simp] theorem msgCells_name (g : Nm → Nat) (d i k : Nat) (x : Msg) : nameC g d i k (msgCells x) = msgCells x := rfl
@[simp] theorem msgCells_flag (s : St) (x : Msg) : (msgCells x).map (flagL s) = msgCells x := rfl
@[simp] theorem msgCells_tags (s : St) (x : Msg) : tagsOf s (msgCells x) = [] := by simp [msgCells, tagsOf]
@[simp] theorem msgCells_co (φ ψ : Nm → Option Nm) (s s2 : St) (x : Msg) : All2P (CoL φ ψ s s2) (msgCells x) (msgCells x) := by simp [msgCells]

@[ext] structure Targ where
  phase : Int
  run : Int
  num : Int
  bytes : List Int
  kernel : List Int
  seen : Int
  committed : Int
deriving Inhabited
def targCells (x : Targ) : List AV := [.v (.int .i64 x.phase), .v (.int .u32 x.run), .v (.int .u32 x.num), .sl 1 (encB x.bytes) none, .sl 1 (encB x.kernel) none, .v (.int .u32 x.seen), .v (.int .u32 x.committed)]
noncomputable def pTarg : List AV → Option (Targ × List AV) := fun cs => (pI .i64 cs).bind fun (a0, cs) => (pI .u32 cs).bind fun (a1, cs) => (pI .u32 cs).bind fun (a2, cs) => (pB cs).bind fun (a3, cs) => (pB cs).bind fun (a4, cs) => (pI .u32 cs).bind fun (a5, cs) => (pI .u32 cs).bind fun (a6, cs) => some (⟨a0, a1, a2, a3, a4, a5, a6⟩, cs)
theorem pTarg_snd : Snd CoP pTarg (fun x => targCells x) := by
  intro cs x r h0
  unfold pTarg at h0
  obtain ⟨a0, r0, q0, h1, e0, c0⟩ := Snd.step (pI_snd .i64) h0
  obtain ⟨a1, r1, q1, h2, e1, c1⟩ := Snd.step (pI_snd .u32) h1
  obtain ⟨a2, r2, q2, h3, e2, c2⟩ := Snd.step (pI_snd .u32) h2
  obtain ⟨a3, r3, q3, h4, e3, c3⟩ := Snd.step pB_snd h3
  obtain ⟨a4, r4, q4, h5, e4, c4⟩ := Snd.step pB_snd h4
  obtain ⟨a5, r5, q5, h6, e5, c5⟩ := Snd.step (pI_snd .u32) h5
  obtain ⟨a6, r6, q6, h7, e6, c6⟩ := Snd.step (pI_snd .u32) h6
  cases h7
  subst e6 e5 e4 e3 e2 e1 e0
  exact ⟨(q0 ++ (q1 ++ (q2 ++ (q3 ++ (q4 ++ (q5 ++ q6)))))), by simp only [List.append_assoc], (c0.app (c1.app (c2.app (c3.app (c4.app (c5.app c6))))))⟩
@[simp] theorem pTarg_app (x : Targ) (r : List AV) : pTarg (targCells x ++ r) = some (x, r) := by simp [pTarg, targCells]
@[simp] theorem pTarg_all (x : Targ) : pTarg (targCells x) = some (x, []) := by have := pTarg_app x []; rwa [List.append_nil] at this
@[simp] theorem targCells_len (x : Targ) : (targCells x).length = 7 := rfl
@[simp high] theorem mkAgg_targ (x : Targ) : mkAgg (targCells x) = .agg (targCells x) := rfl
@[simp] theorem whole_targ (x : Targ) : whole pTarg (.agg (targCells x)) = some x := by simp
@[simp] theorem targ_get_phase (x : Targ) : (targCells x)[0]? = some (.v (.int .i64 x.phase)) := rfl
@[simp] theorem targ_put_phase (x : Targ) (y : Int) : splice (targCells x) 0 [.v (.int .i64 y)] 1 = targCells { x with phase := y } := rfl
@[simp] theorem targ_get_run (x : Targ) : (targCells x)[1]? = some (.v (.int .u32 x.run)) := rfl
@[simp] theorem targ_put_run (x : Targ) (y : Int) : splice (targCells x) 1 [.v (.int .u32 y)] 1 = targCells { x with run := y } := rfl
@[simp] theorem targ_get_num (x : Targ) : (targCells x)[2]? = some (.v (.int .u32 x.num)) := rfl
@[simp] theorem targ_put_num (x : Targ) (y : Int) : splice (targCells x) 2 [.v (.int .u32 y)] 1 = targCells { x with num := y } := rfl
@[simp] theorem targ_get_bytes (x : Targ) : (targCells x)[3]? = some (.sl 1 (encB x.bytes) none) := rfl
@[simp] theorem targ_put_bytes (x : Targ) (y : List Int) : splice (targCells x) 3 [.sl 1 (encB y) none] 1 = targCells { x with bytes := y } := rfl
@[simp] theorem targ_get_kernel (x : Targ) : (targCells x)[4]? = some (.sl 1 (encB x.kernel) none) := rfl
@[simp] theorem targ_put_kernel (x : Targ) (y : List Int) : splice (targCells x) 4 [.sl 1 (encB y) none] 1 = targCells { x with kernel := y } := rfl
@[simp] theorem targ_get_seen (x : Targ) : (targCells x)[5]? = some (.v (.int .u32 x.seen)) := rfl
@[simp] theorem targ_put_seen (x : Targ) (y : Int) : splice (targCells x) 5 [.v (.int .u32 y)] 1 = targCells { x with seen := y } := rfl
@[simp] theorem targ_get_committed (x : Targ) : (targCells x)[6]? = some (.v (.int .u32 x.committed)) := rfl
@[simp] theorem targ_put_committed (x : Targ) (y : Int) : splice (targCells x) 6 [.v (.int .u32 y)] 1 = targCells { x with committed := y } := rfl
@[simp] theorem targ_whole (x : Targ) (ys : List AV) : splice (targCells x) 0 ys 7 = ys := by simp [splice, targCells]
@[simp] theorem targ_cutall (x : Targ) : cut (targCells x) 0 7 = targCells x := rfl
@[simp] theorem targCells_leafH (x : Targ) : (targCells x).all leafH = true := rfl
@[simp] theorem targCells_leafP (x : Targ) : (targCells x).all leafP = true := rfl
@[simp] theorem targCells_leafOk (x : Targ) : (targCells x).all leafOk = true := rfl
@[simp] theorem targCells_kL (s : St) (M : List Nm) (x : Targ) : (targCells x).map (kL s M) = targCells x := rfl
@[simp] theorem targCells_strip (x : Targ) : (targCells x).map strip = targCells x := rfl
@[simp] theorem targCells_stripL (x : Targ) : (targCells x).map stripL = targCells x := rfl
@[simp] theorem targCells_name (g : Nm → Nat) (d i k : Nat) (x : Targ) : nameC g d i k (targCells x) = targCells x := rfl
@[simp] theorem targCells_flag (s : St) (x : Targ) : (targCells x).map (flagL s) = targCells x := rfl
@[simp] theorem targCells_tags (s : St) (x : Targ) : tagsOf s (targCells x) = [] := by simp [targCells, tagsOf]
@[simp] theorem targCells_co (φ ψ : Nm → Option Nm) (s s2 : St) (x : Targ) : All2P (CoL φ ψ s s2) (targCells x) (targCells x) := by simp [targCells]

@[simp] theorem msgCells_kLr (s : St) (l : List (Nm × Nm)) (M : List Nm) (x : Msg) : (msgCells x).map (kLr s l M) = msgCells x := rfl
@[simp] theorem msgCells_tagsAt (s : St) (n : Nm) (k : Nat) (x : Msg) : tagsAt s n k (msgCells x) = [] := by simp [msgCells, tagsAt]
@[simp] theorem mergeC_msg (b : Bool) (x y : Msg) : mergeC b (msgCells x) (msgCells y) = msgCells (if b = true then x else y) := by cases b <;> rfl
@[simp] theorem ite_msgCells (c : Prop) [Decidable c] (x y : Msg) : (if c then msgCells x else msgCells y) = msgCells (if c then x else y) := by split <;> rfl
theorem msgCells_coE {φ ψ : Nm → Option Nm} {s s2 : St} {x y : Msg} (e : x = y) : All2P (CoL φ ψ s s2) (msgCells x) (msgCells y) := by subst e; exact msgCells_co ..
@[simp] theorem targCells_kLr (s : St) (l : List (Nm × Nm)) (M : List Nm) (x : Targ) : (targCells x).map (kLr s l M) = targCells x := rfl
@[simp] theorem targCells_tagsAt (s : St) (n : Nm) (k : Nat) (x : Targ) : tagsAt s n k (targCells x) = [] := by simp [targCells, tagsAt]
@[simp] theorem mergeC_targ (b : Bool) (x y : Targ) : mergeC b (targCells x) (targCells y) = targCells (if b = true then x else y) := by cases b <;> rfl
@[simp] theorem ite_targCells (c : Prop) [Decidable c] (x y : Targ) : (if c then targCells x else targCells y) = targCells (if c then x else y) := by split <;> rfl
theorem targCells_coE {φ ψ : Nm → Option Nm} {s s2 : St} {x y : Targ} (e : x = y) : All2P (CoL φ ψ s s2) (targCells x) (targCells y) := by subst e; exact targCells_co ..
end Caw

/-! What a target does of a message, as far as the law CarryOld asks. -/
namespace Caw
open Go Go.RowKit

theorem encB_cons (x : Int) (r : List Int) : encB (x :: r) = .v (.int .u8 x) :: encB r := rfl

def hostV : Value := .agg #[.int .u8 0, .int .u8 0, .int .u8 0, .int .u8 0, .int .u8 0, .int .u8 0, .int .u8 0, .int .u8 0, .int .u8 0, .int .u8 0, .slice none 0 0, .slice none 0 0, .slice none 0 0, .slice none 0 0, .slice none 0 0, .int .u16 0, .int .u16 0, .int .u16 0, .int .u16 0, .slice none 0 0, .int .u16 0, .int .u16 0, .int .u16 0, .int .u16 0, .int .u8 0, .int .u8 0, .int .u8 0, .int .u8 0, .slice none 0 0, .int .u16 0, .slice none 0 0, .slice none 0 0, .slice none 0 0, .int .u64 0, .int .u32 0, .slice none 0 0, .int .u16 0]

def takeP (t : Targ) (m : Msg) : Prop := ((m.kind = 1 ∧ m.num = 1) ∨ (m.kind = 5 ∧ m.run = t.committed)) ∧ t.phase ≠ 3 ∧ (m.run = t.run → m.run ≠ 0 → t.num = 1)
/-- The bytes of a heap of nothing. -/
def zs : List Int := List.replicate 512 0
theorem zs_len : zs.length = 512 := by unfold zs; rw [List.length_replicate]
/-- The target behind a message, the answer, and whether there is one. -/
def takeF (t : Targ) (m : Msg) : Targ × Msg × Bool :=
  if m.run = 0 then (t, ⟨0, 0, 0, []⟩, false)
  else if m.run = t.committed then (t, ⟨6, m.run, m.num, []⟩, true)
  else if t.seen < m.run then (⟨1, m.run, 1, zs, [], m.run, t.committed⟩, ⟨6, m.run, m.num, []⟩, true)
  else if m.run ≠ t.run then (t, ⟨7, m.run, m.num, []⟩, true)
  else (t, ⟨6, m.run, m.num, []⟩, true)
def crashF (t : Targ) : Targ := ⟨0, 0, 0, [], [], t.seen, t.committed⟩
end Caw
namespace Caw
theorem take_cases {t : Targ} {m : Msg} (h : takeP t m) :
    (decide (m.kind < 1) = false ∧ decide (5 < m.kind) = false ∧ (t.phase == 3) = false) ∧
    (((m.run == 0) = true ∧ takeF t m = (t, ⟨0, 0, 0, []⟩, false)) ∨
     ((m.run == 0) = false ∧ (m.run == t.committed) = true ∧ takeF t m = (t, ⟨6, m.run, m.num, []⟩, true)) ∨
     ((m.run == 0) = false ∧ (m.run == t.committed) = false ∧ (m.kind == 1) = true ∧ (m.num == 1) = true ∧ decide (t.seen < m.run) = true ∧ takeF t m = (⟨1, m.run, 1, zs, [], m.run, t.committed⟩, ⟨6, m.run, m.num, []⟩, true)) ∨
     ((m.run == 0) = false ∧ (m.run == t.committed) = false ∧ (m.kind == 1) = true ∧ (m.num == 1) = true ∧ decide (t.seen < m.run) = false ∧ (m.run != t.run) = true ∧ takeF t m = (t, ⟨7, m.run, m.num, []⟩, true)) ∨
     ((m.run == 0) = false ∧ (m.run == t.committed) = false ∧ (m.kind == 1) = true ∧ (m.num == 1) = true ∧ decide (t.seen < m.run) = false ∧ (m.run != t.run) = false ∧ (m.num == t.num) = true ∧ takeF t m = (t, ⟨6, m.run, m.num, []⟩, true))) := by
  obtain ⟨hk, hp, hn⟩ := h
  refine ⟨⟨by rcases hk with h | h <;> simp [h.1], by rcases hk with h | h <;> simp [h.1], by simpa using hp⟩, ?_⟩
  by_cases h0 : m.run = 0
  · exact .inl ⟨by simpa using h0, by simp [takeF, h0]⟩
  have h0' : (m.run == 0) = false := by simpa using h0
  by_cases hc : m.run = t.committed
  · exact .inr (.inl ⟨h0', by simpa using hc, by unfold takeF; rw [if_neg h0, if_pos hc]⟩)
  have hc' : (m.run == t.committed) = false := by simpa using hc
  obtain ⟨k1, k2⟩ : m.kind = 1 ∧ m.num = 1 := hk.resolve_right (fun h => hc h.2)
  by_cases hs : t.seen < m.run
  · exact .inr (.inr (.inl ⟨h0', hc', by simpa using k1, by simpa using k2, by simpa using hs, by unfold takeF; rw [if_neg h0, if_neg hc, if_pos hs]⟩))
  by_cases hr : m.run = t.run
  · have := hn hr h0
    exact .inr (.inr (.inr (.inr ⟨h0', hc', by simpa using k1, by simpa using k2, by simpa using hs, by simpa using hr, by rw [k2, this]; rfl, by unfold takeF; rw [if_neg h0, if_neg hc, if_neg hs, if_neg (by simpa using hr)]⟩)))
  · exact .inr (.inr (.inr (.inl ⟨h0', hc', by simpa using k1, by simpa using k2, by simpa using hs, by simpa using hr, by unfold takeF; rw [if_neg h0, if_neg hc, if_neg hs, if_pos hr]⟩)))
theorem zs_take : List.take 512 zs = zs := List.take_of_length_le (Nat.le_of_eq zs_len)
theorem range2 : List.range 2 = [0, 1] := rfl
def dNil : AV → Option Unit
  | .v (.slice none 0 0) => some ()
  | _ => none
@[simp] theorem dNil_v : dNil (.v (.slice none 0 0)) = some () := rfl
theorem dNil_co {x : AV} {u : Unit} (h : dNil x = some u) : CoPA x (.sl 2 [] none) := by
  unfold dNil at h
  split at h
  · exact coPA_of (coP_nil 2)
  · cases h
theorem emake512 {P : Go.Program} {st : St} {d : Nat} {t : Go.TypeId} (h : makeB P t = true) : emake P st d t 512 = if (st.ob (nmOf d 0)).isNone = true then
    some (.osl (nmOf d 0) 0 512 512, { st with ob := setF st.ob (nmOf d 0) (some (encB zs)) }) else none := by
  rw [emake_eq h]
  have h1 : (0 : Int) ≤ 512 ∧ (512 : Int) * 2 ≤ 1099511627776 := by omega
  simp only [h1, true_and]
  rfl
theorem old_cases {run old : Int} (r1 : 0 ≤ run) (o1 : 0 ≤ old) (h0 : ¬ run = 0) :
    (decide (run < old) = false ∧ (old == run) = false ∧ (old == 0) = true ∧ (old != 0) = false ∧ maxI run old = run ∧ takeF ⟨1, run, 1, zs, [], run, 0⟩ ⟨1, old, 1, []⟩ = (⟨1, run, 1, zs, [], run, 0⟩, ⟨0, 0, 0, []⟩, false) ∧ takeF ⟨0, 0, 0, [], [], run, 0⟩ ⟨1, old, 1, []⟩ = (⟨0, 0, 0, [], [], run, 0⟩, ⟨0, 0, 0, []⟩, false)) ∨
    (decide (run < old) = true ∧ (old == run) = false ∧ (old == 0) = false ∧ (old != 0) = true ∧ maxI run old = old ∧ takeF ⟨1, run, 1, zs, [], run, 0⟩ ⟨1, old, 1, []⟩ = (⟨1, old, 1, zs, [], old, 0⟩, ⟨6, old, 1, []⟩, true) ∧ takeF ⟨0, 0, 0, [], [], run, 0⟩ ⟨1, old, 1, []⟩ = (⟨1, old, 1, zs, [], old, 0⟩, ⟨6, old, 1, []⟩, true)) ∨
    (decide (run < old) = false ∧ (old == run) = true ∧ (old == 0) = false ∧ (old != 0) = true ∧ maxI run old = run ∧ takeF ⟨1, run, 1, zs, [], run, 0⟩ ⟨1, old, 1, []⟩ = (⟨1, run, 1, zs, [], run, 0⟩, ⟨6, old, 1, []⟩, true) ∧ takeF ⟨0, 0, 0, [], [], run, 0⟩ ⟨1, old, 1, []⟩ = (⟨0, 0, 0, [], [], run, 0⟩, ⟨7, old, 1, []⟩, true)) ∨
    (decide (run < old) = false ∧ (old == run) = false ∧ (old == 0) = false ∧ (old != 0) = true ∧ maxI run old = run ∧ takeF ⟨1, run, 1, zs, [], run, 0⟩ ⟨1, old, 1, []⟩ = (⟨1, run, 1, zs, [], run, 0⟩, ⟨7, old, 1, []⟩, true) ∧ takeF ⟨0, 0, 0, [], [], run, 0⟩ ⟨1, old, 1, []⟩ = (⟨0, 0, 0, [], [], run, 0⟩, ⟨7, old, 1, []⟩, true)) := by
  have mx : ∀ {a b : Int}, a < b → maxI a b = b := fun h => by unfold maxI; rw [if_pos h]
  have mn : ∀ {a b : Int}, ¬ a < b → maxI a b = a := fun h => by unfold maxI; rw [if_neg h]
  by_cases h1 : old = 0
  · subst h1
    have : ¬ run < 0 := by omega
    exact .inl ⟨by simpa using r1, by simpa using Ne.symm h0, rfl, rfl, mn this, by simp [takeF], by simp [takeF]⟩
  by_cases h2 : run < old
  · exact .inr (.inl ⟨by simpa using h2, by simp; omega, by simpa using h1, by simpa using h1, mx h2, by simp [takeF, h1, h2], by simp [takeF, h1, h2]⟩)
  by_cases h3 : old = run
  · subst h3
    exact .inr (.inr (.inl ⟨by simp, by simp, by simpa using h1, by simpa using h1, mn h2, by simp [takeF, h1], by simp [takeF, h1]⟩))
  · exact .inr (.inr (.inr ⟨by simp; omega, by simpa using h3, by simpa using h1, by simpa using h1, mn h2, by simp [takeF, h1, h2, h3], by simp [takeF, h1, h2]⟩))
end Caw

-- Printed by genwalk.py.
namespace Go.Proofs.YtljlhooodbfpiaaGreatDoor
open Go Go.RowKit Caw
set_option linter.unusedSimpArgs false
set_option linter.unusedVariables false
set_option maxRecDepth 100000

-- slices.Clone[[]byte,byte]
set_option maxHeartbeats 400000 in
theorem at44 (d : List Int) (hpre : d.length ≤ 100000) : SpecAt Tryz.prog 44 [.sl 1 (encB d) none] (.sl 1 (encB d) none) none := by
  refine specAt_of_tri Tryz.func44 rfl (Nat.le_of_ble_eq_true rfl) ?_
  cases d with
  | nil =>
    refine tri_nil (i := 0) (sz := 1) (tg := none) rfl (by decide) ?_
    intro a cap
    cases a with
    | none =>
      all_goals (repeat' (first
      | (refine tri_condT (b_true (by simp; with_reducible exact IsB.mk)) ?_)
      | (refine tri_condF (b_true (by simp; with_reducible exact IsB.mk)) ?_)
      | (refine tri_skipT ?_)
      | (refine tri_skip ?_)
      | (refine then_to ?_)
      | (refine th_n ?_)
      | (refine in_n ?_)
      | (refine in_e ?_)
      | (refine in_x rfl ?_)
      | (refine th_e ?_)
      | (refine th_r ?_)
      | (refine in_r ?_)
      | (refine tri_ret ?_)
      | (refine tri_exit ?_)
      | (refine tri_block ?_)
      | (refine tri_step (id := 0) (C := ⟨[], [], []⟩) [0] [] gok_nil nodraw ?_; refine ⟨_, by (simp [*, encB_cons, flg]; exact Is.mk), ?_⟩)
      | (refine tri_last (id := 0) (C := ⟨[], [], []⟩) [0] [] gok_nil nodraw ?_; refine ⟨_, by (simp [*, encB_cons, flg]; exact Is.mk), ?_⟩)
      | (refine tri_step (id := 1) (C := ⟨[], [], []⟩) [0, 4] [] gok_nil nodraw ?_; refine ⟨_, by (simp [*, encB_cons, flg]; exact Is.mk), ?_⟩)
      | (refine tri_last (id := 1) (C := ⟨[], [], []⟩) [0, 4] [] gok_nil nodraw ?_; refine ⟨_, by (simp [*, encB_cons, flg]; exact Is.mk), ?_⟩)
      | (refine tri_step (id := 2) (C := ⟨[], [], []⟩) [2] [] gok_nil nodraw ?_; refine ⟨_, by (simp [*, encB_cons, flg]; exact Is.mk), ?_⟩)
      | (refine tri_last (id := 2) (C := ⟨[], [], []⟩) [2] [] gok_nil nodraw ?_; refine ⟨_, by (simp [*, encB_cons, flg]; exact Is.mk), ?_⟩)
      | (refine tri_step (id := 3) (C := ⟨[], [], []⟩) [2] [] gok_nil nodraw ?_; refine ⟨_, by (simp [*, encB_cons, flg]; exact Is.mk), ?_⟩)
      | (refine tri_last (id := 3) (C := ⟨[], [], []⟩) [2] [] gok_nil nodraw ?_; refine ⟨_, by (simp [*, encB_cons, flg]; exact Is.mk), ?_⟩)
      | (refine tri_cond (c := .tmp 4) (b_true (by simp; exact IsB.mk)) (fun hc => ?_) (fun hc => ?_))
      | (refine to_mk (by simp; exact IsK.mk))
      | (refine imp_ ?_)
      | ((simp; exact IsK.mk))
      | (refine tri_seq ?_)
      ))
      all_goals (refine post_plainV (P := Tryz.prog) (fn := Tryz.f44) (by simp; exact IsV.mk) rfl ?_)
      all_goals (simp [encB]; done)
    | some a =>
      all_goals (repeat' (first
      | (refine tri_condT (b_true (by simp; with_reducible exact IsB.mk)) ?_)
      | (refine tri_condF (b_true (by simp; with_reducible exact IsB.mk)) ?_)
      | (refine tri_skipT ?_)
      | (refine tri_skip ?_)
      | (refine then_to ?_)
      | (refine th_n ?_)
      | (refine in_n ?_)
      | (refine in_e ?_)
      | (refine in_x rfl ?_)
      | (refine th_e ?_)
      | (refine th_r ?_)
      | (refine in_r ?_)
      | (refine tri_ret ?_)
      | (refine tri_exit ?_)
      | (refine tri_block ?_)
      | (refine tri_step (id := 0) (C := ⟨[], [], []⟩) [0] [] gok_nil nodraw ?_; refine ⟨_, by (simp [*, encB_cons, flg]; exact Is.mk), ?_⟩)
      | (refine tri_last (id := 0) (C := ⟨[], [], []⟩) [0] [] gok_nil nodraw ?_; refine ⟨_, by (simp [*, encB_cons, flg]; exact Is.mk), ?_⟩)
      | (refine tri_step (id := 1) (C := ⟨[], [], []⟩) [0, 4] [] gok_nil nodraw ?_; refine ⟨_, by (simp [*, encB_cons, flg]; exact Is.mk), ?_⟩)
      | (refine tri_last (id := 1) (C := ⟨[], [], []⟩) [0, 4] [] gok_nil nodraw ?_; refine ⟨_, by (simp [*, encB_cons, flg]; exact Is.mk), ?_⟩)
      | (refine tri_step (id := 2) (C := ⟨[], [], []⟩) [2] [] gok_nil nodraw ?_; refine ⟨_, by (simp [*, encB_cons, flg]; exact Is.mk), ?_⟩)
      | (refine tri_last (id := 2) (C := ⟨[], [], []⟩) [2] [] gok_nil nodraw ?_; refine ⟨_, by (simp [*, encB_cons, flg]; exact Is.mk), ?_⟩)
      | (refine tri_step (id := 3) (C := ⟨[], [], []⟩) [2] [] gok_nil nodraw ?_; refine ⟨_, by (simp [*, encB_cons, flg]; exact Is.mk), ?_⟩)
      | (refine tri_last (id := 3) (C := ⟨[], [], []⟩) [2] [] gok_nil nodraw ?_; refine ⟨_, by (simp [*, encB_cons, flg]; exact Is.mk), ?_⟩)
      | (refine tri_cond (c := .tmp 4) (b_true (by simp; exact IsB.mk)) (fun hc => ?_) (fun hc => ?_))
      | (refine to_mk (by simp; exact IsK.mk))
      | (refine imp_ ?_)
      | ((simp; exact IsK.mk))
      | (refine tri_seq ?_)
      ))
      all_goals (refine post_plainV (P := Tryz.prog) (fn := Tryz.f44) (by simp; exact IsV.mk) rfl ?_)
      all_goals (simp [encB]; done)
  | cons x r =>
    have hl : (r.length + 1) * 2 ≤ 1099511627776 := by simp at hpre; omega
    clear hpre
    all_goals (repeat' (first
      | (refine tri_condT (b_true (by simp; with_reducible exact IsB.mk)) ?_)
      | (refine tri_condF (b_true (by simp; with_reducible exact IsB.mk)) ?_)
      | (refine tri_skipT ?_)
      | (refine tri_skip ?_)
      | (refine then_to ?_)
      | (refine th_n ?_)
      | (refine in_n ?_)
      | (refine in_e ?_)
      | (refine in_x rfl ?_)
      | (refine th_e ?_)
      | (refine th_r ?_)
      | (refine in_r ?_)
      | (refine tri_ret ?_)
      | (refine tri_exit ?_)
      | (refine tri_block ?_)
      | (refine tri_step (id := 0) (C := ⟨[], [], []⟩) [0] [] gok_nil nodraw ?_; refine ⟨_, by (simp [*, encB_cons, flg]; exact Is.mk), ?_⟩)
      | (refine tri_last (id := 0) (C := ⟨[], [], []⟩) [0] [] gok_nil nodraw ?_; refine ⟨_, by (simp [*, encB_cons, flg]; exact Is.mk), ?_⟩)
      | (refine tri_step (id := 1) (C := ⟨[], [], []⟩) [0, 4] [] gok_nil nodraw ?_; refine ⟨_, by (simp [*, encB_cons, flg]; exact Is.mk), ?_⟩)
      | (refine tri_last (id := 1) (C := ⟨[], [], []⟩) [0, 4] [] gok_nil nodraw ?_; refine ⟨_, by (simp [*, encB_cons, flg]; exact Is.mk), ?_⟩)
      | (refine tri_step (id := 2) (C := ⟨[], [], []⟩) [2] [] gok_nil nodraw ?_; refine ⟨_, by (simp [*, encB_cons, flg]; exact Is.mk), ?_⟩)
      | (refine tri_last (id := 2) (C := ⟨[], [], []⟩) [2] [] gok_nil nodraw ?_; refine ⟨_, by (simp [*, encB_cons, flg]; exact Is.mk), ?_⟩)
      | (refine tri_step (id := 3) (C := ⟨[], [], []⟩) [2] [] gok_nil nodraw ?_; refine ⟨_, by (simp [*, encB_cons, flg]; exact Is.mk), ?_⟩)
      | (refine tri_last (id := 3) (C := ⟨[], [], []⟩) [2] [] gok_nil nodraw ?_; refine ⟨_, by (simp [*, encB_cons, flg]; exact Is.mk), ?_⟩)
      | (refine tri_cond (c := .tmp 4) (b_true (by simp; exact IsB.mk)) (fun hc => ?_) (fun hc => ?_))
      | (refine to_mk (by simp; exact IsK.mk))
      | (refine imp_ ?_)
      | ((simp; exact IsK.mk))
      | (refine tri_seq ?_)
      ))
    all_goals (refine post_plainV (P := Tryz.prog) (fn := Tryz.f44) (by simp; exact IsV.mk) rfl ?_)
    all_goals (simp [encB]; done)
open Classical in
noncomputable def F44 : Fn1
  | [x0] => (decB x0).bind fun d => if d.length ≤ 100000 then some ((.sl 1 (encB d) none), none) else none
  | _ => none
theorem spec44 : Spec1 Tryz.prog 44 F44 := spec_of fun ys r o h => by
  unfold F44 at h
  split at h
  case h_2 => cases h
  obtain ⟨d, k0, h1⟩ := bind_some h
  obtain ⟨hpre, hz⟩ := ite_some h1
  cases hz
  exact ⟨_, at44 d hpre, rfl, le_plain ⟨decB_coA k0, trivial⟩ (by simp only [List.all_cons, List.all_nil, Bool.not_false, Bool.and_self, notRefB (decB_coA k0) rfl (by simp)]) rfl⟩
theorem en44 : Enters Tryz.prog 44 := enters_of Tryz.func44 (by kernel_rfl) rfl

-- caravel/carry.CloneTarget
theorem g21 : GOk1 Tryz.prog (ctxOf [(44, F44)]) := gok_cons spec44 en44 (gok_nil)
set_option maxHeartbeats 400000 in
theorem at21 (t : Caw.Targ) (hpre : t.bytes.length ≤ 100000 ∧ t.kernel.length ≤ 100000) : SpecAt Tryz.prog 21 [.agg (targCells t)] (.agg (targCells t)) none := by
  obtain ⟨hp1, hp2⟩ := hpre
  all_goals refine specAt_of_tri Tryz.func21 rfl (Nat.le_of_ble_eq_true rfl) ?_
  all_goals (repeat' (first
    | (refine tri_condT (b_true (by simp; with_reducible exact IsB.mk)) ?_)
    | (refine tri_condF (b_true (by simp; with_reducible exact IsB.mk)) ?_)
    | (refine tri_skipT ?_)
    | (refine tri_skip ?_)
    | (refine then_to ?_)
    | (refine th_n ?_)
    | (refine in_n ?_)
    | (refine in_e ?_)
    | (refine in_x rfl ?_)
    | (refine th_e ?_)
    | (refine th_r ?_)
    | (refine in_r ?_)
    | (refine tri_ret ?_)
    | (refine tri_exit ?_)
    | (refine tri_block ?_)
    | (refine tri_step (id := 0) (C := ⟨[], [], [(3, (2, 0, 0)), (6, (2, 0, 0)), (9, (2, 0, 0)), (10, (2, 0, 0))]⟩) [1, 2] [(2, 0, 0), (3, 0, 0)] g21 nodraw ?_; refine ⟨_, by (simp [*, F44, flg]; exact Is.mk), ?_⟩)
    | (refine tri_last (id := 0) (C := ⟨[], [], [(3, (2, 0, 0)), (6, (2, 0, 0)), (9, (2, 0, 0)), (10, (2, 0, 0))]⟩) [1, 2] [(2, 0, 0), (3, 0, 0)] g21 nodraw ?_; refine ⟨_, by (simp [*, F44, flg]; exact Is.mk), ?_⟩)
    | (refine tri_step (id := 1) (C := ⟨[], [], [(3, (2, 0, 0)), (6, (2, 0, 0)), (9, (2, 0, 0)), (10, (2, 0, 0))]⟩) [1, 2] [(2, 0, 0), (3, 0, 0)] g21 (fun _ => ⟨q_mixed, by kernel_rfl⟩) ?_; refine ⟨_, by (simp [*, F44, flg]; exact Is.mk), ?_⟩)
    | (refine tri_last (id := 1) (C := ⟨[], [], [(3, (2, 0, 0)), (6, (2, 0, 0)), (9, (2, 0, 0)), (10, (2, 0, 0))]⟩) [1, 2] [(2, 0, 0), (3, 0, 0)] g21 (fun _ => ⟨q_mixed, by kernel_rfl⟩) ?_; refine ⟨_, by (simp [*, F44, flg]; exact Is.mk), ?_⟩)
    | (refine tri_step (id := 2) (C := ⟨[], [], [(3, (2, 0, 0)), (6, (2, 0, 0)), (9, (2, 0, 0)), (10, (2, 0, 0))]⟩) [2] [(3, 0, 0)] g21 nodraw ?_; refine ⟨_, by (simp [*, F44, flg]; exact Is.mk), ?_⟩)
    | (refine tri_last (id := 2) (C := ⟨[], [], [(3, (2, 0, 0)), (6, (2, 0, 0)), (9, (2, 0, 0)), (10, (2, 0, 0))]⟩) [2] [(3, 0, 0)] g21 nodraw ?_; refine ⟨_, by (simp [*, F44, flg]; exact Is.mk), ?_⟩)
    | (refine to_mk (by simp; exact IsK.mk))
    | (refine imp_ ?_)
    | ((simp; exact IsK.mk))
    | (refine tri_seq ?_)
    ))
  all_goals (refine post_plainV (P := Tryz.prog) (fn := Tryz.f21) (by simp; exact IsV.mk) rfl ?_)
  all_goals (first | (simp [F44, flg]; done) | (simp [*, F44, flg]; done) | (simp_all [F44, flg]; done) | (simp [F44, flg] <;> (repeat' split) <;> simp_all; done) | (simp [F44, flg] <;> (repeat' split) <;> simp_all [Bool.and_assoc] <;> grind [List.length_eq_zero_iff, sendCells_co, recvCells_co, pieceCells_co, connCells_co, segCells_co, clockCells_co]))
open Classical in
noncomputable def F21 : Fn1
  | [x0] => (whole pTarg x0).bind fun t => if t.bytes.length ≤ 100000 ∧ t.kernel.length ≤ 100000 then some ((.agg (targCells t)), none) else none
  | _ => none
theorem spec21 : Spec1 Tryz.prog 21 F21 := spec_of fun ys r o h => by
  unfold F21 at h
  split at h
  case h_2 => cases h
  obtain ⟨t, k0, h1⟩ := bind_some h
  obtain ⟨hpre, hz⟩ := ite_some h1
  cases hz
  exact ⟨_, at21 t hpre, rfl, le_plain ⟨whole_co pTarg_snd k0, trivial⟩ (by simp only [List.all_cons, List.all_nil, Bool.not_false, Bool.and_self, notRefB (whole_co pTarg_snd k0) rfl (by simp)]) rfl⟩
theorem en21 : Enters Tryz.prog 21 := enters_of Tryz.func21 (by kernel_rfl) rfl

-- caravel/carry.Crash
set_option maxHeartbeats 400000 in
theorem at10 (t : Caw.Targ) : SpecAt Tryz.prog 10 [.agg (targCells t)] (.agg (targCells (crashF t))) none := by
  all_goals refine specAt_of_tri Tryz.func10 rfl (Nat.le_of_ble_eq_true rfl) ?_
  all_goals (repeat' (first
    | (refine tri_condT (b_true (by simp; with_reducible exact IsB.mk)) ?_)
    | (refine tri_condF (b_true (by simp; with_reducible exact IsB.mk)) ?_)
    | (refine tri_skipT ?_)
    | (refine tri_skip ?_)
    | (refine then_to ?_)
    | (refine th_n ?_)
    | (refine in_n ?_)
    | (refine in_e ?_)
    | (refine in_x rfl ?_)
    | (refine th_e ?_)
    | (refine th_r ?_)
    | (refine in_r ?_)
    | (refine tri_ret ?_)
    | (refine tri_exit ?_)
    | (refine tri_block ?_)
    | (refine tri_step (id := 0) (C := ⟨[1], [], []⟩) [1, 2] [(3, 0, 0)] gok_nil nodraw ?_; refine ⟨_, by (simp [flg]; exact Is.mk), ?_⟩)
    | (refine tri_last (id := 0) (C := ⟨[1], [], []⟩) [1, 2] [(3, 0, 0)] gok_nil nodraw ?_; refine ⟨_, by (simp [flg]; exact Is.mk), ?_⟩)
    | (refine tri_step (id := 1) (C := ⟨[1], [], []⟩) [2] [(3, 0, 0)] gok_nil nodraw ?_; refine ⟨_, by (simp [flg]; exact Is.mk), ?_⟩)
    | (refine tri_last (id := 1) (C := ⟨[1], [], []⟩) [2] [(3, 0, 0)] gok_nil nodraw ?_; refine ⟨_, by (simp [flg]; exact Is.mk), ?_⟩)
    | (refine to_mk (by simp; exact IsK.mk))
    | (refine imp_ ?_)
    | ((simp; exact IsK.mk))
    | (refine tri_seq ?_)
    ))
  all_goals (refine post_plainV (P := Tryz.prog) (fn := Tryz.f10) (by simp; exact IsV.mk) rfl ?_)
  all_goals (first | (simp [flg, crashF, targCells]; done) | (simp [*, flg, crashF, targCells]; done) | (simp_all [flg, crashF, targCells]; done) | (simp [flg, crashF, targCells] <;> (repeat' split) <;> simp_all; done) | (simp [flg, crashF, targCells] <;> (repeat' split) <;> simp_all [Bool.and_assoc] <;> grind [List.length_eq_zero_iff, sendCells_co, recvCells_co, pieceCells_co, connCells_co, segCells_co, clockCells_co]))
noncomputable def F10 : Fn1
  | [x0] => (whole pTarg x0).bind fun t => some ((.agg (targCells (crashF t))), none)
  | _ => none
theorem spec10 : Spec1 Tryz.prog 10 F10 := spec_of fun ys r o h => by
  unfold F10 at h
  split at h
  case h_2 => cases h
  obtain ⟨t, k0, h1⟩ := bind_some h
  cases h1
  exact ⟨_, at10 t, rfl, le_plain ⟨whole_co pTarg_snd k0, trivial⟩ (by simp only [List.all_cons, List.all_nil, Bool.not_false, Bool.and_self, notRefB (whole_co pTarg_snd k0) rfl (by simp)]) rfl⟩
theorem en10 : Enters Tryz.prog 10 := enters_of Tryz.func10 (by kernel_rfl) rfl

end Go.Proofs.YtljlhooodbfpiaaGreatDoor

