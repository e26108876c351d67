import Derived.Test.YtmicikabpcbeiaaGreatDoorK13
import Derived.Test.YtmicikabpcbeiaaGreatDoorK15
import Derived.KernelRfl
set_option linter.all false
/- What the runs of this claim are told: symbols, tables of what operations over them come to. -/
namespace Go.Proofs.YtmicikabpcbeiaaGreatDoor
open Go Mir
namespace Hn
abbrev s (n : Nat) : Value := .chan (some n)
abbrev u8 (n : Nat) : Value := .int .u8 (.ofNat n)
abbrev i64 (n : Nat) : Value := .int .i64 (.ofNat n)
abbrev tt : Value := .bool true
abbrev ff : Value := .bool false
def bn (b : BinOp) (t : TypeId) (x y r : Value) : SyE := ⟨.bin b t x y, r⟩
abbrev ip : Value := .agg ⟨[s 4, s 12, s 20, s 28]⟩
abbrev mac : Value := .agg ⟨[s 36, s 44, s 52, s 60, s 68, s 76]⟩
abbrev far : Value := .agg ⟨[s 84, s 12, s 20, s 28]⟩
abbrev net : Value := .agg ⟨[s 92, s 100, s 108, s 116]⟩
abbrev zip : Value := .agg ⟨[u8 0, u8 0, u8 0, u8 0]⟩
/-- The entries that stand ahead: calls that are known. -/
noncomputable def KT (b : Value) (w : Value) : Tr (List KE) :=
  Tr.put (some [⟨[], tt⟩]) 64 (Tr.put (some [⟨[Tab.ty160.z], Tab.ty160.z⟩]) 64 (Tr.put (some [⟨[ip, b], net⟩]) 64 (Tr.put (some [⟨[far, net, b], w⟩, ⟨[ip, net, b], tt⟩]) 64 .lf 41) 33) 103) 4
set_option maxRecDepth 10000
/-- How many bits of a byte stand in the net. -/
def nB (i b : Nat) : Nat := Nat.min (Nat.sub b (Nat.mul 8 i)) 8
def mB (i b : Nat) : Nat := Nat.sub 255 (Nat.div 255 (Nat.pow 2 (nB i b)))
def tabM (b : Nat) : List SyE := [bn .and 5 (s 4) (u8 (mB 0 b)) (s 92), bn .and 5 (s 12) (u8 (mB 1 b)) (s 100), bn .and 5 (s 20) (u8 (mB 2 b)) (s 108), bn .and 5 (s 28) (u8 (mB 3 b)) (s 116)]
def tabI (b : Nat) : List SyE := [bn .xor 5 (s 4) (s 92) (s 156), bn .xor 5 (s 12) (s 100) (s 164), bn .xor 5 (s 20) (s 108) (s 172), bn .xor 5 (s 28) (s 116) (s 180),
  bn .shr 5 (s 156) (i64 (Nat.sub 8 (nB 0 b))) (u8 0), bn .shr 5 (s 164) (i64 (Nat.sub 8 (nB 1 b))) (u8 0), bn .shr 5 (s 172) (i64 (Nat.sub 8 (nB 2 b))) (u8 0), bn .shr 5 (s 180) (i64 (Nat.sub 8 (nB 3 b))) (u8 0)]
/-- Of one that begins otherwise. -/
def tabO (b : Nat) : List SyE := [bn .xor 5 (s 84) (s 92) (s 124), bn .shr 5 (s 124) (i64 (Nat.sub 8 (nB 0 b))) (s 132), bn .neq 5 (s 132) (u8 0) tt]
def tabO0 : List SyE := bn .xor 5 (s 84) (s 92) (s 124) :: bn .shr 5 (s 124) (i64 8) (u8 0) :: tabI 0
def tabB : List SyE := [bn .and 5 (s 36) (u8 1) (u8 0), bn .eql 25 ip zip ff, bn .lss 3 (s 3) (i64 0) ff, bn .gtr 3 (s 3) (i64 32) ff, bn .xor 5 (s 4) (u8 128) (s 84), bn .eql 25 ip ip tt, bn .eql 23 mac mac tt, bn .eql 3 (s 3) (i64 0) ff, bn .gtr 3 (s 3) (i64 0) tt]
def tabA : List SyE := [bn .and 5 (s 36) (u8 1) (u8 0), bn .eql 25 ip zip ff, bn .xor 5 (s 4) (u8 128) (s 84), bn .eql 25 ip ip tt, bn .eql 23 mac mac tt, bn .eql 25 far ip ff]
/-- Those that can't be made: the address, and whether the bits are below nought or too many. -/
def tabC (zero neg big : Bool) : List SyE := [bn .and 5 (s 36) (u8 1) (u8 0), bn .eql 25 ip zip (.bool zero), bn .lss 3 (s 3) (i64 0) (.bool neg), bn .gtr 3 (s 3) (i64 32) (.bool big)]
/-- A card's address that is none. -/
def tabD (neg big : Bool) : List SyE := [bn .and 5 (s 36) (u8 1) (u8 1), bn .lss 3 (s 3) (i64 0) (.bool neg), bn .gtr 3 (s 3) (i64 32) (.bool big)]
noncomputable def run (tab : List SyE) (kt : Tr (List KE)) (b : Value) : Bool := resIs tt (evFz Tryz.prog (symT tab kt) Tab.tb 10000 40 3 ⟨[mac, ip, b]⟩ (WS 200))
theorem run_lives : resIs tt (evFz Tryz.prog noSy Tab.tb 10000 40 4 ⟨[]⟩ (WS 200)) = true := by kernel_rfl
theorem run_clone : resIs Tab.ty160.z (evFz Tryz.prog noSy Tab.tb 10000 40 103 ⟨[Tab.ty160.z]⟩ (WS 200)) = true := by kernel_rfl
theorem run_B : run tabB (KT (s 3) ff) (s 3) = true := by kernel_rfl
theorem run_A : run tabA (KT (i64 0) tt) (i64 0) = true := by kernel_rfl
theorem run_C1 : run (tabD false false) (KT (s 3) ff) (s 3) = true := by kernel_rfl
theorem run_C2 : run (tabC true false false) (KT (s 3) ff) (s 3) = true := by kernel_rfl
theorem run_C1' : run (tabD false false) (KT (s 3) tt) (s 3) = true := by kernel_rfl
theorem run_C2' : run (tabC true false false) (KT (s 3) tt) (s 3) = true := by kernel_rfl
noncomputable def KT0 : Tr (List KE) := Tr.put (some [⟨[], tt⟩]) 64 .lf 4
theorem run_N1 : run (tabD true false) KT0 (s 3) = true := by kernel_rfl
theorem run_N2 : run (tabC true true false) KT0 (s 3) = true := by kernel_rfl
theorem run_N3 : run (tabC false true false) KT0 (s 3) = true := by kernel_rfl
theorem run_G1 : run (tabD false true) KT0 (s 3) = true := by kernel_rfl
theorem run_G2 : run (tabC true false true) KT0 (s 3) = true := by kernel_rfl
theorem run_G3 : run (tabC false false true) KT0 (s 3) = true := by kernel_rfl
noncomputable def ckM (b : Nat) : Bool := resIs net (evFz Tryz.prog (symT (tabM b) .lf) Tab.tb 10000 40 33 ⟨[ip, i64 b]⟩ (WS 200))
noncomputable def ckI (b : Nat) : Bool := resIs tt (evFz Tryz.prog (symT (tabI b) .lf) Tab.tb 10000 40 41 ⟨[ip, net, i64 b]⟩ (WS 200))
noncomputable def ckO (b : Nat) : Bool := resIs ff (evFz Tryz.prog (symT (tabO b) .lf) Tab.tb 10000 40 41 ⟨[far, net, i64 b]⟩ (WS 200))
noncomputable def ckO0 : Bool := resIs tt (evFz Tryz.prog (symT tabO0 .lf) Tab.tb 10000 40 41 ⟨[far, net, i64 0]⟩ (WS 200))
noncomputable def below (f : Nat → Bool) (n : Nat) : Bool := Nat.rec (motive := fun _ => Bool) true (fun b ih => match f b with
  | true => ih
  | false => false) n
theorem below_spec {f : Nat → Bool} : ∀ {n : Nat}, below f n = true → ∀ b, b < n → f b = true
  | 0, _, b, h => absurd h (Nat.not_lt_zero b)
  | n + 1, h, b, hb => by
    have h' : (match f n with
      | true => below f n
      | false => false) = true := h
    split at h'
    · rename_i h1
      rcases Nat.lt_or_ge b n with h2 | h2
      · exact below_spec h' b h2
      · have : b = n := by omega
        rw [this]; exact h1
    · cases h'
theorem run_M : below ckM 33 = true := by kernel_rfl
theorem run_I : below ckI 33 = true := by kernel_rfl
theorem run_O : below (fun b => ckO (b + 1)) 32 = true := by kernel_rfl
theorem run_O0 : ckO0 = true := by kernel_rfl
end Hn
end Go.Proofs.YtmicikabpcbeiaaGreatDoor

