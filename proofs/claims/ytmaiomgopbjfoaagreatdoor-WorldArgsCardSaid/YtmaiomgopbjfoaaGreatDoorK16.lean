import Derived.Test.YtmaiomgopbjfoaaGreatDoorK13
import Derived.Test.YtmaiomgopbjfoaaGreatDoorK15
import Derived.KernelRfl
set_option linter.all false
/- What the runs of this claim are told, and what they come to: worlds, and what there is not in them. -/
namespace Go.Proofs.YtmaiomgopbjfoaaGreatDoor
open Go Mir
namespace Wa
abbrev s (n : Nat) : Value := .chan (some n)
abbrev i64 (n : Nat) : Value := .int .i64 (.ofNat n)
abbrev tt : Value := .bool true
abbrev ff : Value := .bool false
def bn (b : BinOp) (x y r : Value) : SyE := ⟨.bin b 3 x y, r⟩
noncomputable def KT : Tr (List KE) := Tr.put (some [⟨[], tt⟩]) 64 (Tr.put (some [⟨[Tab.ty292.z], Tab.ty292.z⟩]) 64 .lf 168) 4
noncomputable def KL : Tr (List KE) := Tr.put (some [⟨[Tab.ty292.z], Tab.ty292.z⟩]) 64 .lf 168
set_option maxRecDepth 10000
/-- A number below nought. -/
def tabN : List SyE := [bn .rem (s 3) (i64 7) (s 19), bn .add (i64 1000) (s 19) (s 35), bn .lss (s 3) (i64 0) tt, bn .geq (s 3) (i64 0) ff, bn .lss (s 35) (i64 0) ff, bn .geq (s 35) (i64 0) tt, bn .neq (s 3) (i64 0) tt, bn .neq (s 3) (i64 1) tt, bn .eql (s 3) (i64 0) ff, bn .eql (s 3) (i64 1) ff]
/-- A number beyond those of the hosts. -/
def tabG (c : Nat) : List SyE := [bn .rem (s 3) (i64 7) (s 19), bn .add (i64 1000) (s 19) (s 35), bn .lss (s 3) (i64 0) ff, bn .geq (s 3) (i64 0) tt, bn .leq (s 3) (i64 c) ff, bn .gtr (s 3) (i64 c) tt, bn .lss (s 35) (i64 0) ff, bn .geq (s 35) (i64 0) tt, bn .neq (s 3) (i64 0) tt, bn .neq (s 3) (i64 1) tt, bn .eql (s 3) (i64 0) ff, bn .eql (s 3) (i64 1) ff]
/-- Worlds that can't be. -/
def tabL : List SyE := [bn .lss (s 51) (i64 1) tt]
def tabH : List SyE := [bn .lss (s 51) (i64 1) ff, bn .gtr (s 51) (i64 6) tt]
noncomputable def run (tab : List SyE) (o i : Value) : Bool := resIs tt (evFz Tryz.prog (symT tab KT) Tab.tb 10000 60 3 ⟨[o, i]⟩ (WS 64))
theorem run_clone : resIs Tab.ty292.z (evFz Tryz.prog noSy Tab.tb 10000 60 168 ⟨[Tab.ty292.z]⟩ (WS 64)) = true := by kernel_rfl
theorem run_lives : resIs tt (evFz Tryz.prog (symT [] KL) Tab.tb 10000 60 4 ⟨[]⟩ (WS 64)) = true := by kernel_rfl
theorem run_L : run tabL (s 51) (s 3) = true := by kernel_rfl
theorem run_H : run tabH (s 51) (s 3) = true := by kernel_rfl
end Wa
end Go.Proofs.YtmaiomgopbjfoaaGreatDoor

