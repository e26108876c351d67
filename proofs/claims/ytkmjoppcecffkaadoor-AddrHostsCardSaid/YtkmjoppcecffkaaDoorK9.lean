import Derived.Test.YtkmjoppcecffkaaDoorProg
import Derived.Test.YtkmjoppcecffkaaDoorK7
import Derived.WalkKit
import Derived.WalkSpells
import Derived.Laws.RangeString
import Derived.Laws.RangeAny
import Derived.Test.YtkmjoppcecffkaaDoorChecked
import Derived.Shelf.Lays
import Derived.Shelf.LaysM
import Derived.KernelRfl
import Derived.Shelf.Strings.Search2
import Derived.Shelf.Strings.Search3
import Derived.Shelf.Strings.Count
import Derived.Shelf.Strconv.Itoa3
import Derived.Shelf.Strings.OnBuilder
set_option linter.all false
set_option linter.unusedVariables false
/-! addr.number, walked with the library's own tactics: its loop ranges over a string. -/
namespace Caw
open Go
/-- From byte i on, with n so far. -/
def numF (s : ByteArray) (most : Int) : Nat → Nat → Int → Option Int
  | 0, _, n => some n
  | b + 1, i, n => if i < s.size then
      (let r : Int := ((Utf8.decode s i).1 : Nat)
       if r < 48 ∨ 57 < r ∨ (0 < i ∧ n = 0) then none
       else if most < 10 * n + (r - 48) then none else numF s most b (i + (Utf8.decode s i).2) (10 * n + (r - 48)))
    else some n
def numberR (s : ByteArray) (most : Int) : Int × Bool :=
  match numF s most s.size 0 0 with
  | some n => (n, !s.toList.isEmpty)
  | none => (0, false)
theorem numF_end (s : ByteArray) (most : Int) (b pos : Nat) (n : Int) (h : ¬ pos < s.size) : numF s most b pos n = some n := by
  cases b with
  | zero => rfl
  | succ b => simp [numF, h]
theorem numF_bad {s : ByteArray} {most : Int} {b pos : Nat} {n r : Int} (hp : pos < s.size) (hd : s.size ≤ pos + b) (hr : r = ((Utf8.decode s pos).1 : Nat)) (h : r < 48 ∨ 57 < r ∨ (0 < pos ∧ n = 0)) : numF s most b pos n = none := by
  cases b with
  | zero => omega
  | succ b => simp only [numF, hp, if_true, ← hr, h]
theorem numF_big {s : ByteArray} {most : Int} {b pos : Nat} {n r : Int} (hp : pos < s.size) (hd : s.size ≤ pos + b) (hr : r = ((Utf8.decode s pos).1 : Nat)) (h : most < 10 * n + (r - 48)) : numF s most b pos n = none := by
  cases b with
  | zero => omega
  | succ b =>
    simp only [numF, hp, if_true, ← hr, h]
    split <;> rfl
theorem numF_step {s : ByteArray} {most : Int} {b pos : Nat} {n r : Int} (hp : pos < s.size) (hd : s.size ≤ pos + b) (hr : r = ((Utf8.decode s pos).1 : Nat)) (h1 : ¬ (r < 48 ∨ 57 < r ∨ (0 < pos ∧ n = 0))) (h : ¬ most < 10 * n + (r - 48)) :
    ∃ c, b = c + 1 ∧ numF s most b pos n = numF s most c (pos + (Utf8.decode s pos).2) (10 * n + (r - 48)) := by
  cases b with
  | zero => omega
  | succ b => exact ⟨b, rfl, by simp only [numF, hp, if_true, ← hr, h1, h, if_false]⟩
theorem numberR_none {s : ByteArray} {most : Int} (h : numF s most s.size 0 0 = none) : numberR s most = (0, false) := by simp [numberR, h]
theorem numberR_some {s : ByteArray} {most n : Int} (h : numF s most s.size 0 0 = some n) : numberR s most = (n, !s.toList.isEmpty) := by simp [numberR, h]
theorem width_pos (s : ByteArray) (pos : Nat) (h : pos < s.size) : 1 ≤ (Utf8.decode s pos).2 := by
  by_cases ha : (s[pos]'h).toNat < 128
  · rw [decode_ascii s pos h ha]
    exact Nat.le_refl _
  · exact (decode_high s pos h (by omega)).2
end Caw
namespace Go.Proofs.YtkmjoppcecffkaaDoor
open Go.RowKit Caw

set_option maxRecDepth 1000000 in
theorem number_walk (s : ByteArray) (most : Int) (h0 : 0 ≤ most) (hm : most ≤ 1000000) (w : World) :
    Calls Tryd.prog 26 #[.string s, .int .i64 most] w fun e w' => e = .returned (.tuple #[.int .i64 (numberR s most).1, .bool (numberR s most).2]) ∧ ∃ pos, w' = w.iter s pos := by
  go_enter Tryd.func26, Tryd.ntmps26
  go_wp2
  go_loopw [6] (fun n w' => ∃ (pos b : Nat) (acc : Int), w' = w.iter s pos ∧ n = .int .i64 acc ∧ 0 ≤ acc ∧ acc ≤ most ∧ numF s most b pos acc = numF s most s.size 0 0 ∧ s.size ≤ pos + b) (fun _ w' => s.size - w'.iterPos w.heap.size)
  case atStart => exact ⟨0, s.size, 0, rfl, rfl, by omega, by omega, rfl, by omega⟩
  case round =>
    obtain ⟨pos, b, acc, rfl, rfl, ha, hb, hc, hd⟩ := hrel
    by_cases hp : pos < s.size
    · have hnx : ∀ ty, (Instr.next (.pointer (some ⟨w.heap.size, 0, none⟩)) true ty).run Tryd.prog (w.iter s pos) = _ := fun ty => run_next_any w s pos ty hp
      have hwd := Caw.width_pos s pos hp
      go_wp2
      all_goals clear hnx
      all_goals (try simp only [beq_iff_eq, beq_eq_false_iff_ne, ne_eq] at *)
      all_goals first
        | (have hz : numF s most b pos acc = none := numF_bad hp hd rfl (by omega)
           rw [hc] at hz
           go_ret2
           rw [numberR_none hz]
           exact ⟨rfl, _, rfl⟩)
        | (have hz : numF s most b pos acc = none := numF_big hp hd rfl (by omega)
           rw [hc] at hz
           go_ret2
           rw [numberR_none hz]
           exact ⟨rfl, _, rfl⟩)
        | (obtain ⟨c, rfl, hz⟩ := numF_step (most := most) (n := acc) hp hd rfl (by omega) (by omega)
           rw [hc] at hz
           go_roundw
           case rel => exact ⟨pos + (Utf8.decode s pos).2, c, _, rfl, rfl, by omega, by omega, hz.symm, by omega⟩
           case measure => simp; omega)
        | trace_state
    · have hnx : ∀ ty, (Instr.next (.pointer (some ⟨w.heap.size, 0, none⟩)) true ty).run Tryd.prog (w.iter s pos) = _ := fun ty => run_next_end w s pos ty hp
      go_wp2
      go_ret2
      rw [numF_end s most b pos acc hp] at hc
      rw [numberR_some hc.symm]
      exact ⟨rfl, _, rfl⟩
end Go.Proofs.YtkmjoppcecffkaaDoor

-- Printed by genlays.py.
set_option linter.all false
namespace Go.Proofs.YtkmjoppcecffkaaDoor
open Go Go.Proofs Go.Shelf

def ren_f : Nat → Nat
  | 0 => 0
  | 1 => 1
  | 2 => 2
  | 129 => 68
  | 138 => 46
  | 143 => 47
  | 145 => 25
  | 146 => 28
  | 156 => 30
  | 165 => 39
  | 166 => 40
  | 169 => 41
  | 171 => 29
  | 195 => 55
  | 197 => 56
  | 217 => 51
  | 218 => 57
  | 219 => 44
  | 220 => 36
  | 221 => 37
  | 224 => 53
  | 225 => 52
  | 240 => 49
  | 241 => 50
  | 243 => 38
  | 246 => 48
  | 260 => 66
  | 266 => 64
  | 267 => 54
  | 268 => 45
  | 276 => 62
  | 277 => 63
  | 283 => 58
  | 284 => 59
  | 285 => 60
  | 286 => 61
  | 314 => 65
  | 317 => 67
  | 318 => 69
  | 319 => 70
  | 320 => 71
  | 337 => 72
  | 338 => 73
  | 347 => 74
  | 348 => 75
  | 349 => 76
  | 350 => 77
  | 351 => 78
  | 352 => 79
  | 353 => 80
  | 354 => 81
  | 355 => 82
  | 356 => 83
  | 357 => 84
  | 358 => 85
  | 359 => 86
  | 360 => 87
  | 361 => 88
  | 362 => 89
  | 366 => 90
  | 367 => 98
  | n => n + 100000
def ren_t : Nat → Nat
  | 0 => 0
  | 1 => 1
  | 2 => 2
  | 3 => 3
  | 4 => 4
  | 5 => 5
  | 6 => 6
  | 7 => 7
  | 8 => 8
  | 9 => 9
  | 10 => 10
  | 11 => 11
  | 12 => 12
  | 13 => 13
  | 14 => 14
  | 15 => 15
  | 16 => 16
  | 17 => 17
  | 18 => 18
  | 19 => 19
  | 20 => 20
  | 21 => 21
  | 27 => 86
  | 28 => 60
  | 31 => 62
  | 37 => 67
  | 39 => 84
  | 46 => 42
  | 47 => 111
  | 48 => 85
  | 49 => 24
  | 51 => 104
  | 52 => 116
  | 53 => 96
  | 54 => 97
  | 55 => 90
  | 59 => 56
  | 60 => 57
  | 61 => 63
  | 67 => 65
  | 69 => 73
  | 70 => 75
  | 71 => 76
  | 72 => 77
  | 73 => 78
  | 74 => 79
  | 75 => 80
  | 76 => 81
  | 77 => 82
  | 80 => 83
  | 81 => 124
  | 83 => 64
  | 84 => 88
  | 103 => 92
  | 104 => 55
  | 105 => 93
  | 106 => 94
  | 111 => 110
  | 113 => 74
  | 114 => 91
  | 119 => 112
  | 127 => 89
  | 131 => 58
  | 137 => 113
  | 138 => 114
  | 139 => 115
  | 146 => 105
  | 150 => 87
  | 151 => 106
  | 164 => 101
  | 165 => 102
  | 166 => 103
  | 171 => 95
  | 172 => 98
  | 173 => 99
  | 174 => 100
  | 211 => 107
  | 212 => 108
  | 213 => 109
  | 232 => 117
  | 233 => 118
  | 238 => 119
  | 239 => 120
  | 240 => 121
  | 241 => 122
  | 242 => 123
  | 243 => 125
  | 244 => 126
  | 245 => 127
  | 246 => 128
  | 247 => 129
  | 248 => 130
  | 249 => 131
  | n => n + 100000
def ren_g : Nat → Nat
  | 1 => 0
  | 3 => 2
  | 4 => 3
  | 17 => 1
  | 18 => 4
  | 19 => 5
  | n => n + 100000
def ren : Ren := ⟨ren_f, ren_t, ren_g⟩
set_option maxRecDepth 100000 in
theorem lays219 : Lays.n219 Tryd.prog ren where
  mixed := (by kernel_rfl)
  f217 := (by kernel_rfl)
  f219 := (by kernel_rfl)
  f224 := (by kernel_rfl)
  f225 := (by kernel_rfl)
  f266 := (by kernel_rfl)
  f267 := (by kernel_rfl)
  f314 := (by kernel_rfl)
  t3 := (by kernel_rfl)
  a3 := (fun _ => by kernel_rfl)
  z3 := (fun _ => by kernel_rfl)
  v3 := (fun _ => by kernel_rfl)
  t4 := (by kernel_rfl)
  a4 := (fun _ => by kernel_rfl)
  z4 := (fun _ => by kernel_rfl)
  v4 := (fun _ => by kernel_rfl)
  t5 := (by kernel_rfl)
  a5 := (fun _ => by kernel_rfl)
  z5 := (fun _ => by kernel_rfl)
  v5 := (fun _ => by kernel_rfl)
  t9 := (by kernel_rfl)
  a9 := (fun _ => by kernel_rfl)
  z9 := (fun _ => by kernel_rfl)
  v9 := (fun _ => by kernel_rfl)
  t46 := (by kernel_rfl)
  a46 := (fun _ => by kernel_rfl)
  z46 := (fun _ => by kernel_rfl)
  v46 := (fun _ => by kernel_rfl)
  t51 := (by kernel_rfl)
  a51 := (fun _ => by kernel_rfl)
  z51 := (fun _ => by kernel_rfl)
  v51 := (fun _ => by kernel_rfl)
  t146 := (by kernel_rfl)
  a146 := (fun _ => by kernel_rfl)
  z146 := (fun _ => by kernel_rfl)
  v146 := (fun _ => by kernel_rfl)
  g1 := (by kernel_rfl)
set_option maxRecDepth 100000 in
theorem lays143 : Lays.n143 Tryd.prog ren where
  mixed := (by kernel_rfl)
  f143 := (by kernel_rfl)
  f217 := (by kernel_rfl)
  f219 := (by kernel_rfl)
  f224 := (by kernel_rfl)
  f225 := (by kernel_rfl)
  f266 := (by kernel_rfl)
  f267 := (by kernel_rfl)
  f314 := (by kernel_rfl)
  t3 := (by kernel_rfl)
  a3 := (fun _ => by kernel_rfl)
  z3 := (fun _ => by kernel_rfl)
  v3 := (fun _ => by kernel_rfl)
  t4 := (by kernel_rfl)
  a4 := (fun _ => by kernel_rfl)
  z4 := (fun _ => by kernel_rfl)
  v4 := (fun _ => by kernel_rfl)
  t5 := (by kernel_rfl)
  a5 := (fun _ => by kernel_rfl)
  z5 := (fun _ => by kernel_rfl)
  v5 := (fun _ => by kernel_rfl)
  t9 := (by kernel_rfl)
  a9 := (fun _ => by kernel_rfl)
  z9 := (fun _ => by kernel_rfl)
  v9 := (fun _ => by kernel_rfl)
  t46 := (by kernel_rfl)
  a46 := (fun _ => by kernel_rfl)
  z46 := (fun _ => by kernel_rfl)
  v46 := (fun _ => by kernel_rfl)
  t51 := (by kernel_rfl)
  a51 := (fun _ => by kernel_rfl)
  z51 := (fun _ => by kernel_rfl)
  v51 := (fun _ => by kernel_rfl)
  t146 := (by kernel_rfl)
  a146 := (fun _ => by kernel_rfl)
  z146 := (fun _ => by kernel_rfl)
  v146 := (fun _ => by kernel_rfl)
  g1 := (by kernel_rfl)
set_option maxRecDepth 100000 in
theorem lays138 : Lays.n138 Tryd.prog ren where
  mixed := (by kernel_rfl)
  f138 := (by kernel_rfl)
  f143 := (by kernel_rfl)
  f195 := (by kernel_rfl)
  f217 := (by kernel_rfl)
  f218 := (by kernel_rfl)
  f219 := (by kernel_rfl)
  f224 := (by kernel_rfl)
  f225 := (by kernel_rfl)
  f266 := (by kernel_rfl)
  f267 := (by kernel_rfl)
  f314 := (by kernel_rfl)
  t0 := (by kernel_rfl)
  a0 := (fun _ => by kernel_rfl)
  z0 := (fun _ => by kernel_rfl)
  v0 := (fun _ => by kernel_rfl)
  t3 := (by kernel_rfl)
  a3 := (fun _ => by kernel_rfl)
  z3 := (fun _ => by kernel_rfl)
  v3 := (fun _ => by kernel_rfl)
  t4 := (by kernel_rfl)
  a4 := (fun _ => by kernel_rfl)
  z4 := (fun _ => by kernel_rfl)
  v4 := (fun _ => by kernel_rfl)
  t5 := (by kernel_rfl)
  a5 := (fun _ => by kernel_rfl)
  z5 := (fun _ => by kernel_rfl)
  v5 := (fun _ => by kernel_rfl)
  t9 := (by kernel_rfl)
  a9 := (fun _ => by kernel_rfl)
  z9 := (fun _ => by kernel_rfl)
  v9 := (fun _ => by kernel_rfl)
  t46 := (by kernel_rfl)
  a46 := (fun _ => by kernel_rfl)
  z46 := (fun _ => by kernel_rfl)
  v46 := (fun _ => by kernel_rfl)
  t51 := (by kernel_rfl)
  a51 := (fun _ => by kernel_rfl)
  z51 := (fun _ => by kernel_rfl)
  v51 := (fun _ => by kernel_rfl)
  t146 := (by kernel_rfl)
  a146 := (fun _ => by kernel_rfl)
  z146 := (fun _ => by kernel_rfl)
  v146 := (fun _ => by kernel_rfl)
  g1 := (by kernel_rfl)
set_option maxRecDepth 100000 in
theorem lays171 : Lays.n171 Tryd.prog ren where
  mixed := (by kernel_rfl)
  f129 := (by kernel_rfl)
  f171 := (by kernel_rfl)
  f243 := (by kernel_rfl)
  f246 := (by kernel_rfl)
  f283 := (by kernel_rfl)
  f284 := (by kernel_rfl)
  f285 := (by kernel_rfl)
  f286 := (by kernel_rfl)
  f317 := (by kernel_rfl)
  f318 := (by kernel_rfl)
  f319 := (by kernel_rfl)
  f320 := (by kernel_rfl)
  f337 := (by kernel_rfl)
  f338 := (by kernel_rfl)
  t0 := (by kernel_rfl)
  a0 := (fun _ => by kernel_rfl)
  z0 := (fun _ => by kernel_rfl)
  v0 := (fun _ => by kernel_rfl)
  t2 := (by kernel_rfl)
  a2 := (fun _ => by kernel_rfl)
  z2 := (fun _ => by kernel_rfl)
  v2 := (fun _ => by kernel_rfl)
  t3 := (by kernel_rfl)
  a3 := (fun _ => by kernel_rfl)
  z3 := (fun _ => by kernel_rfl)
  v3 := (fun _ => by kernel_rfl)
  t4 := (by kernel_rfl)
  a4 := (fun _ => by kernel_rfl)
  z4 := (fun _ => by kernel_rfl)
  v4 := (fun _ => by kernel_rfl)
  t5 := (by kernel_rfl)
  a5 := (fun _ => by kernel_rfl)
  z5 := (fun _ => by kernel_rfl)
  v5 := (fun _ => by kernel_rfl)
  t9 := (by kernel_rfl)
  a9 := (fun _ => by kernel_rfl)
  z9 := (fun _ => by kernel_rfl)
  v9 := (fun _ => by kernel_rfl)
  t20 := (by kernel_rfl)
  a20 := (fun _ => by kernel_rfl)
  z20 := (fun _ => by kernel_rfl)
  v20 := (fun _ => by kernel_rfl)
  t37 := (by kernel_rfl)
  a37 := (fun _ => by kernel_rfl)
  z37 := (fun _ => by kernel_rfl)
  v37 := (fun _ => by kernel_rfl)
  t46 := (by kernel_rfl)
  a46 := (fun _ => by kernel_rfl)
  z46 := (fun _ => by kernel_rfl)
  v46 := (fun _ => by kernel_rfl)
  t51 := (by kernel_rfl)
  a51 := (fun _ => by kernel_rfl)
  z51 := (fun _ => by kernel_rfl)
  v51 := (fun _ => by kernel_rfl)
  t53 := (by kernel_rfl)
  a53 := (fun _ => by kernel_rfl)
  z53 := (fun _ => by kernel_rfl)
  v53 := (fun _ => by kernel_rfl)
  t171 := (by kernel_rfl)
  a171 := (fun _ => by kernel_rfl)
  z171 := (fun _ => by kernel_rfl)
  v171 := (fun _ => by kernel_rfl)
  t173 := (by kernel_rfl)
  a173 := (fun _ => by kernel_rfl)
  z173 := (fun _ => by kernel_rfl)
  v173 := (fun _ => by kernel_rfl)
  t212 := (by kernel_rfl)
  a212 := (fun _ => by kernel_rfl)
  z212 := (fun _ => by kernel_rfl)
  v212 := (fun _ => by kernel_rfl)
  t213 := (by kernel_rfl)
  a213 := (fun _ => by kernel_rfl)
  z213 := (fun _ => by kernel_rfl)
  t232 := (by kernel_rfl)
  a232 := (fun _ => by kernel_rfl)
  z232 := (fun _ => by kernel_rfl)
  v232 := (fun _ => by kernel_rfl)
  t233 := (by kernel_rfl)
  a233 := (fun _ => by kernel_rfl)
  z233 := (fun _ => by kernel_rfl)
  v233 := (fun _ => by kernel_rfl)
  g17 := (by kernel_rfl)
  g18 := (by kernel_rfl)
  g19 := (by kernel_rfl)
set_option maxRecDepth 100000 in
theorem lays156 : Lays.n156 Tryd.prog ren where
  mixed := (by kernel_rfl)
  f156 := (by kernel_rfl)
  f165 := (by kernel_rfl)
  f166 := (by kernel_rfl)
  f169 := (by kernel_rfl)
  f240 := (by kernel_rfl)
  f241 := (by kernel_rfl)
  f276 := (by kernel_rfl)
  f277 := (by kernel_rfl)
  t0 := (by kernel_rfl)
  a0 := (fun _ => by kernel_rfl)
  z0 := (fun _ => by kernel_rfl)
  v0 := (fun _ => by kernel_rfl)
  t3 := (by kernel_rfl)
  a3 := (fun _ => by kernel_rfl)
  z3 := (fun _ => by kernel_rfl)
  v3 := (fun _ => by kernel_rfl)
  t4 := (by kernel_rfl)
  a4 := (fun _ => by kernel_rfl)
  z4 := (fun _ => by kernel_rfl)
  v4 := (fun _ => by kernel_rfl)
  t9 := (by kernel_rfl)
  a9 := (fun _ => by kernel_rfl)
  z9 := (fun _ => by kernel_rfl)
  v9 := (fun _ => by kernel_rfl)
  t20 := (by kernel_rfl)
  a20 := (fun _ => by kernel_rfl)
  z20 := (fun _ => by kernel_rfl)
  v20 := (fun _ => by kernel_rfl)
  t31 := (by kernel_rfl)
  a31 := (fun _ => by kernel_rfl)
  z31 := (fun _ => by kernel_rfl)
  v31 := (fun _ => by kernel_rfl)
  t37 := (by kernel_rfl)
  a37 := (fun _ => by kernel_rfl)
  z37 := (fun _ => by kernel_rfl)
  v37 := (fun _ => by kernel_rfl)
  t70 := (by kernel_rfl)
  a70 := (fun _ => by kernel_rfl)
  z70 := (fun _ => by kernel_rfl)
  v70 := (fun _ => by kernel_rfl)
  t72 := (by kernel_rfl)
  a72 := (fun _ => by kernel_rfl)
  z72 := (fun _ => by kernel_rfl)
  v72 := (fun _ => by kernel_rfl)
  t75 := (by kernel_rfl)
  a75 := (fun _ => by kernel_rfl)
  z75 := (fun _ => by kernel_rfl)
  v75 := (fun _ => by kernel_rfl)
  t76 := (by kernel_rfl)
  a76 := (fun _ => by kernel_rfl)
  z76 := (fun _ => by kernel_rfl)
  v76 := (fun _ => by kernel_rfl)
  t127 := (by kernel_rfl)
  a127 := (fun _ => by kernel_rfl)
  z127 := (fun _ => by kernel_rfl)
  v127 := (fun _ => by kernel_rfl)
  t164 := (by kernel_rfl)
  a164 := (fun _ => by kernel_rfl)
  z164 := (fun _ => by kernel_rfl)
  v164 := (fun _ => by kernel_rfl)
set_option maxRecDepth 100000 in
theorem laysM171 : LaysM.n171 Tryd.prog ren :=
  { lays171 with
    i0 := (by kernel_rfl),
    i2 := (by kernel_rfl),
    i3 := (by kernel_rfl),
    i4 := (by kernel_rfl),
    i5 := (by kernel_rfl),
    i9 := (by kernel_rfl),
    i20 := (by kernel_rfl),
    i37 := (by kernel_rfl),
    i46 := (by kernel_rfl),
    i51 := (by kernel_rfl),
    i53 := (by kernel_rfl),
    i171 := (by kernel_rfl),
    i173 := (by kernel_rfl),
    i212 := (by kernel_rfl),
    i232 := (by kernel_rfl),
    i233 := (by kernel_rfl),
    m17 := (by kernel_rfl),
    m18 := (by kernel_rfl),
    m19 := (by kernel_rfl) }
end Go.Proofs.YtkmjoppcecffkaaDoor

set_option linter.all false
/-! The library's contracts at this seat's numbers, in this walk's words. -/
namespace Go.Proofs.YtkmjoppcecffkaaDoor
open Go Go.RowKit Caw Go.Proofs

theorem number_at (s : ByteArray) (most : Int) (h : 0 ≤ most ∧ most ≤ 1000000) : SpecAt Tryd.prog 26 [.v (.string s), .v (.int .i64 most)] (.tup [.v (.int .i64 (numberR s most).1), .v (.bool (numberR s most).2)]) none :=
  specAt_lib (xs := [.string s, .int .i64 most]) (y := .tuple #[.int .i64 (numberR s most).1, .bool (numberR s most).2]) rfl (fun w => (number_walk s most h.1 h.2 w).mono fun e w' ⟨h1, pos, h2⟩ => ⟨h1, h2 ▸ (Below.refl _ _).alloc (Nat.le_refl _) _⟩)
theorem index44_at (s t : ByteArray) (h : one t) : SpecAt Tryd.prog 44 [.v (.string s), .v (.string t)] (.v (.int .i64 (indexZ s t))) none := by
  obtain ⟨c, rfl⟩ := h
  exact specAt_lib (xs := [.string s, .string ⟨#[c]⟩]) (y := .int .i64 (indexZ s ⟨#[c]⟩)) rfl (fun w => (Any.stringslite_Index_one lays219 s c w).mono fun e w' ⟨h1, h2⟩ => ⟨h1, h2 ▸ Below.refl _ _⟩)
theorem index47_at (s t : ByteArray) (h : one t) : SpecAt Tryd.prog 47 [.v (.string s), .v (.string t)] (.v (.int .i64 (indexZ s t))) none := by
  obtain ⟨c, rfl⟩ := h
  exact specAt_lib (xs := [.string s, .string ⟨#[c]⟩]) (y := .int .i64 (indexZ s ⟨#[c]⟩)) rfl (fun w => (Any.strings_Index_one lays143 s c w).mono fun e w' ⟨h1, h2⟩ => ⟨h1, h2 ▸ Below.refl _ _⟩)
theorem count46_at (s t : ByteArray) (h : one t) : SpecAt Tryd.prog 46 [.v (.string s), .v (.string t)] (.v (.int .i64 (((bl s).count (hd t) : Nat)))) none := by
  obtain ⟨c, rfl⟩ := h
  exact specAt_lib (xs := [.string s, .string ⟨#[c]⟩]) (y := .int .i64 (((bl s).count c : Nat))) rfl (fun w => (Any.strings_Count_one lays138 s c w).mono fun e w' ⟨h1, h2⟩ => ⟨h1, h2 ▸ Below.refl _ _⟩)
theorem below_growC (w : World) (k : Nat) (os : Array Obj) : Below w.heap.size w (Go.Sort.grow (w.drewN k) os) :=
  ⟨rfl, rfl, rfl, by show w.heap.size ≤ (w.heap ++ os).size; rw [Array.size_append]; omega, fun j hj => by
    show (w.heap ++ os)[j]? = w.heap[j]?
    exact Array.getElem?_append_left hj⟩
theorem tabIs_of {B : Base} (h : TabB Tryd.prog B) : Lib.TabIs Tryd.prog B.w "internal/strconv.uint64pow10" .u64 Lib.pow10Tab := by
  obtain ⟨-, -, h3⟩ := h _ laysM171.m17
  exact h3
theorem itoa29_at (n : Int) (h : 0 ≤ n ∧ n < 100000) : SpecAt Tryd.prog 29 [.v (.int .i64 n)] (.v (.string (ofL (Lib.decDigits n.toNat)))) none :=
  specAt_libT (xs := [.int .i64 n]) (y := .string (ofL (Lib.decDigits n.toNat))) rfl (fun B hB => (Any.strconv_Itoa laysM171 n (by omega) (by omega) B.w (tabIs_of hB)).mono fun e w' ⟨h1, k, os, h2⟩ => ⟨by
    rw [h1]
    obtain ⟨m, rfl⟩ : ∃ m : Nat, n = m := ⟨n.toNat, by omega⟩
    rw [Lib.itoa_nonneg]
    rfl, by subst h2; exact below_growC _ _ _⟩)
end Go.Proofs.YtkmjoppcecffkaaDoor

set_option linter.all false
/-! strings.Join, by the library's contract. -/
namespace Go.Proofs.YtkmjoppcecffkaaDoor
open Go Go.RowKit Caw Go.Proofs
theorem extra72 : Builder.X72 Tryd.prog ren where
  sizeBuilder := by kernel_rfl
  liesBuilder := by kernel_rfl
theorem extraB : Builder.Extra Tryd.prog ren where
  toX72 := extra72
  t5 := by kernel_rfl
  a5 := fun _ => by kernel_rfl
  z5 := fun _ => by kernel_rfl
  v5 := fun _ => by kernel_rfl
  infoByte := by kernel_rfl
  cellsByte := by kernel_rfl
  sizeByte := by kernel_rfl
  neB5 := by decide
theorem join30_at (l : List ByteArray) (t : ByteArray) (h : l ≠ [] ∧ l.length ≤ 1000 ∧ (Lib.join (l.map bl) (bl t)).length ≤ 100000) : SpecAt Tryd.prog 30 [.sl 1 (encZ l) none, .v (.string t)] (.v (.string (ofL (Lib.join (l.map bl) (bl t))))) none :=
  specAt_row (xs := l) (vs := [.string t]) (y := .string (ofL (Lib.join (l.map bl) (bl t)))) rfl (fun w b o c hc hcell hb => Any.strings_Join lays156 extraB b o c l t w hcell hb (by omega) hc (by have := h.2.2; exact Nat.le_trans this (by decide))) h.1
end Go.Proofs.YtkmjoppcecffkaaDoor

