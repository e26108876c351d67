import Derived.Test.YtkjodjaamjnejaaK10
import Derived.Test.YtkjodjaamjnejaaK11
set_option linter.all false

namespace Caw
open Go Go.RowKit
theorem prun_bind {P : Program} {α β : Type} : ∀ (s : Sem α) (f : α → Sem β), prun P (s >>= f) = (prun P s).bind fun x => prun P (f x)
  | .pure a, f => rfl
  | .program k, f => by
    show prun P (k P >>= f) = _
    rw [prun_bind]
    rfl
  | .load .., f => rfl
  | .store .., f => rfl
  | .new .., f => rfl
  | .shape .., f => rfl
  | .freeze .., f => rfl
  | .frozen .., f => rfl
  | .getObj .., f => rfl
  | .setObj .., f => rfl
  | .choose .., f => rfl
  | .sys .., f => rfl
  | .mark .., f => rfl
  | .halt .., f => rfl
theorem prun_pure {P : Program} {α : Type} (a : α) : prun P (pure a : Sem α) = some a := rfl
theorem prun_und {P : Program} {t : TypeId} {u : TypeDesc} (h : P.underlying t = some u) : prun P (underlying t) = some u := by
  unfold underlying
  simp [prun_bind, program, prun, h]
  try rfl
theorem eq_int {P : Program} {t : TypeId} {k0 : IntKind} (hu : P.underlying t = some (.int k0)) (d : Nat) (k : IntKind) (a : Int) : prun P (Op.equalIn (d + 1) t (.int k a) (.int k a)) = some true := by
  rw [Op.equalIn, prun_bind, prun_und hu]
  simp [prun_pure]
end Caw

/-! TcbAny: the segments that anybody may send. -/
set_option linter.unusedVariables false
namespace Caw
open Go
def farSeg (c : Conn) (x : Far) : Seg :=
  ⟨c.peer.port, c.self.port, IntKind.u32.wrap (c.recv.next + IntKind.u32.wrap x.seq), IntKind.u32.wrap (c.send.una + IntKind.u32.wrap x.ack), bAnd .u8 x.flags 31, x.wnd, x.mss, x.data⟩
theorem farSeg_ok (c : Conn) {x : Far} (h : FarOk x) (hl : ¬ (300 : Int) < x.data.length) : SegOk (farSeg c x) :=
  ⟨h.1, h.2, by simp only [farSeg]; omega⟩
theorem tmod_two (i : Nat) : ((i : Int).tmod 2 = 0) ∨ ((i : Int).tmod 2 = 1) := by
  rw [Int.tmod_eq_emod_of_nonneg (by omega)]; omega
theorem out_300 {n : Nat} {l : List Seg} (h : OutOk n l) (hn : n ≤ 300) : decide ((300 : Int) < l.length) = false := by
  have := h.1
  simp; omega
end Caw

/-! TcbShut: the plain law. -/
set_option linter.unusedVariables false
namespace Caw
open Go
/-- An end that was broken off. -/
structure ShutC (c d : Conn) : Prop where
  is : (epAbort c 12).conn = d
  out : decide ((1 : Int) < (epAbort c 12).out.length) = false
  ph : d.phase = 0
  ok : ConnOk d
  rc : d.recv = c.recv
theorem shut_name {d : Conn} (h : d.phase = 0) : stName d = ⟨#[67, 76, 79, 83, 69, 68]⟩ := by
  unfold stName
  rw [h]
  rfl
theorem shutC {c : Conn} (h : ConnOk c) : ∃ d, ShutC c d := by
  have hE := abort_okc (why := 12) h
  refine ⟨_, rfl, ?_, ?_, hE.c, ?_⟩
  · have := hE.out.1
    simp; omega
  all_goals
    unfold epAbort
    simp only
    by_cases hp : c.phase = 0
    · have h1 : ¬ (c.phase = 2 ∨ c.phase = 3) := by omega
      rw [if_neg (by simpa using hp), if_neg h1]
      first | exact hp | rfl
    · rw [if_pos hp]
      by_cases h1 : c.phase = 2 ∨ c.phase = 3
      · rw [if_pos h1]; rfl
      · rw [if_neg h1]; rfl
section
variable {c d : Conn} (h : ShutC c d)
include h
theorem ShutC.due : d.due = 0 := by
  have hp := h.ph
  rcases h.ok.fine with g | g | g | g
  · exact g.2.1
  · omega
  · omega
  · omega
theorem ShutC.hear (s : Seg) (now : Int) : hear d s now = ⟨d, now, []⟩ := by
  unfold Caw.hear
  rw [if_pos h.ph]
theorem ShutC.tick (now : Int) : epTick d now = ⟨d, now, []⟩ := by
  unfold epTick
  have hp := h.ph
  simp only
  rw [if_neg (by omega), if_pos (.inl h.due)]
  rfl
theorem ShutC.close (now : Int) : epClose d now = ⟨d, now, []⟩ := by
  unfold epClose
  have hp := h.ph
  simp only
  rw [if_neg (by omega), if_neg (by omega)]
  rfl
theorem ShutC.write : ∃ y : Int, y ≠ 0 ∧ ∀ x now, epWrite d x now = (d, 0, [], y) := by
  by_cases he : d.err = 0
  · refine ⟨3, by decide, fun x now => ?_⟩
    unfold epWrite
    rw [if_neg (fun q => q.2 he), if_pos (.inl h.ph)]
  · refine ⟨d.err, he, fun x now => ?_⟩
    unfold epWrite
    rw [if_pos ⟨h.ph, he⟩]
theorem ShutC.read : (c.recv.data = [] ∧ ∃ z : Int, z ≠ 0 ∧ ∀ now, epRead d 1000 now = (d, [], [], z)) ∨ (c.recv.data ≠ [] ∧ ∃ d3, ∀ now, epRead d 1000 now = (d3, c.recv.data, [], 0)) := by
  have hp := h.ph
  by_cases hd : c.recv.data = []
  · refine .inl ⟨hd, ?_⟩
    have h0 : ¬ (1000 : Int) < 1 := by omega
    have h1 : ¬ 0 < d.recv.data.length := by rw [h.rc, hd]; simp
    by_cases hdn : d.recv.done = true
    · exact ⟨11, by decide, fun now => by unfold epRead; rw [if_neg h0, if_neg h1, if_pos hdn]⟩
    · by_cases he : d.err = 0
      · exact ⟨3, by decide, fun now => by unfold epRead; rw [if_neg h0, if_neg h1, if_neg hdn, if_neg (fun q => q.2 he), if_pos hp]⟩
      · exact ⟨d.err, he, fun now => by unfold epRead; rw [if_neg h0, if_neg h1, if_neg hdn, if_pos ⟨hp, he⟩]⟩
  · refine .inr ⟨hd, { d with recv := (recvRead d.recv 1000).1 }, fun now => ?_⟩
    have h0 : ¬ (1000 : Int) < 1 := by omega
    have h1 : 0 < d.recv.data.length := by rw [h.rc]; exact List.length_pos_iff.2 hd
    have h2 : ¬ (d.phase = 3 ∧ recvWindow d.recv < 64) := by omega
    have hl : d.recv.data.length ≤ 256 := h.ok.recv.len
    have hr : (recvRead d.recv 1000).2 = c.recv.data := by
      rw [← h.rc]
      unfold recvRead
      simp only
      have : (d.recv.data.length : Int) ≤ readN d.recv 1000 := by unfold readN maxI minI; (repeat' split) <;> omega
      rw [List.take_of_length_le (by omega)]
    unfold epRead
    rw [if_neg h0, if_pos h1]
    simp only
    rw [if_neg h2, hr]
    rfl
theorem ShutC.pre (s : Seg) (hs : s.data.length ≤ 4096) : hearPre d s := hearPre_of s hs h.ok
end
end Caw
namespace Caw
open Go
theorem pSeg_lit (a b c d e f g : Int) (x : List Int) : pSeg [.v (.int .u16 a), .v (.int .u16 b), .v (.int .u32 c), .v (.int .u32 d), .v (.int .u8 e), .v (.int .u16 f), .v (.int .u16 g), .sl 1 (encB x) none] = some (⟨a, b, c, d, e, f, g, x⟩, []) := pSeg_all ⟨a, b, c, d, e, f, g, x⟩
end Caw
namespace Caw
open Go Go.RowKit
theorem pv_far {W : World} {pr : Pr} {x : Far} {cs : Array Value} (hsz : cs.size = 6) (h : ∀ j (hj : j < (flat (.agg (farCells x))).length), PV W pr (flat (.agg (farCells x)))[j] (cs.toList.getD j undef)) : PV W pr (.agg (farCells x)) (.agg cs) := by
  refine .agg (by rw [hsz]; rfl) (fun i hi => ?_)
  have h1 := h i hi
  have e : cs.toList.getD i undef = cs.getD i undef := by simp [Array.getD_eq_getD_getElem?, List.getD]
  rw [e] at h1
  exact h1
end Caw

