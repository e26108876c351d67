import Derived.Test.YtkjodjaamjnejaaK10
import Derived.Test.YtkjodjaamjnejaaK11
set_option linter.all false

namespace Caw
open Go Go.RowKit
theorem prun_bind {P : Program} {α β : Type} : ∀ (s : Sem α) (f : α → Sem β), prun P (s >>= f) = (prun P s).bind fun x => prun P (f x)
  | .pure a, f => rfl
  | .program k, f => by
    show prun P (k P >>= f) = _
    rw [prun_bind]
    rfl
  | .load .., f => rfl
  | .store .., f => rfl
  | .new .., f => rfl
  | .shape .., f => rfl
  | .freeze .., f => rfl
  | .frozen .., f => rfl
  | .getObj .., f => rfl
  | .setObj .., f => rfl
  | .choose .., f => rfl
  | .sys .., f => rfl
  | .mark .., f => rfl
  | .halt .., f => rfl
theorem prun_pure {P : Program} {α : Type} (a : α) : prun P (pure a : Sem α) = some a := rfl
theorem prun_und {P : Program} {t : TypeId} {u : TypeDesc} (h : P.underlying t = some u) : prun P (underlying t) = some u := by
  unfold underlying
  simp [prun_bind, program, prun, h]
  try rfl
theorem eq_int {P : Program} {t : TypeId} {k0 : IntKind} (hu : P.underlying t = some (.int k0)) (d : Nat) (k : IntKind) (a : Int) : prun P (Op.equalIn (d + 1) t (.int k a) (.int k a)) = some true := by
  rw [Op.equalIn, prun_bind, prun_und hu]
  simp [prun_pure]
end Caw

/-! TcbAny: the segments that anybody may send. -/
set_option linter.unusedVariables false
namespace Caw
open Go
def farSeg (c : Conn) (x : Far) : Seg :=
  ⟨c.peer.port, c.self.port, IntKind.u32.wrap (c.recv.next + IntKind.u32.wrap x.seq), IntKind.u32.wrap (c.send.una + IntKind.u32.wrap x.ack), bAnd .u8 x.flags 31, x.wnd, x.mss, x.data⟩
theorem farSeg_ok (c : Conn) {x : Far} (h : FarOk x) (hl : ¬ (300 : Int) < x.data.length) : SegOk (farSeg c x) :=
  ⟨h.1, h.2, by simp only [farSeg]; omega⟩
theorem tmod_two (i : Nat) : ((i : Int).tmod 2 = 0) ∨ ((i : Int).tmod 2 = 1) := by
  rw [Int.tmod_eq_emod_of_nonneg (by omega)]; omega
theorem out_300 {n : Nat} {l : List Seg} (h : OutOk n l) (hn : n ≤ 300) : decide ((300 : Int) < l.length) = false := by
  have := h.1
  simp; omega
end Caw

