import Derived.Test.YtmaiomgopbjfoaaGreatDoorK14
set_option linter.all false
namespace Go.Proofs.YtmaiomgopbjfoaaGreatDoor.Tab
open Go Mir
theorem tys_ok : ∀ t ti, tys.get t = some ti → mkTI Tryz.prog t = some ti := Tr.ok (by kernel_rfl)
theorem fns_ok : ∀ f fn, fns.get f = some fn → Tryz.prog.funcs[f]? = some fn := Tr.ok (by kernel_rfl)
theorem fns_okF : ∀ f fn, fns.get f = some fn → okF fn = true := Tr.okB (by kernel_rfl)
theorem aps_ok : ∀ t x, aps.get t = some x → mkAp Tryz.prog t = some x := Tr.ok (by kernel_rfl)
theorem tb_ok : TbOk Tryz.prog tb := ⟨aps_ok, tys_ok, fun f fn h => ⟨fns_ok f fn h, fns_okF f fn h⟩⟩
theorem codes : (Tryz.prog.funcs.toList.all fun fn => match fn.body with
  | some c => codeOk c
  | none => true) = true := by kernel_rfl
theorem pok {w0 : Bs} {sy : SyT} (hs : SOk Tryz.prog w0 sy) : POk Tryz.prog w0 sy := ⟨hs, trivial, fun f fn c hf hb => by
  have h := codes
  rw [List.all_eq_true] at h
  have := h fn (by rw [Array.mem_toList_iff]; exact Array.mem_of_getElem? hf)
  simpa only [hb] using this, by kernel_rfl⟩
theorem pok0 (w0 : Bs) : POk Tryz.prog w0 noSy := pok (SOk.none _ _)
end Go.Proofs.YtmaiomgopbjfoaaGreatDoor.Tab

