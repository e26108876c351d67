import Derived.Test.YtlogglgfpeeheaaCavE
namespace Cav
open Go Go.RowKit

section
variable {P : Program} {Γ : Ctx} {fo : Nat → Prop} {w0 w w' : World} {N : Nat} {ρ : Nat → Nat} {st : St} {a : Act}

theorem move_sound (h : Rel0 fo w0 N ρ st a w) {o : Oper} {y : Operand} (ho : o.op = .move y ∨ o.op = .assign y) (hd : ∀ d, o.dst = some d → d < N) (Q : Exit → Act → World → Prop) :
    o.wp P a w (fun a' w' => Rel fo w0 N (putSt st o.dst (ev st y) st.ob) a' w') Q := by
  refine wp_value (v := a.eval y) (w' := w) ?_ ⟨ρ, h.putSt hd (ev_rel h y)⟩
  unfold execOp
  rcases ho with ho | ho <;> simp only [ho, Sem.run_pure]

theorem pick_sound (h : Rel0 fo w0 N ρ st a w) {o : Oper} {c x y : Operand} (ho : o.op = .pick c x y) {t : Bool} (hc : ev st c = .v (.bool t)) (hd : ∀ d, o.dst = some d → d < N) (Q : Exit → Act → World → Prop) :
    o.wp P a w (fun a' w' => Rel fo w0 N (putSt st o.dst (if t then ev st x else ev st y) st.ob) a' w') Q := by
  have hce : a.eval c = .bool t := by have := ev_rel h c; rw [hc] at this; exact V_v this
  refine wp_value (v := if t then a.eval x else a.eval y) (w' := w) ?_ ⟨ρ, h.putSt hd ?_⟩
  · unfold execOp
    simp only [ho, hce, asBool, Sem.run_bind, Sem.run_pure, Result.andThen_ok]
  · cases t
    · exact ev_rel h y
    · exact ev_rel h x

theorem alloc_sound (h : Rel0 fo w0 N ρ st a w) {o : Oper} {t : TypeId} (ho : o.op = .alloc t) {d : Nat} (hdst : o.dst = some d) (hd : d < N) {z : Value} (hz : zeroT P t = some z) (hn : st.ob d = none) (Q : Exit → Act → World → Prop) :
    o.wp P a w (fun a' w' => Rel fo w0 N (putSt st o.dst (.ptr d 0) (setF st.ob d (some (flat (.v z))))) a' w') Q := by
  refine new_sound h hdst hd hn (t := t) (x := .v z) (y := z) (.pure (.v _)) (by simp) ?_ Q
  have hz' : (zeroValue t).run P w = .ok z w := by
    unfold zeroT at hz
    cases hq : P.info? t with
    | none => rw [hq] at hz; cases hz
    | some i =>
      rw [hq] at hz
      simp only [Option.bind_some] at hz
      simp [zeroValue, typeInfo, hq, hz]
  unfold execOp
  simp only [ho, Sem.run_bind, Instr.alloc, hz', Result.andThen_ok, newVar, newRow, newObj, Sem.run_pure]
  rfl

theorem box_sound (h : Rel0 fo w0 N ρ st a w) {o : Oper} {t : TypeId} {y : Operand} (ho : o.op = .box t y) {d : Nat} (hdst : o.dst = some d) (hd : d < N) (hl : live (ev st y) = true) (hn : st.ob d = none) (Q : Exit → Act → World → Prop) :
    o.wp P a w (fun a' w' => Rel fo w0 N (putSt st o.dst (.ptr d 0) (setF st.ob d (some (flat (ev st y))))) a' w') Q := by
  refine new_sound h hdst hd hn (t := t) (ev_rel h y) (by rintro e; rw [e] at hl; cases hl) ?_ Q
  unfold execOp
  simp only [ho, Sem.run_bind, Instr.box, newVar, newRow, newObj, Sem.run_pure]
  rfl

theorem sizeT_run {t : TypeId} {s : Nat} (hs : sizeT P t = some s) (w : World) : (Go.sizeOf t).run P w = .ok s w := by
  unfold sizeT at hs
  cases hq : P.info? t with
  | none => rw [hq] at hs; cases hs
  | some i => rw [hq] at hs; simp only [Option.map_some, Option.some.injEq] at hs; simp [Go.sizeOf, typeInfo, hq, hs]

theorem V_sl {ob : Obs} {ok : Nat → Prop} {sz : Nat} {es : List AV} {y : Value} (h : V ob ρ w ok (.sl sz es) y) : PV w ok (.sl sz es) y := by
  cases h with
  | pure h => exact h

theorem indexAddr_sound (h : Rel0 fo w0 N ρ st a w) {o : Oper} {t : TypeId} {p i : Operand} (ho : o.op = .indexAddr t p i) {x : AV} {ob' : Obs} (he : eop P Γ st o = some (x, ob')) (hd : ∀ d, o.dst = some d → d < N) (Q : Exit → Act → World → Prop) :
    o.wp P a w (fun a' w' => Rel fo w0 N (putSt st o.dst x ob') a' w') Q := by
  unfold eop at he
  simp only [ho] at he
  have fin : ∀ y, (Instr.indexAt t (a.eval p) (a.eval i)).run P w = .ok y w → V st.ob ρ w (okB fo st.ob ρ) x y → ob' = st.ob → o.wp P a w (fun a' w' => Rel fo w0 N (putSt st o.dst x ob') a' w') Q := by
    intro y hy hv e
    subst e
    refine wp_value (v := y) (w' := w) ?_ ⟨ρ, h.putSt hd hv⟩
    unfold execOp
    simp only [ho, Sem.run_bind, hy, Result.andThen_ok, Sem.run_pure]
  have hp := ev_rel h p
  have hi := ev_rel h i
  split at he
  case h_2 => cases he
  rename_i kd n hie
  rw [hie] at hi
  have hiv := V_v hi
  rw [hiv] at fin
  split at he
  case h_3 => cases he
  · rename_i sz es hpe
    rw [hpe] at hp
    split at he
    case isFalse => cases he
    rename_i hc
    obtain ⟨hn0, hsT⟩ := hc
    unfold sliceT at hsT
    split at hsT
    case h_2 => cases hsT
    rename_i e hu
    have hsz := hsT
    simp only [Option.map_eq_some_iff, Prod.mk.injEq] at he
    obtain ⟨y, hy, rfl, rfl⟩ := he
    have hpv := V_sl hp
    generalize hval : a.eval p = val at hpv fin
    obtain ⟨hlt, hye⟩ := List.getElem?_eq_some_iff.1 hy
    cases hpv with
    | nil => simp at hlt
    | sl cells hb hblt hs hh hcell =>
      rename_i b off cap
      have hnlt : n < (es.length : Int) := by omega
      refine fin (.pointer (some ⟨b, off + n.toNat * sz, none⟩)) ?_ ?_ rfl
      · simp only [Instr.indexAt, Sem.run_bind, asIntOf, Sem.run_pure, Result.andThen_ok, run_underlying hu w]
        simp [hn0, hnlt, sizeT_run hsz w, Addr.add_mid]
      · have hf := hs n.toNat hlt
        rw [hye] at hf
        have e0 : off + n.toNat * sz = off + n.toNat * sz + 0 := by omega
        rw [e0]
        refine .rptr (cells n.toNat) hb hblt (fun j hj => ?_) (fun j hj => ?_)
        · have := hh n.toNat hlt j (by rw [hye]; exact hj)
          simpa [hye] using this
        · have := hcell n.toNat hlt j (by omega)
          rwa [← Nat.add_assoc] at this
  · rename_i m k hpe
    rw [hpe] at hp
    split at he
    case h_2 => cases he
    rename_i len s hA
    unfold arrT at hA
    split at hA
    case h_2 => cases hA
    rename_i n' e hu
    simp only [Option.map_eq_some_iff, Prod.mk.injEq] at hA
    obtain ⟨s', hs, rfl, rfl⟩ := hA
    split at he
    case isFalse => cases he
    rename_i hc
    simp only [Option.some.injEq, Prod.mk.injEq] at he
    obtain ⟨rfl, rfl⟩ := he
    obtain ⟨hpv, hob⟩ := V_ptr hp
    rw [hpv] at fin
    refine fin (.pointer (some ⟨ρ m, k + n.toNat * s', none⟩)) ?_ (.ptr hob) rfl
    simp only [Instr.indexAt, Sem.run_bind, asIntOf, Sem.run_pure, Result.andThen_ok, run_underlying hu w, Instr.sureAddr]
    simp [hc.1, hc.2, sizeT_run hs w, Addr.add_mid]

theorem len_sound (h : Rel0 fo w0 N ρ st a w) {o : Oper} {c : Call} (ho : o.op = .call c) (hb : c.callee = .builtin .len) {sz : Nat} {es : List AV} {t e : TypeId}
    (ha : c.args.toList.map (ev st) = [.sl sz es]) (ht : c.argTypes.toList = [t]) (hu : P.underlying t = some (.slice e)) (hd : ∀ d, o.dst = some d → d < N) (Q : Exit → Act → World → Prop) :
    o.wp P a w (fun a' w' => Rel fo w0 N (putSt st o.dst (.v (goInt es.length)) st.ob) a' w') Q := by
  obtain ⟨callee, args, argTypes⟩ := c
  simp only at hb ha ht
  subst hb
  obtain ⟨x, hx⟩ : ∃ x, args.toList = [x] := by
    have := congrArg List.length ha
    simp only [List.length_map, List.length_singleton] at this
    exact List.length_eq_one_iff.1 this
  obtain rfl : args = #[x] := by rw [← Array.toArray_toList (xs := args), hx]
  obtain rfl : argTypes = #[t] := by rw [← Array.toArray_toList (xs := argTypes), ht]
  have hxe : ev st x = .sl sz es := by simpa using ha
  have hx2 := ev_rel h x
  rw [hxe] at hx2
  have hpv := V_sl hx2
  have hrun : ∀ b n cap, a.eval x = .slice b n cap → (execOp a.eval o).run P w = .ok (.value (goInt n)) w := by
    intro b n cap hq
    unfold execOp
    simp [ho, resolve, invoke, builtin, Builtin.len_, hq, run_underlying hu w]
  generalize hval : a.eval x = val at hpv
  cases hpv with
  | nil b cap => exact wp_value (hrun _ _ _ hval) ⟨ρ, h.putSt hd (.pure (.v _))⟩
  | sl => exact wp_value (hrun _ _ _ hval) ⟨ρ, h.putSt hd (.pure (.v _))⟩

/-- **Every operation does what 'eop' says.** -/
theorem eop_sound (hΓ : GOk P Γ) (h : Rel0 fo w0 N ρ st a w) {o : Oper} {x : AV} {ob' : Obs} (he : eop P Γ st o = some (x, ob')) (hd : ∀ d, o.dst = some d → d < N) (Q : Exit → Act → World → Prop) :
    o.wp P a w (fun a' w' => Rel fo w0 N (putSt st o.dst x ob') a' w') Q := by
  have he0 := he
  unfold eop at he
  cases ho : o.op
  case move y =>
    simp only [ho, Option.some.injEq, Prod.mk.injEq] at he
    obtain ⟨rfl, rfl⟩ := he
    exact move_sound h (.inl ho) hd Q
  case assign y =>
    simp only [ho, Option.some.injEq, Prod.mk.injEq] at he
    obtain ⟨rfl, rfl⟩ := he
    exact move_sound h (.inr ho) hd Q
  case pick c y z =>
    simp only [ho] at he
    split at he
    case h_2 => cases he
    rename_i t hc
    simp only [Option.some.injEq, Prod.mk.injEq] at he
    obtain ⟨rfl, rfl⟩ := he
    exact pick_sound h ho hc hd Q
  case alloc t =>
    simp only [ho] at he
    split at he
    case h_2 => cases he
    rename_i d z hdst hz
    split at he
    case isFalse => cases he
    rename_i hn
    simp only [Option.some.injEq, Prod.mk.injEq] at he
    obtain ⟨rfl, rfl⟩ := he
    exact alloc_sound h ho hdst (hd d hdst) hz (by simpa using hn) Q
  case box t y =>
    simp only [ho] at he
    split at he
    case h_2 => cases he
    rename_i d hdst
    split at he
    case isFalse => cases he
    rename_i hn
    simp only [Bool.and_eq_true] at hn
    simp only [Option.some.injEq, Prod.mk.injEq] at he
    obtain ⟨rfl, rfl⟩ := he
    exact box_sound h ho hdst (hd d hdst) hn.2 (by simpa using hn.1) Q
  case load t y => exact loadAt_sound h ho he0 hd Q
  case store t p y =>
    simp only [ho] at he
    split at he
    case h_2 => cases he
    rename_i n k hp
    split at he
    case h_2 => cases he
    rename_i cs sz hn hsz
    split at he
    case isFalse => cases he
    rename_i hc
    simp only [Option.some.injEq, Prod.mk.injEq] at he
    obtain ⟨rfl, rfl⟩ := he
    exact store_sound h ho hp hn hsz hc.1 hc.2.1 hc.2.2 hd Q
  case fieldAddr s p f => exact fieldAddr_sound h ho he0 hd Q
  case indexAddr t p i => exact indexAddr_sound h ho he0 hd Q
  case call c =>
    simp only [ho] at he
    split at he
    case h_3 => cases he
    · rename_i f hc
      split at he
      case h_2 => cases he
      rename_i g hf
      split at he
      case h_2 => cases he
      rename_i F hF
      split at he
      case isFalse => cases he
      rename_i hp
      simp only [Option.map_eq_some_iff, Prod.mk.injEq] at he
      obtain ⟨r, hr, rfl, rfl⟩ := he
      exact call_sound hΓ h ho hc (calleeOf_eq hf) hF hp hr hd Q
    · rename_i b hc
      split at he
      · rename_i n hn
        simp only [Option.some.injEq, Prod.mk.injEq] at he
        obtain ⟨rfl, rfl⟩ := he
        unfold slLen at hn
        split at hn
        case h_2 => cases hn
        rename_i sz es t h1 h2
        split at hn
        case h_2 => cases hn
        rename_i s hsT
        unfold sliceT at hsT
        split at hsT
        case h_2 => cases hsT
        rename_i e hu
        simp only [Option.some.injEq] at hn
        subst hn
        exact len_sound h ho hc h1 h2 hu hd Q
      · exact dflt_sound h (by simp [ho]) he hd Q
  case select => simp only [ho] at he; cases he
  all_goals
    simp only [ho] at he
    exact dflt_sound h (by simp [ho]) he hd Q

end
end Cav
