import Derived.Test.YtlogglgfpeeheaaCavD
namespace Cav
open Go Go.RowKit

section
variable {P : Program} {Γ : Ctx} {fo : Nat → Prop} {w0 w w' : World} {N : Nat} {ρ : Nat → Nat} {st : St} {a : Act}

theorem leaf_PV {ob : Obs} {ok : Nat → Prop} {x : AV} {y : Value} (h : V ob ρ w ok x y) (hx : leafP x = true) : PV w ok x y := by
  cases h with
  | pure h => exact h
  | _ => cases hx

theorem pure_PV {ob : Obs} {ok : Nat → Prop} {x : AV} {y : Value} (h : V ob ρ w ok x y) (hx : isPure x = true) : PV w ok x y := by
  cases h with
  | pure h => exact h
  | agg hl h => exact .agg hl (fun i hi => leaf_PV (h i hi) (List.all_eq_true.1 hx _ (List.getElem_mem hi)))
  | _ => cases hx

theorem V_ptr {ob : Obs} {ok : Nat → Prop} {n k : Nat} {y : Value} (h : V ob ρ w ok (.ptr n k) y) : y = .pointer (some ⟨ρ n, k, none⟩) ∧ ob n ≠ none := by
  cases h with
  | pure h => cases h
  | ptr h => exact ⟨rfl, h⟩

/-- A new variable in memory. -/
theorem new_sound (h : Rel0 fo w0 N ρ st a w) {o : Oper} {d : Nat} (ho : o.dst = some d) (hd : d < N) (hn : st.ob d = none) {t : TypeId} {x : AV} {y : Value}
    (hx : V st.ob ρ w (okB fo st.ob ρ) x y) (hlive : x ≠ .dead)
    (hrun : (execOp a.eval o).run P w = .ok (.value (.pointer (some ⟨w.heap.size, 0, none⟩))) (w.alloc (.cells y.cells t))) (Q : Exit → Act → World → Prop) :
    o.wp P a w (fun a' w' => Rel fo w0 N (putSt st o.dst (.ptr d 0) (setF st.ob d (some (flat x)))) a' w') Q := by
  have hf := V_flat hx hlive
  have h1 := h.alloc hn (vs := y.cells) t hf.1 hf.2
  refine wp_value hrun ⟨setF ρ d w.heap.size, ?_⟩
  have e : (Value.pointer (some ⟨w.heap.size, 0, none⟩)) = .pointer (some ⟨setF ρ d w.heap.size d, 0, none⟩) := by simp [setF]
  rw [e, ho]
  exact h1.put (x := .ptr d 0) hd (V.ptr (by simp [setF]))

theorem flat_store {ob : Obs} {ok : Nat → Prop} {x : AV} {y : Value} (h : V ob ρ w ok x y) (hx : (flat x).all leafOk = true) : x ≠ .dead ∧ ∀ v ∈ y.cells.toList, v.oneCell' = true := by
  have hd : x ≠ .dead := by rintro rfl; simp [flat, leafOk] at hx
  refine ⟨hd, fun v hv => ?_⟩
  obtain ⟨c, hc, hR⟩ := (V_all2 h hd).mem hv
  exact leaf_one hR (List.all_eq_true.1 hx c hc)

theorem store_sound (h : Rel0 fo w0 N ρ st a w) {o : Oper} {t : TypeId} {p y : Operand} (ho : o.op = .store t p y) {n k sz : Nat} {cs : List AV} (hp : ev st p = .ptr n k) (hn : st.ob n = some cs)
    (hsz : sizeT P t = some sz) (hl : (flat (ev st y)).length = sz) (hk : k + sz ≤ cs.length) (hok : (flat (ev st y)).all leafOk = true) (hd : ∀ d, o.dst = some d → d < N) (Q : Exit → Act → World → Prop) :
    o.wp P a w (fun a' w' => Rel fo w0 N (putSt st o.dst (.v undef) (setF st.ob n (some (cs.take k ++ flat (ev st y) ++ cs.drop (k + sz))))) a' w') Q := by
  obtain ⟨vs, e, hh, hr, _⟩ := row_all2 h hn
  have hy := ev_rel h y
  obtain ⟨hdead, hone⟩ := flat_store hy hok
  have hy2 := V_all2 hy hdead
  have hpe : a.eval p = .pointer (some ⟨ρ n, k, none⟩) := by
    have := ev_rel h p
    rw [hp] at this
    exact (V_ptr this).1
  have hlen : (a.eval y).cells.toList.length = sz := by rw [← hy2.1]; exact hl
  have hst := run_storeCells_at P (ρ n) k e (a.eval y).cells.toList 0 vs w hh (by have := hr.1; simp at this; omega) hone
  rw [Nat.add_zero, hlen] at hst
  have hsize : (Go.sizeOf t).run P w = .ok sz w := by
    unfold sizeT at hsz
    cases hq : P.info? t with
    | none => rw [hq] at hsz; cases hsz
    | some i => rw [hq] at hsz; simp only [Option.map_some, Option.some.injEq] at hsz; simp [Go.sizeOf, typeInfo, hq, hsz]
  have hrun : (execOp a.eval o).run P w = .ok .skip (w.setRow (ρ n) (vs.toList.take k ++ (a.eval y).cells.toList ++ vs.toList.drop (k + sz)).toArray) := by
    have e1 : (a.eval y).cells.size = sz := by simpa using hlen
    unfold execOp
    simp only [ho, hpe, Instr.storeAt, Instr.sureAddr, Sem.run_bind, Sem.run_pure, Result.andThen_ok, storeVar, hsize, e1]
    simp only [ne_eq, not_true_eq_false, if_false]
    rw [hst]
    rfl
  have hnew : All2 (V st.ob ρ w (okB fo st.ob ρ)) (cs.take k ++ flat (ev st y) ++ cs.drop (k + sz)) (vs.toList.take k ++ (a.eval y).cells.toList ++ vs.toList.drop (k + sz)) :=
    ((hr.take k).append hy2).append (hr.drop _)
  have h1 := h.store hn (cs := cs.take k ++ flat (ev st y) ++ cs.drop (k + sz)) (vs := (vs.toList.take k ++ (a.eval y).cells.toList ++ vs.toList.drop (k + sz)).toArray) hh
    (by simpa using hnew.1) (fun i hi => by rw [arr_getD]; exact hnew.2 i hi)
  refine wp_skip' hrun ⟨ρ, ?_⟩
  exact h1.putSt (dst := o.dst) hd (.pure (.v _))

theorem call_sound (hΓ : GOk P Γ) (h : Rel0 fo w0 N ρ st a w) {o : Oper} {c : Call} {f : Operand} {g : FuncId} (ho : o.op = .call c) (hc : c.callee = .value f)
    (hf : ev st f = .v (.func (.func g) #[] #[])) {F : Fun} (hF : Γ g = some F) (hp : (c.args.toList.map (ev st)).all isPure = true) {r : AV} (hr : F (c.args.toList.map (ev st)) = some r)
    (hd : ∀ d, o.dst = some d → d < N) (Q : Exit → Act → World → Prop) :
    o.wp P a w (fun a' w' => Rel fo w0 N (putSt st o.dst r st.ob) a' w') Q := by
  obtain ⟨hs, he⟩ := hΓ g F hF
  have hfe : a.eval f = .func (.func g) #[] #[] := by have := ev_rel h f; rw [hf] at this; exact V_v this
  have hargs : All2 (PV w (okB fo st.ob ρ)) (c.args.toList.map (ev st)) (c.args.map a.eval).toList := by
    refine ⟨by simp, fun i hi => ?_⟩
    have hi' : i < c.args.size := by simpa using hi
    have e1 : (c.args.toList.map (ev st))[i] = ev st c.args[i] := by simp
    have e2 : (c.args.map a.eval).toList.getD i undef = a.eval c.args[i] := by simp [hi']
    rw [e1, e2]
    exact pure_PV (ev_rel h _) (List.all_eq_true.1 hp _ (List.mem_map.2 ⟨c.args[i], by simp, rfl⟩))
  have hrun : (execOp a.eval o).run P w = .ok (.enter g (c.args.map a.eval)) w := by
    unfold execOp
    simp only [ho, Sem.run_bind, resolve, hc, hfe, Deferred.ofValue, Sem.run_pure, Result.andThen_ok, invoke]
    simpa using he (c.args.map a.eval) w
  unfold Oper.wp
  rw [hrun, Oper.upon_enter]
  refine (hs (okB fo st.ob ρ) w _ _ r hr hargs).mono ?_
  rintro e w2 ⟨y, rfl, hb, hy⟩
  have h2 := h.grow hb
  refine ⟨ρ, h2.putSt hd (.pure (hy.mono ⟨Nat.le_refl _, fun _ _ _ => rfl⟩ ?_))⟩
  rintro b (hb2 | hb2) _
  · exact hb2
  · refine ⟨h.fo b (Nat.le_trans h.below.size hb2), fun n hn e => ?_⟩
    have := h.lt hn
    omega

theorem loadAt_sound (h : Rel0 fo w0 N ρ st a w) {o : Oper} {t : TypeId} {p : Operand} (ho : o.op = .load t p) {x : AV} {ob' : Obs} (he : eop P Γ st o = some (x, ob')) (hd : ∀ d, o.dst = some d → d < N) (Q : Exit → Act → World → Prop) :
    o.wp P a w (fun a' w' => Rel fo w0 N (putSt st o.dst x ob') a' w') Q := by
  unfold eop at he
  simp only [ho] at he
  have hp := ev_rel h p
  have fin : ∀ y, (Instr.loadAt t (a.eval p)).run P w = .ok y w → V st.ob ρ w (okB fo st.ob ρ) x y → ob' = st.ob → o.wp P a w (fun a' w' => Rel fo w0 N (putSt st o.dst x ob') a' w') Q := by
    intro y hy hv e
    subst e
    refine wp_value (v := y) (w' := w) ?_ ⟨ρ, h.putSt hd hv⟩
    unfold execOp
    simp only [ho, Sem.run_bind, hy, Result.andThen_ok, Sem.run_pure]
  cases hv : ev st p with
  | ptr n k =>
    rw [hv] at he hp
    simp only at he
    cases hn : st.ob n with
    | none => rw [hn] at he; cases he
    | some cs =>
      rw [hn] at he
      simp only [Option.map_eq_some_iff, Prod.mk.injEq] at he
      obtain ⟨x', hx', rfl, rfl⟩ := he
      obtain ⟨vs, e, hh, hr, hc⟩ := row_all2 h hn
      obtain ⟨y, hy, hR⟩ := ldc_sound (off := 0) hr hc hx'
      have hpe : a.eval p = .pointer (some ⟨ρ n, k, none⟩) := (V_ptr hp).1
      exact fin y (by rw [hpe]; simpa using hy) hR rfl
  | rptr z k =>
    rw [hv] at he hp
    simp only [Option.map_eq_some_iff, Prod.mk.injEq] at he
    obtain ⟨x', hx', rfl, rfl⟩ := he
    generalize hval : a.eval p = val at hp
    cases hp with
    | pure h => cases h
    | rptr cells hb hlt hh hc =>
      rename_i b off
      have hr : All2 (V st.ob ρ w (okB fo st.ob ρ)) (flat z) ((List.range (flat z).length).map cells) := by
        refine ⟨by simp, fun i hi => ?_⟩
        have e : ((List.range (flat z).length).map cells).getD i undef = cells i := by simp [hi]
        rw [e]
        exact .pure (hh i hi)
      obtain ⟨y, hy, hR⟩ := ldc_sound (b := b) (off := off) hr (fun j v hj => by
        rw [List.getElem?_map] at hj
        by_cases hlt : j < (flat z).length
        · simp [hlt] at hj; rw [← hj]; exact hc j hlt
        · rw [List.getElem?_eq_none (by simpa using hlt)] at hj; cases hj) hx'
      exact fin y (by rw [hval]; exact hy) hR rfl
  | _ => rw [hv] at he; cases he

theorem fieldAddr_sound (h : Rel0 fo w0 N ρ st a w) {o : Oper} {s : TypeId} {p : Operand} {f : Nat} (ho : o.op = .fieldAddr s p f) {x : AV} {ob' : Obs} (he : eop P Γ st o = some (x, ob')) (hd : ∀ d, o.dst = some d → d < N) (Q : Exit → Act → World → Prop) :
    o.wp P a w (fun a' w' => Rel fo w0 N (putSt st o.dst x ob') a' w') Q := by
  unfold eop at he
  simp only [ho] at he
  have hp := ev_rel h p
  cases hoff : fieldOff P s f with
  | none => rw [hoff] at he; cases he
  | some off =>
    rw [hoff] at he
    simp only at he
    have hrun : ∀ (b k : Nat), (Instr.fieldAt s (.pointer (some ⟨b, k, none⟩)) f).run P w = .ok (.pointer (some ⟨b, k + off, none⟩)) w := by
      intro b k
      unfold fieldOff at hoff
      cases hu : P.underlying s with
      | none => rw [hu] at hoff; cases hoff
      | some d =>
        cases d with
        | struct fs =>
          rw [hu] at hoff
          simp only at hoff
          cases hfd : fs[f]? with
          | none => rw [hfd] at hoff; cases hoff
          | some fd =>
            rw [hfd] at hoff
            simp only at hoff
            cases hs : sizeT P fd.type with
            | none => rw [hs] at hoff; cases hoff
            | some m =>
              cases m with
              | zero => rw [hs] at hoff; cases hoff
              | succ m =>
                rw [hs] at hoff
                simp only [Option.some.injEq] at hoff
                subst hoff
                unfold sizeT at hs
                cases hq : P.info? fd.type with
                | none => rw [hq] at hs; cases hs
                | some i =>
                  rw [hq] at hs
                  simp only [Option.map_some, Option.some.injEq] at hs
                  simp [Instr.fieldAt, run_underlying hu, hfd, Instr.sureAddr, fieldPlace, Go.sizeOf, typeInfo, hq, hs, Addr.add_mid]
        | _ => rw [hu] at hoff; cases hoff
    have fin : ∀ y, (Instr.fieldAt s (a.eval p) f).run P w = .ok y w → V st.ob ρ w (okB fo st.ob ρ) x y → ob' = st.ob → o.wp P a w (fun a' w' => Rel fo w0 N (putSt st o.dst x ob') a' w') Q := by
      intro y hy hv e
      subst e
      refine wp_value (v := y) (w' := w) ?_ ⟨ρ, h.putSt hd hv⟩
      unfold execOp
      simp only [ho, Sem.run_bind, hy, Result.andThen_ok, Sem.run_pure]
    generalize hval : a.eval p = val at hp fin
    cases hv : ev st p with
    | ptr n k =>
      rw [hv] at he hp
      simp only [Option.some.injEq, Prod.mk.injEq] at he
      obtain ⟨rfl, rfl⟩ := he
      cases hp with
      | pure h => cases h
      | ptr hn => exact fin _ (hrun _ _) (.ptr hn) rfl
    | rptr z k =>
      rw [hv] at he hp
      simp only [Option.some.injEq, Prod.mk.injEq] at he
      obtain ⟨rfl, rfl⟩ := he
      cases hp with
      | pure h => cases h
      | rptr cells hb hlt hh hc => exact fin _ (hrun _ _) (by rw [Nat.add_assoc]; exact .rptr cells hb hlt hh hc) rfl
    | _ => rw [hv] at he; cases he

end
end Cav
