import Derived.Test.YtkjodjaamjnejaaK12
import Derived.Laws.Strings
set_option linter.all false
/-! Two ends: what goes between them is what was written. An end's calls, from without. -/
set_option linter.unusedVariables false
namespace Caw
open Go
theorem SegIn.ok {s o : Str} {x : Seg} (h : SegIn s o x) (hm : 0 ≤ x.mss ∧ x.mss ≤ 65535) : SegOk x := ⟨⟨h.w0, by have := h.wnd; omega⟩, hm, by have := h.len; omega⟩
theorem SegIn.acks {s o : Str} {x : Seg} (h : SegIn o s x) (hf : hasF x.flags 16 = true) : AckIn s o x := by
  obtain ⟨a, m, b, c, d⟩ := h.ack hf
  exact ⟨a, ⟨h.w0, h.wnd⟩, m, b, c, d⟩
theorem dialling_in {s o : Str} {rd : List UInt8} {e : Ep} {x : Seg} (hp : e.conn.phase = 1) (hx : SegOk x) (h : EI s o rd e) (hs : SegIn o s x) : Goes s o rd (epDialling e x) := by
  obtain ⟨n, hn⟩ := h.ok
  unfold epDialling
  rw [if_neg (by rw [hs.rst]; simp)]
  by_cases ha : hasF x.flags 16 = true
  · have hmine : isMine e x = true := by
      unfold isMine
      rw [ha, acks_first (.inl hp) h (hs.acks ha)]; simp
    rw [hmine]
    simp only [Bool.not_true, Bool.and_false, Bool.and_true, Bool.false_eq_true, if_false]
    split
    · rename_i hsyn
      obtain ⟨y1, y2, y3⟩ := hs.syn hsyn
      obtain ⟨a, b1, b2, b3⟩ := h.en.snd
      have ha0 := b2 (.inl hp)
      subst ha0
      have hu := h.en.un hp
      obtain ⟨s2, l1, l2, l3, l4, l5, l6, l7, l8, l9, l10, l11⟩ := meet_in (.inl hp) hx h.ok h.so h.oo h.top h.en.first hu.2.2 b1 h.en.err h.out y1 hs.wnd
      have hw : (epMeet e x).conn.window ≤ 256 := by
        have := hs.wnd
        have := hs.w0
        show IntKind.i64.wrap x.wnd ≤ 256
        rw [wi_of (by omega) (by omega)]; omega
      obtain ⟨p1, p2⟩ := opened_in (e := epMeet e x) (x := x) (.inr ⟨hp, hw⟩) l7 (hs.ack ha).1 l5 l3 h.oo l4 l6 ⟨0, l8, rfl, l9⟩ l10 l11
      have p3 := ack_in p1 (p1.met (by omega))
      obtain ⟨s3, k1, k2, k3⟩ := push_in p3
      exact ⟨s3, l1.trans k1, k2.trans l2, k3⟩
    · exact h.goes
  · have ha2 : hasF x.flags 16 = false := by simpa using ha
    have hmine : isMine e x = false := by unfold isMine; rw [ha2]; rfl
    rw [ha2, hmine]
    simp only [Bool.false_and, Bool.and_false, Bool.false_eq_true, if_false]
    split
    · rename_i hsyn
      obtain ⟨y1, y2, y3⟩ := hs.syn hsyn
      obtain ⟨a, b1, b2, b3⟩ := h.en.snd
      have ha0 := b2 (.inl hp)
      subst ha0
      have hu := h.en.un hp
      have h2 : EpOk n { e with conn := { e.conn with phase := 2 } } := by
        obtain ⟨⟨hb, hf⟩, t0, t1, ho⟩ := hn
        refine ⟨⟨⟨hb.1, hb.2, hb.3, hb.4, hb.5, hb.6⟩, ?_⟩, t0, t1, ho⟩
        rcases hf with h | ⟨p, a, b, c, d, e⟩ | h | h
        · have := h.1; omega
        · exact .inr (.inl ⟨.inr rfl, a, b, c, d, e⟩)
        · have := h.1; omega
        · have := h.1; omega
      obtain ⟨s2, l1, l2, l3, l4, l5, l6, l7, l8, l9, l10, l11⟩ := meet_in (e := { e with conn := { e.conn with phase := 2 } }) (.inr rfl) hx ⟨n, h2⟩ h.so h.oo h.top h.en.first hu.2.2 b1 h.en.err h.out y1 hs.wnd
      have hph : (epMeet { e with conn := { e.conn with phase := 2 } } x).conn.phase = 2 := rfl
      refine ⟨s2, l1, l2, hello_in (.inr hph) ⟨l5, l3, h.oo, l4, ⟨l6, ⟨0, l8, fun _ => rfl, fun _ => l9⟩, fun hc => ?_, .inr l7, fun hc => ?_, l10⟩, l11⟩⟩
      · rw [hph] at hc; omega
      · rw [hph] at hc; omega
    · exact h.goes
theorem hear_in {s o : Str} {rd : List UInt8} {c : Conn} {x : Seg} {now : Int} (hx : SegOk x) (h : EI s o rd ⟨c, now, []⟩) (hs : SegIn o s x) : Goes s o rd (hear c x now) := by
  unfold hear
  split
  · exact h.goes
  · rename_i p0
    split
    · rename_i p1
      exact dialling_in p1 hx h hs
    · rename_i p1
      rw [if_neg (by rw [hs.rst]; simp)]
      split
      · exact (ack_in h (h.met ⟨p0, p1⟩)).goes
      · rename_i hsyn
        have hd := hs.dat (by simpa using hsyn)
        split
        · exact late_in ⟨p0, p1⟩ hx h hs.acks hd
        · split
          · rename_i ha
            exact takes_in ⟨p0, p1⟩ hx h (hs.acks ha) hd
          · exact h.goes
theorem EI.at {s o : Str} {rd : List UInt8} {c : Conn} {now : Int} (h : EI s o rd ⟨c, now, []⟩) : EI s o rd (epAt c now) := h
/-- Bytes are written: what is told of the end then. -/
theorem write_in {s o : Str} {rd : List UInt8} {c : Conn} {d : List Int} {now : Int} (h : EI s o rd ⟨c, now, []⟩) (hl : s.W.length ≤ 900000) :
    ∃ s2, s.Le s2 ∧ s2.W = s.W ++ (u8s d).take (epWrite c d now).2.1.toNat ∧ EI s2 o rd ⟨(epWrite c d now).1, now, (epWrite c d now).2.2.1⟩ := by
  have same : ∃ s2, s.Le s2 ∧ s2.W = s.W ++ (u8s d).take (0 : Int).toNat ∧ EI s2 o rd ⟨c, now, []⟩ := ⟨s, .refl s, by simp, h⟩
  unfold epWrite
  split
  · exact same
  · split
    · exact same
    · split
      · exact same
      · rename_i p1 p2 p3
        have hfin : c.send.fin = false := by
          cases hf : c.send.fin with
          | false => rfl
          | true => exact absurd (.inr (.inr hf)) p2
        obtain ⟨n, hn⟩ := h.ok
        have hcs : SendOk c.send := hn.c.send
        obtain ⟨a, b1, b2, b3⟩ := h.en.snd
        have b1 : SndIn s o c.send a := b1
        have hfs : c.send.finSent = false := by
          cases hf : c.send.finSent with
          | false => rfl
          | true => have := (hcs.fs hf).1; rw [hfin] at this; cases this
        have hS : s.S = false := b1.S.trans hfs
        obtain ⟨w1, w2, w3, w4⟩ := write_facts c.send d hcs.len
        have hN : (sendWrite c.send d).2 = minI d.length (sendRoom c.send) := rfl
        have hWl : ((u8s d).take (sendWrite c.send d).2.toNat).length ≤ 256 := by
          have hr : sendRoom c.send ≤ 256 := by
            have := hcs.len
            unfold sendRoom
            split
            · omega
            · rw [wi_of (by omega) (by omega)]; omega
          have hm : minI d.length (sendRoom c.send) ≤ 256 := by unfold minI; split <;> omega
          simp only [List.length_take, hN]; omega
        generalize hs2 : ({ s with W := s.W ++ (u8s d).take (sendWrite c.send d).2.toNat } : Str) = s2
        have g1 : s2.W = s.W ++ (u8s d).take (sendWrite c.send d).2.toNat := by rw [← hs2]
        have g2 : s2.F = s.F ∧ s2.H = s.H ∧ s2.S = s.S ∧ s2.E = s.E ∧ s2.R = s.R ∧ s2.M = s.M := by rw [← hs2]; exact ⟨rfl, rfl, rfl, rfl, rfl, rfl⟩
        obtain ⟨g2, g3, g4, g5, g6, g7⟩ := g2
        have hle : s.Le s2 := ⟨g2, ⟨_, g1⟩, by omega, fun hc => (by rw [hS] at hc; cases hc), by omega, by omega, fun hc => by rw [g7]; exact hc⟩
        have hh := h.so.h
        have so2 : StrOk s2 := ⟨by rw [g2]; exact h.so.u, by rw [g1, List.length_append]; omega, by rw [g1, List.length_append]; omega, fun hc => (by rw [g4, hS] at hc; cases hc), by rw [g5]; exact h.so.e⟩
        have hnum : ∀ k, num s2 k = num s k := fun k => by unfold num; rw [g2]
        have hb := b1.le
        have hsnd : SndIn s2 o (sendWrite c.send d).1 a := by
          refine ⟨by rw [g1, List.length_append]; omega, ?_, by rw [hnum]; exact b1.una, by rw [g3]; exact b1.H, by rw [g4]; exact b1.S, b1.out, by rw [g3]; exact b1.edge⟩
          rw [g1, List.drop_append_of_le_length hb]
          show u8s (c.send.data ++ d.take (sendWrite c.send d).2.toNat) = _
          rw [show u8s (c.send.data ++ d.take (sendWrite c.send d).2.toNat) = u8s c.send.data ++ u8s (d.take (sendWrite c.send d).2.toNat) from List.map_append, b1.dat]
          congr 1
          exact List.map_take
        have hen := h.en
        have h2 : EI s2 o rd { epAt c now with conn := { c with send := (sendWrite c.send d).1 } } := by
          refine ⟨⟨n, ⟨⟨write_ok d hcs hfin, hn.c.recv, hn.c.clk, hn.c.win, hn.c.mss, hn.c.tries⟩, hn.c.fine⟩, hn.t0, hn.t1, out_le (out_nil 0) (by omega)⟩, so2, h.oo, ?_, ⟨?_, ⟨a, hsnd, b2, b3⟩, ?_, ?_, hen.op, hen.err⟩, fun y hy => by simp [epAt] at hy⟩
          · have := h.top; unfold Str.top at this ⊢; rw [g3, g4]; exact this
          · rw [g2]; exact hen.first
          · intro hc; have := hen.un hc; unfold Unm at this ⊢; rw [g5, g6, g7]; exact this
          · rcases hen.rcv with hu | ⟨r, hr⟩
            · left; unfold Unm at hu ⊢; rw [g5, g6, g7]; exact hu
            · exact .inr ⟨r, hr.le, hr.str, hr.next, hr.ps, hr.kn, hr.dn, by rw [g5]; exact hr.E, by rw [g6]; exact hr.R, by rw [g7]; exact hr.M⟩
        obtain ⟨s3, k1, k2, k3⟩ := push_in h2
        refine ⟨s3, hle.trans k1, k2.trans g1, ?_⟩
        obtain ⟨⟨m, q1⟩, q2, q3, q4, q5, q6⟩ := k3
        exact ⟨⟨m, q1.c, hn.t0, hn.t1, q1.out⟩, q2, q3, q4, q5, q6⟩
/-- Bytes are read. -/
theorem read_in {s o : Str} {rd : List UInt8} {c : Conn} {n now : Int} (h : EI s o rd ⟨c, now, []⟩) :
    ∃ s2, s.Le s2 ∧ s2.W = s.W ∧ EI s2 o (rd ++ u8s (epRead c n now).2.1) ⟨(epRead c n now).1, now, (epRead c n now).2.2.1⟩ ∧
      ((epRead c n now).2.2.2 = 11 → o.S = true ∧ rd ++ u8s (epRead c n now).2.1 = o.W) := by
  have same : ∀ y : Int, (y = 11 → o.S = true ∧ rd ++ u8s [] = o.W) → ∃ s2, s.Le s2 ∧ s2.W = s.W ∧ EI s2 o (rd ++ u8s []) ⟨c, now, []⟩ ∧ (y = 11 → o.S = true ∧ rd ++ u8s [] = o.W) := by
    intro y hy
    exact ⟨s, .refl s, rfl, by simpa using h, hy⟩
  obtain ⟨m, hm⟩ := h.ok
  have hen := h.en
  unfold epRead
  split
  · exact same 1 (fun hc => absurd hc (by omega))
  · rename_i hn1
    split
    · rename_i hlen
      have hrl := recv_len hm.c.recv
      have hrn := readN_ok c.recv n
      have hmet : ∃ r, RcvIn s o c.recv rd r := by
        rcases hen.rcv with hu | hr
        · have := hu.1
          have h2 : c.recv = recvNew 0 := this
          rw [h2] at hlen; simp [recvNew] at hlen
        · exact hr
      obtain ⟨r, hr⟩ := hmet
      have hd : (recvRead c.recv n).1.data = c.recv.data.drop (readN c.recv n).toNat := rfl
      have hdl : (recvRead c.recv n).1.data.length = c.recv.data.length - (readN c.recv n).toNat := by rw [hd, List.length_drop]
      generalize hs2 : ({ s with E := s.E + (readN c.recv n) } : Str) = s2
      have g2 : s2.F = s.F ∧ s2.W = s.W ∧ s2.H = s.H ∧ s2.S = s.S ∧ s2.E = s.E + (readN c.recv n) ∧ s2.R = s.R ∧ s2.M = s.M := by rw [← hs2]; exact ⟨rfl, rfl, rfl, rfl, rfl, rfl, rfl⟩
      obtain ⟨g1, g2, g3, g4, g5, g6, g7⟩ := g2
      have hle : s.Le s2 := ⟨g1, ⟨[], by simp [g2]⟩, by omega, fun hc => ⟨by rw [g4]; exact hc, g2⟩, by omega, by omega, fun hc => by rw [g7]; exact hc⟩
      have so2 : StrOk s2 := ⟨by rw [g1]; exact h.so.u, by rw [g2]; exact h.so.len, by rw [g2, g3]; exact h.so.h, fun hc => (by rw [g2, g3]; exact h.so.f (by rw [← g4]; exact hc)), by rw [g5]; have := h.so.e; omega⟩
      have hnum : ∀ k, num s2 k = num s k := fun k => by unfold num; rw [g1]
      have hr2 : RcvIn s2 o (recvRead c.recv n).1 (rd ++ u8s (recvRead c.recv n).2) r := by
        refine ⟨hr.le, ?_, hr.next, hr.ps, hr.kn, hr.dn, ?_, by rw [g6]; exact hr.R, by rw [g7]; exact hr.M⟩
        · rw [hd, ← hr.str, List.append_assoc]
          congr 1
          show u8s (c.recv.data.take (readN c.recv n).toNat) ++ u8s (c.recv.data.drop (readN c.recv n).toNat) = _
          rw [← List.map_append, List.take_append_drop]
        · rw [hdl, g5, hr.E]
          show _ = (r : Int) + c.recv.done.toNat + 256 - _
          omega
      obtain ⟨a, b1, b2, b3⟩ := hen.snd
      have b1 : SndIn s o c.send a := b1
      have h2 : EI s2 o (rd ++ u8s (recvRead c.recv n).2) { epAt c now with conn := { c with recv := (recvRead c.recv n).1 } } := by
        refine ⟨⟨m, ⟨⟨hm.c.send, read_ok n hm.c.recv, hm.c.clk, hm.c.win, hm.c.mss, hm.c.tries⟩, hm.c.fine⟩, hm.t0, hm.t1, out_le (out_nil 0) (by omega)⟩, so2, h.oo, ?_, ⟨?_, ⟨a, ?_, b2, b3⟩, ?_, .inr ⟨r, hr2⟩, hen.op, hen.err⟩, fun y hy => by simp [epAt] at hy⟩
        · have := h.top; unfold Str.top at this ⊢; rw [g3, g4]; exact this
        · rw [g1]; exact hen.first
        · exact ⟨by rw [g2]; exact b1.le, by rw [g2]; exact b1.dat, by rw [hnum]; exact b1.una, by rw [g3]; exact b1.H, by rw [g4]; exact b1.S, b1.out, by rw [g3]; exact b1.edge⟩
        · intro hc
          have := (hen.un hc).2.2.2.2.2
          rw [hr.M] at this; cases this
      simp only
      refine ⟨s2, hle, g2, ?_, fun hc => by omega⟩
      split
      · rename_i hc
        obtain ⟨⟨m2, q1⟩, q2, q3, q4, q5, q6⟩ := ack_in h2 ⟨r, hr2⟩
        exact ⟨⟨m2, q1.c, hm.t0, hm.t1, q1.out⟩, q2, q3, q4, q5, q6⟩
      · obtain ⟨⟨m2, q1⟩, q2, q3, q4, q5, q6⟩ := h2
        exact ⟨⟨m2, q1.c, hm.t0, hm.t1, q1.out⟩, q2, q3, q4, q5, q6⟩
    · rename_i hlen
      have hnil : c.recv.data = [] := List.length_eq_zero_iff.1 (by omega)
      split
      · rename_i hdone
        refine same 11 fun _ => ?_
        rcases hen.rcv with hu | ⟨r, hr⟩
        · have h2 : c.recv = recvNew 0 := hu.1
          rw [h2] at hdone; simp [recvNew] at hdone
        · have hr : RcvIn s o c.recv rd r := hr
          obtain ⟨d1, d2⟩ := hr.dn hdone
          refine ⟨d1, ?_⟩
          have := hr.str
          rw [hnil, d2] at this
          simpa using this
      · split
        · exact same _ (fun hc => absurd hc hen.err)
        · split
          · exact same 3 (fun hc => absurd hc (by omega))
          · exact same 10 (fun hc => absurd hc (by omega))
theorem close_in {s o : Str} {rd : List UInt8} {c : Conn} {now : Int} (h : EI s o rd ⟨c, now, []⟩) : Goes s o rd (epClose c now) := by
  unfold epClose
  simp only
  split
  · exact (shut_in 0 (by omega) h.at).goes
  · split
    · rename_i hp
      obtain ⟨n, hn⟩ := h.ok
      obtain ⟨a, b1, b2, b3⟩ := h.en.snd
      have b1 : SndIn s o c.send a := b1
      have hw : EpOk n { epAt c now with conn := { (epAt c now).conn with send := sendClose c.send, ended := !c.recv.done } } := by
        refine ⟨⟨⟨close_ok hn.c.send, hn.c.recv, hn.c.clk, hn.c.win, hn.c.mss, hn.c.tries⟩, ?_⟩, hn.t0, hn.t1, out_le (out_nil 0) (by omega)⟩
        rcases hn.c.fine with h | h | h | h
        · have : c.phase = 0 := h.1; omega
        · exact .inr (.inl h)
        · exact .inr (.inr (.inl h))
        · have : c.phase = 4 := h.1; omega
      refine push_in ⟨⟨n, hw⟩, h.so, h.oo, h.top, ⟨h.en.first, ⟨a, ⟨b1.le, b1.dat, b1.una, b1.H, b1.S, b1.out, b1.edge⟩, b2, b3⟩, h.en.un, h.en.rcv, h.en.op, h.en.err⟩, fun y hy => by simp [epAt] at hy⟩
    · exact h.at.goes
theorem arm_in {s o : Str} {rd : List UInt8} {e : Ep} (hp : e.conn.phase ≠ 0 ∧ e.conn.phase ≠ 4) (h : EI s o rd e) : EI s o rd (epArm e) := by
  obtain ⟨n, hn⟩ := h.ok
  exact ⟨⟨n, arm_ok hp hn⟩, h.so, h.oo, h.top, h.en.same rfl rfl rfl rfl rfl rfl, h.out⟩
theorem tick_in {s o : Str} {rd : List UInt8} {c : Conn} {now : Int} (h : EI s o rd ⟨c, now, []⟩) : Goes s o rd (epTick c now) := by
  obtain ⟨n, hn⟩ := h.ok
  unfold epTick
  simp only
  split
  · exact (shut_in 0 (by omega) h.at).goes
  · split
    · exact h.at.goes
    · rename_i p1 p2
      split
      · exact (shut_in 13 (by omega) h.at).goes
      · rename_i p3
        have hph : c.phase ≠ 0 ∧ c.phase ≠ 4 := by
          rcases hn.c.fine with h | h | h | h
          · exact absurd (.inl h.2.1) p2
          · have := h.1; have : c.phase = 1 ∨ c.phase = 2 := this; omega
          · have := h.1; have : c.phase = 3 := this; omega
          · exact absurd (.inl h.2.2.2.2.1) p2
        have ht := hn.c.tries
        have ht : 0 ≤ c.tries ∧ c.tries ≤ 8 := ht
        have hw : EpOk n { epAt c now with conn := { (epAt c now).conn with tries := IntKind.i64.wrap (c.tries + 1), clock := rtoDouble c.clock, timing := false } } := by
          refine ⟨⟨⟨hn.c.send, hn.c.recv, double_ok hn.c.clk, hn.c.win, hn.c.mss, ?_⟩, ?_⟩, hn.t0, hn.t1, out_le (out_nil 0) (by omega)⟩
          · show 0 ≤ IntKind.i64.wrap (c.tries + 1) ∧ IntKind.i64.wrap (c.tries + 1) ≤ 8
            rw [wi_of (by omega) (by omega)]; omega
          · rcases hn.c.fine with h | h | h | h
            · exact absurd h.1 hph.1
            · exact .inr (.inl h)
            · exact .inr (.inr (.inl h))
            · exact absurd h.1 hph.2
        have h2 : EI s o rd { epAt c now with conn := { (epAt c now).conn with tries := IntKind.i64.wrap (c.tries + 1), clock := rtoDouble c.clock, timing := false } } :=
          ⟨⟨n, hw⟩, h.so, h.oo, h.top, h.en.same rfl rfl rfl rfl rfl rfl, fun y hy => by simp [epAt] at hy⟩
        have ha := arm_in (by exact hph) h2
        have hq : (epArm { epAt c now with conn := { (epAt c now).conn with tries := IntKind.i64.wrap (c.tries + 1), clock := rtoDouble c.clock, timing := false } }).conn.phase = c.phase := rfl
        generalize epArm { epAt c now with conn := { (epAt c now).conn with tries := IntKind.i64.wrap (c.tries + 1), clock := rtoDouble c.clock, timing := false } } = z at ha hq
        obtain ⟨m, hm⟩ := ha.ok
        unfold epAgain
        split
        · rename_i hp3
          have hz : z.conn.phase = 1 ∨ z.conn.phase = 2 := by
            rcases hm.c.fine with h | h | h | h
            · have := h.1; omega
            · exact h.1
            · exact absurd h.1 hp3
            · have := h.1; omega
          exact (hello_in hz ha).goes
        · rename_i hp3
          have hp3' : z.conn.phase = 3 := by
            by_cases h : z.conn.phase = 3
            · exact h
            · exact absurd h hp3
          split
          · rename_i hok
            obtain ⟨a, b1, b2, b3⟩ := ha.en.snd
            have hqs := hm.c.send
            have hmss := hm.c.mss
            have h0 := hqs.s0
            have h1 := hqs.s1
            have hH := b1.H
            have hS := b1.S
            have hsz := b1.size
            have hagN : 0 ≤ againN z.conn.send z.conn.mss ∧ againN z.conn.send z.conn.mss ≤ z.conn.send.sent ∧ againN z.conn.send z.conn.mss ≤ z.conn.mss := by
              unfold againN maxI minI; refine ⟨?_, ?_, ?_⟩ <;> (repeat' split) <;> omega
            have hcond : ¬ ((decide (againN z.conn.send z.conn.mss = 0) && !againF z.conn.send z.conn.mss) = true) := by
              intro hc
              unfold sendAgain at hok
              rw [if_pos hc] at hok; cases hok
            have hval : sendAgain z.conn.send z.conn.mss = (⟨z.conn.send.una, z.conn.send.data.take (againN z.conn.send z.conn.mss).toNat⟩, againF z.conn.send z.conn.mss, true) := by
              unfold sendAgain; rw [if_neg hcond]
            rw [hval]
            simp only
            have hF : againF z.conn.send z.conn.mss = true → z.conn.send.finSent = true ∧ z.conn.send.finAcked = false ∧ againN z.conn.send z.conn.mss = z.conn.send.data.length := by
              intro hf
              unfold againF at hf
              simp only [Bool.and_eq_true, Bool.not_eq_true', decide_eq_true_eq] at hf
              exact ⟨hf.1.1, hf.1.2, hf.2⟩
            have hOr : againN z.conn.send z.conn.mss ≠ 0 ∨ againF z.conn.send z.conn.mss = true := by
              by_cases hz : againN z.conn.send z.conn.mss = 0
              · right
                cases hf : againF z.conn.send z.conn.mss with
                | true => rfl
                | false => rw [hz, hf] at hcond; simp at hcond
              · exact .inl hz
            generalize againN z.conn.send z.conn.mss = N at *
            generalize againF z.conn.send z.conn.mss = B at *
            have hfa : z.conn.send.finAcked = false := by
              cases hfa : z.conn.send.finAcked with
              | false => rfl
              | true =>
                obtain ⟨f1, f2⟩ := hqs.fa hfa
                rcases hOr with hc | hc
                · omega
                · have := (hF hc).2.1; rw [hfa] at this; cases this
            obtain ⟨p1, p2, p3, p4⟩ := psh_flags ⟨z.conn.send.una, z.conn.send.data.take N.toNat⟩ B
            have hsh := ha.so.h
            refine (tell_in ha (ha.met (by omega)) p1 p2 (by simp only [List.length_take]; omega) ⟨a, ?_⟩).goes
            rw [p3]
            have hlen : (z.conn.send.data.take N.toNat).length = N.toNat := by rw [List.length_take]; omega
            refine ⟨?_, by unfold Str.top; omega, fun _ => ?_, part_of ?_ fun i hi => ?_, fun hc => ?_⟩
            · have := b1.una; rw [hfa] at this; simpa using this
            · simp only; rw [hlen]; omega
            · simp only; rw [hlen]; omega
            · simp only at hi
              rw [hlen] at hi
              simp only [List.map_take]
              rw [show List.map (fun n : Int => UInt8.ofNat n.toNat) z.conn.send.data = s.W.drop a from b1.dat, List.getElem?_take_of_lt hi, List.getElem?_drop]
            · obtain ⟨c1, c2, c3⟩ := hF hc
              exact ⟨hS.trans c1, by simp only; rw [hlen]; omega⟩
          · refine EI.goes ⟨⟨m, ?_⟩, ha.so, ha.oo, ha.top, ha.en.same rfl rfl rfl rfl rfl rfl, ha.out⟩
            obtain ⟨⟨hb, hf⟩, t0, t1, ho⟩ := hm
            exact ⟨⟨⟨hb.1, hb.2, hb.3, hb.4, hb.5, hb.6⟩, (phase3 (by exact hp3')).2 ((phase3 hp3').1 hf)⟩, t0, t1, ho⟩
/-! ### How an end begins -/
def str0 (F : Int) : Str := ⟨F, [], 0, false, 256, 0, false⟩
theorem str0_ok {F : Int} (h : U32 F) : StrOk (str0 F) := ⟨h, by simp [str0], by simp [str0], by simp [str0], by simp [str0]⟩
theorem begin_snd {F : Int} {o : Str} (ho : StrOk o) (phase now : Int) (self peer : Addr) : SndIn (str0 F) o (epBegin phase self peer F now).conn.send 0 := by
  refine ⟨by simp, by simp [epBegin, epArm, sendNew, str0], ?_, rfl, rfl, by simp [epBegin, epArm, sendNew], by have := ho.e; simp only [str0]; omega⟩
  exact (num_first (str0 F)).symm
theorem dial_in {F now : Int} {o : Str} {self peer : Addr} (hF : U32 F) (ho : StrOk o) (hR : o.R = 0) (h0 : 0 ≤ now) (h1 : now ≤ 1000000000000) : EI (str0 F) o [] (epDial self peer F now) := by
  refine hello_in (.inl rfl) ⟨⟨0, begin_ok (.inl rfl) h0 h1⟩, str0_ok hF, ho, by omega, ⟨rfl, ⟨0, begin_snd ho 1 now self peer, fun _ => rfl, fun hc => ?_⟩, fun _ => ⟨rfl, .inl rfl, rfl, rfl, rfl, rfl⟩, .inl ⟨rfl, .inl rfl, rfl, rfl, rfl, rfl⟩, fun hc => ?_, ?_⟩, fun y hy => by simp [epBegin, epArm] at hy⟩
  · simp [epBegin, epArm] at hc
  · simp [epBegin, epArm] at hc
  · simp [epBegin, epArm]
theorem answer_in {F now : Int} {o : Str} {self peer : Addr} {x : Seg} (hF : U32 F) (ho : StrOk o) (hR : o.R = 0) (h0 : 0 ≤ now) (h1 : now ≤ 1000000000000) (hx : SegOk x) (hs : x.seq = o.F) (hw : x.wnd ≤ 256) : Goes (str0 F) o [] (epAnswer self peer x F now) := by
  obtain ⟨s2, l1, l2, l3, l4, l5, l6, l7, l8, l9, l10, l11⟩ := meet_in (s := str0 F) (o := o) (rd := []) (e := epBegin 2 self peer F now) (.inr rfl) hx ⟨0, begin_ok (.inr rfl) h0 h1⟩ (str0_ok hF) ho (by omega) rfl ⟨rfl, rfl, rfl, rfl⟩ (begin_snd ho 2 now self peer) (by simp [epBegin, epArm]) (fun y hy => by simp [epBegin, epArm] at hy) hs hw
  have hph : (epMeet (epBegin 2 self peer F now) x).conn.phase = 2 := rfl
  refine ⟨s2, l1, l2, hello_in (.inr hph) ⟨l5, l3, ho, l4, ⟨l6, ⟨0, l8, fun _ => rfl, fun _ => l9⟩, fun hc => ?_, .inr l7, fun hc => ?_, l10⟩, l11⟩⟩
  · rw [hph] at hc; omega
  · rw [hph] at hc; omega
end Caw

/-! Two ends: what goes between them is what was written. The talk. -/
set_option linter.unusedVariables false
namespace Caw
open Go
abbrev bl (b : ByteArray) : List UInt8 := b.data.toList
theorem bl_append (a b : ByteArray) : bl (a ++ b) = bl a ++ bl b := by
  show (a ++ b).data.toList = _
  rw [ByteArray.data_append, Array.toList_append]
theorem bl_bytes (l : List Int) : bl (bytesS l) = u8s l := by
  show ((u8s l).toArray).toList = _
  rw [List.toList_toArray]
theorem bl_size (b : ByteArray) : (bl b).length = b.size := by
  show b.data.toList.length = b.data.size
  rw [Array.length_toList]
theorem bl_extract (w : ByteArray) (a b : Nat) : (w.extract a b).toList = ((bl w).take b).drop a := by
  rw [ByteArray.toList_eq, ByteArray.data_extract]
  simp [Array.toList_extract, List.drop_take]
theorem bl_inj {a b : ByteArray} (h : bl a = bl b) : a = b := by
  cases a; cases b; simp [bl] at h; rw [h]
/-! ### The end that was asked for stays -/
theorem next_fin (q : Send) (w m : Int) : (sendNext q w m).1.fin = q.fin := (sendNext_data q w m).2.1
theorem loop_fin : ∀ (k : Nat) (e : Ep), (pushLoop k e).conn.send.fin = e.conn.send.fin
  | 0, e => rfl
  | k + 1, e => by
    simp only [pushLoop]
    split
    · rw [loop_fin k, pushStep_send]; exact next_fin _ _ _
    · rfl
theorem push_fin (e : Ep) : (epPush e).conn.send.fin = e.conn.send.fin := loop_fin _ _
theorem ack_fin (q : Send) (a : Int) : (sendAck q a).1.fin = q.fin := by
  unfold sendAck; (repeat' split) <;> rfl
theorem takes_fin (e : Ep) (x : Seg) : (takes e x).conn.send.fin = e.conn.send.fin := by
  unfold takes
  split
  · rfl
  · have h0 : (tk0 e x).conn.send = e.conn.send := (tk0_keeps e x).1
    unfold takesB
    split
    · have h9 : (takesC (tk9 (tk0 e x) x) x).conn.send.fin = (tk9 (tk0 e x) x).conn.send.fin := by
        unfold takesC
        split
        · exact push_fin _
        · exact push_fin _
      rw [h9, (tk9_keeps _ _).1]
      unfold tkR
      rw [ack_fin, h0]
    · show (tk0 e x).conn.send.fin = _
      rw [h0]
theorem lateB_fin (e : Ep) (x : Seg) : (lateB e x).conn.send.fin = e.conn.send.fin := by
  unfold lateB; split
  · exact takes_fin _ _
  · rfl
theorem late_fin (e : Ep) (x : Seg) : (late e x).conn.send.fin = e.conn.send.fin := by
  unfold late; split
  · exact lateB_fin _ _
  · exact lateB_fin _ _
theorem dialling_fin (e : Ep) (x : Seg) : (epDialling e x).conn.send.fin = e.conn.send.fin := by
  unfold epDialling
  split
  · split <;> rfl
  · split
    · rfl
    · split
      · rw [push_fin]
        show (epOpened (epMeet e x) x).conn.send.fin = _
        rw [(epOpened_keeps _ _).1]; rfl
      · split <;> rfl
theorem hear_fin (c : Conn) (x : Seg) (now : Int) : (hear c x now).conn.send.fin = c.send.fin := by
  unfold hear
  split
  · rfl
  · split
    · exact dialling_fin _ _
    · split
      · split
        · unfold epBroken; simp only; split <;> rfl
        · rfl
      · split
        · rfl
        · split
          · exact late_fin _ _
          · split
            · exact takes_fin _ _
            · rfl
theorem write_fin (c : Conn) (d : List Int) (now : Int) : (epWrite c d now).1.send.fin = c.send.fin := by
  unfold epWrite
  (repeat' split) <;> first | rfl | (exact push_fin _)
theorem read_fin (c : Conn) (n now : Int) : (epRead c n now).1.send.fin = c.send.fin := by
  unfold epRead
  split
  · rfl
  · split
    · simp only; split <;> rfl
    · (repeat' split) <;> rfl
theorem again_fin (e : Ep) : (epAgain e).conn.send.fin = e.conn.send.fin := by
  unfold epAgain
  split
  · rfl
  · split <;> rfl
theorem tick_fin (c : Conn) (now : Int) : (epTick c now).conn.send.fin = c.send.fin := by
  unfold epTick
  simp only
  split
  · rfl
  · split
    · rfl
    · split
      · rfl
      · rw [again_fin]; rfl
/-! ### What the document's numbers say -/
theorem refDiff_eq {a b : Int} (ha : U32 a) (hb : U32 b) : refDiff a b = seqDiff a b := by
  unfold U32 at ha hb
  unfold refDiff
  rw [wi_of (n := a) (by omega) (by omega), wi_of (n := b) (by omega) (by omega), wi_of (n := a - b) (by omega) (by omega), refMod_emod _ (by omega) (by omega), seqDiff_eq]
  split
  · rw [wi_of (by omega) (by omega)]; omega
  · omega
theorem sentAt_num {s : Str} (hs : StrOk s) {k : Nat} (hk : k ≤ 2000000) : sentAt s.F (num s k) = k := by
  have h1 : IntKind.u32.wrap (s.F + 1) = num s 0 := by rw [IntKind.wrap_u32]; unfold num; simp
  unfold sentAt
  rw [h1, refDiff_eq (num_u s k) (num_u s 0), num_diff s hk (by omega)]; simp
theorem sentAt_first {s : Str} (hs : StrOk s) : sentAt s.F s.F = -1 := by
  have h1 : IntKind.u32.wrap (s.F + 1) = num s 0 := by rw [IntKind.wrap_u32]; unfold num; simp
  have hu := hs.u
  unfold sentAt
  rw [h1, refDiff_eq hu (num_u s 0), seqDiff_eq]
  unfold num U32 at *
  omega
/-- A segment is as it may be. -/
theorem seg_fine {s o : Str} {w w2 : ByteArray} {closed : Bool} {x : Seg} (hs : StrOk s) (ho : StrOk o) (hW : s.W = bl w) (hW2 : o.W = bl w2) (hR : s.R ≤ o.top) (hc : s.S = true → closed = true) (h : SegIn s o x) :
    (badB w w2 closed (sentAt s.F x.seq) (sentAt o.F x.ack) x || badA w (sentAt s.F x.seq) x false) = false := by
  have hl := hs.len
  have hl2 := ho.len
  have ht := top_le hs
  have ht2 := top_le ho
  have hh := hs.h
  have hw : (w.size : Int) = s.W.length := by rw [hW, bl_size]
  have hw2 : (w2.size : Int) = o.W.length := by rw [hW2, bl_size]
  have hlen := h.len
  have hB : badB w w2 closed (sentAt s.F x.seq) (sentAt o.F x.ack) x = false := by
    unfold badB
    have h1 : (hasF x.flags 1 && (!closed || (IntKind.i64.wrap (sentAt s.F x.seq + x.data.length) != (w.size : Int)))) = false := by
      cases hf : hasF x.flags 1 with
      | false => rfl
      | true =>
        have hsyn : hasF x.flags 2 = false := by
          cases hsy : hasF x.flags 2 with
          | false => rfl
          | true => have := (h.syn hsy).2.2; rw [hf] at this; cases this
        obtain ⟨k, hk⟩ := h.dat hsyn
        obtain ⟨f1, f2⟩ := hk.fin hf
        have ht3 := hk.top
        rw [hc f1, hk.seq, sentAt_num hs (by omega), wi_of (by omega) (by omega), hw]
        simp; omega
    have h2 : (hasF x.flags 16 && (decide (sentAt o.F x.ack < 0) || decide (IntKind.i64.wrap ((w2.size : Int) + 1) < sentAt o.F x.ack))) = false := by
      cases hf : hasF x.flags 16 with
      | false => rfl
      | true =>
        obtain ⟨-, m, m1, m2, m3⟩ := h.ack hf
        rw [m1, sentAt_num ho (by omega), wi_of (by omega) (by omega), hw2]
        simp; omega
    rw [h1, h2]; rfl
  have hA : badA w (sentAt s.F x.seq) x false = false := by
    unfold badA
    rw [if_neg (by rw [h.rst]; have := h.wnd; simp; omega)]
    cases hsy : hasF x.flags 2 with
    | true =>
      obtain ⟨y1, y2, y3⟩ := h.syn hsy
      rw [if_pos rfl, y1, sentAt_first hs, y2]; simp
    | false =>
      rw [if_neg (by simp)]
      obtain ⟨k, hk⟩ := h.dat hsy
      have ht3 := hk.top
      rw [hk.seq, sentAt_num hs (by omega), wi_of (n := (w.size : Int) + 1) (by omega) (by omega), wi_of (n := (k : Int) + x.data.length) (by omega) (by omega)]
      rw [if_neg]
      intro hbad
      rcases hbad with hb | hb | ⟨hb, hb2⟩
      · omega
      · by_cases hd : x.data = []
        · rw [hd] at hb; simp at hb; omega
        · have := hk.dat hd; omega
      · have hd : x.data ≠ [] := by rintro hd; rw [hd] at hb; simp at hb
        have hle := hk.dat hd
        rcases hb2 with hb2 | hb2
        · omega
        · apply hb2
          rw [bl_extract, ← hW]
          have e1 : (k : Int).toNat = k := rfl
          have e2 : ((k : Int) + x.data.length).toNat = k + x.data.length := by omega
          rw [e1, e2, List.drop_take]
          have := hk.eq
          rw [show k + x.data.length - k = x.data.length by omega]
          exact this
  rw [hB, hA]; rfl
theorem EndIn.R {s o : Str} {c : Conn} {rd : List UInt8} (h : EndIn s o c rd) : s.R ≤ o.top := by
  rcases h.rcv with hu | ⟨r, hr⟩
  · have := hu.2.2.2.2.1; omega
  · have h1 := hr.le
    have h2 := hr.R
    unfold Str.top
    cases hd : c.recv.done with
    | false => rw [hd] at h2; simp at h2; omega
    | true => rw [(hr.dn hd).1]; rw [hd] at h2; simp at h2 ⊢; omega
/-- What was read is the beginning of what was written. -/
theorem EndIn.pre {s o : Str} (ho : StrOk o) {c : Conn} {rd : List UInt8} (h : EndIn s o c rd) : ∃ d, o.W = rd ++ d := by
  rcases h.rcv with hu | ⟨r, hr⟩
  · exact ⟨o.W, by rw [hu.2.2.1]; rfl⟩
  · refine ⟨u8s c.recv.data ++ o.W.drop r, ?_⟩
    rw [← List.append_assoc, hr.str, List.take_append_drop]
theorem EndIn.S {s o : Str} {c : Conn} {rd : List UInt8} (h : EndIn s o c rd) (hq : ConnOk c) (hc : s.S = true) : c.send.fin = true := by
  obtain ⟨a, b1, -⟩ := h.snd
  rw [b1.S] at hc
  exact (hq.send.fs hc).1
/-- Two ends, and what is told of them. -/
structure TalkIn (t : Talk) (s0 s1 : Str) : Prop where
  w : t.wrong = false
  f0 : s0.F = t.first0
  f1 : s1.F = t.first1
  W0 : s0.W = bl t.written0
  W1 : s1.W = bl t.written1
  so0 : StrOk s0
  so1 : StrOk s1
  e0 : EndIn s0 s1 t.c0 (bl t.read0)
  e1 : t.is1 = true → EndIn s1 s0 t.c1 (bl t.read1)
  z1 : t.is1 = false → s1 = str0 t.first1 ∧ t.read1 = ⟨#[]⟩ ∧ t.told1 = false
  g1 : ∀ x ∈ t.way1, SegIn s0 s1 x
  g0 : ∀ x ∈ t.way0, SegIn s1 s0 x
  c0 : t.c0.send.fin = true → t.closed0 = true
  c1 : t.c1.send.fin = true → t.closed1 = true
  t0 : t.told0 = true → s1.S = true ∧ bl t.read0 = s1.W
  t1 : t.told1 = true → s0.S = true ∧ bl t.read1 = s0.W
theorem TalkIn.r0 {t : Talk} {s0 s1 : Str} (h : TalkIn t s0 s1) : s0.R ≤ s1.top := h.e0.R
theorem TalkIn.r1 {t : Talk} {s0 s1 : Str} (h : TalkIn t s0 s1) : s1.R ≤ s0.top := by
  cases hi : t.is1 with
  | true => exact (h.e1 hi).R
  | false => rw [(h.z1 hi).1]; exact Nat.zero_le _
theorem fold0 {s o : Str} {closed : Bool} (hs : StrOk s) (ho : StrOk o) (hR : s.R ≤ o.top) : ∀ (l : List Seg) (t : Talk), t.wrong = false → s.F = t.first0 → o.F = t.first1 → s.W = bl t.written0 → o.W = bl t.written1 → (s.S = true → t.closed0 = true) → (∀ x ∈ l, SegIn s o x) → (l.foldl (sendOne 0) t).wrong = false
  | [], t, hw, _, _, _, _, _, _ => hw
  | x :: r, t, hw, f0, f1, W0, W1, hc, hl => by
    have h1 : (sendOne 0 t x).wrong = false := by
      have := seg_fine hs ho W0 W1 hR hc (hl x (by simp))
      unfold sendOne
      rw [if_pos rfl, hw, ← f0, ← f1]
      exact this
    rw [List.foldl_cons]
    have h2 := sendOne_same 0 t x
    exact fold0 (closed := closed) hs ho hR r (sendOne 0 t x) h1 (by rw [h2]; exact f0) (by rw [h2]; exact f1) (by rw [h2]; exact W0) (by rw [h2]; exact W1) (by rw [h2]; exact hc) (fun y hy => hl y (by simp [hy]))
theorem fold1 {s o : Str} {closed : Bool} (hs : StrOk s) (ho : StrOk o) (hR : s.R ≤ o.top) : ∀ (l : List Seg) (t : Talk), t.wrong = false → s.F = t.first1 → o.F = t.first0 → s.W = bl t.written1 → o.W = bl t.written0 → (s.S = true → t.closed1 = true) → (∀ x ∈ l, SegIn s o x) → (l.foldl (sendOne 1) t).wrong = false
  | [], t, hw, _, _, _, _, _, _ => hw
  | x :: r, t, hw, f0, f1, W0, W1, hc, hl => by
    have h1 : (sendOne 1 t x).wrong = false := by
      have := seg_fine hs ho W0 W1 hR hc (hl x (by simp))
      unfold sendOne
      rw [if_neg (by omega), hw, ← f0, ← f1]
      exact this
    rw [List.foldl_cons]
    have h2 := sendOne_same 1 t x
    exact fold1 (closed := closed) hs ho hR r (sendOne 1 t x) h1 (by rw [h2]; exact f0) (by rw [h2]; exact f1) (by rw [h2]; exact W0) (by rw [h2]; exact W1) (by rw [h2]; exact hc) (fun y hy => hl y (by simp [hy]))
theorem sends0_in {t : Talk} {s0 s1 : Str} (h : TalkIn t s0 s1) (hc : ConnOk t.c0) {l : List Seg} (hl : ∀ x ∈ l, SegIn s0 s1 x) (hn : l.length ≤ 300) : TalkIn (sends 0 t l) s0 s1 := by
  have hS : s0.S = true → t.closed0 = true := fun hs => h.c0 (h.e0.S hc hs)
  have hw : (sends 0 t l).wrong = false := by
    have h1 := fold0 (closed := true) h.so0 h.so1 h.r0 l t h.w h.f0 h.f1 h.W0 h.W1 hS hl
    unfold sends sendEnd
    rw [if_pos rfl]
    simp only
    rw [h1, sendOne_keeps 0 l t]
    simp only
    rw [connRight_of hc]; simp; omega
  rw [sends0_eq]
  refine ⟨hw, h.f0, h.f1, h.W0, h.W1, h.so0, h.so1, h.e0, h.e1, h.z1, fun x hx => ?_, h.g0, h.c0, h.c1, h.t0, h.t1⟩
  rcases List.mem_append.1 hx with hx | hx
  · exact h.g1 x hx
  · exact hl x hx
theorem sends1_in {t : Talk} {s0 s1 : Str} (h : TalkIn t s0 s1) (hi : t.is1 = true) (hc : ConnOk t.c1) {l : List Seg} (hl : ∀ x ∈ l, SegIn s1 s0 x) (hn : l.length ≤ 300) : TalkIn (sends 1 t l) s0 s1 := by
  have hS : s1.S = true → t.closed1 = true := fun hs => h.c1 ((h.e1 hi).S hc hs)
  have hw : (sends 1 t l).wrong = false := by
    have h1 := fold1 (closed := true) h.so1 h.so0 h.r1 l t h.w h.f1 h.f0 h.W1 h.W0 hS hl
    unfold sends sendEnd
    rw [if_neg (by omega)]
    simp only
    rw [h1, sendOne_keeps 1 l t]
    simp only
    rw [connRight_of hc]; simp; omega
  rw [sends1_eq]
  refine ⟨hw, h.f0, h.f1, h.W0, h.W1, h.so0, h.so1, h.e0, h.e1, h.z1, h.g1, fun x hx => ?_, h.c0, h.c1, h.t0, h.t1⟩
  rcases List.mem_append.1 hx with hx | hx
  · exact h.g0 x hx
  · exact hl x hx
/-- Side 0 goes on. -/
theorem put0_in {t : Talk} {s0 s1 s2 : Str} (h : TalkIn t s0 s1) (hl : s0.Le s2) (hs2 : StrOk s2) {c : Conn} {w r : ByteArray} {cl td : Bool} (he : EndIn s2 s1 c (bl r)) (hW : s2.W = bl w) (hcl : c.send.fin = true → cl = true) (htd : td = true → s1.S = true ∧ bl r = s1.W) :
    TalkIn { t with c0 := c, written0 := w, read0 := r, closed0 := cl, told0 := td } s2 s1 := by
  refine ⟨h.w, hl.F.trans h.f0, h.f1, hW, h.W1, hs2, h.so1, he, fun hi => (h.e1 hi).le2 h.so0 hl, h.z1, fun x hx => (h.g1 x hx).le h.so0 hs2 hl rfl, fun x hx => (h.g0 x hx).le h.so1 h.so1 (.refl s1) hl.F, hcl, h.c1, htd, fun ht => ?_⟩
  obtain ⟨a, b⟩ := h.t1 ht
  obtain ⟨c, d⟩ := hl.S a
  exact ⟨c, by rw [d]; exact b⟩
/-- Side 1 goes on. -/
theorem put1_in {t : Talk} {s0 s1 s2 : Str} (h : TalkIn t s0 s1) (hl : s1.Le s2) (hs2 : StrOk s2) {c : Conn} {w r : ByteArray} {cl td : Bool} (he : EndIn s2 s0 c (bl r)) (hW : s2.W = bl w) (hcl : c.send.fin = true → cl = true) (htd : td = true → s0.S = true ∧ bl r = s0.W) :
    TalkIn { t with c1 := c, is1 := true, written1 := w, read1 := r, closed1 := cl, told1 := td } s0 s2 := by
  refine ⟨h.w, h.f0, hl.F.trans h.f1, h.W0, hW, h.so0, hs2, h.e0.le2 h.so1 hl, fun _ => he, fun hi => (by cases hi), fun x hx => (h.g1 x hx).le h.so0 h.so0 (.refl s0) hl.F, fun x hx => (h.g0 x hx).le h.so1 hs2 hl rfl, h.c0, hcl, fun ht => ?_, htd⟩
  obtain ⟨a, b⟩ := h.t0 ht
  obtain ⟨c, d⟩ := hl.S a
  exact ⟨c, by rw [d]; exact b⟩
end Caw

/-! Two ends: what goes between them is what was written. What is done with them. -/
set_option linter.unusedVariables false
namespace Caw
open Go
theorem u8s_take (l : List Int) (n : Nat) : u8s (l.take n) = (u8s l).take n := List.map_take
theorem TalkIn.len {t : Talk} {s0 s1 : Str} (h : TalkIn t s0 s1) : s0.W.length = t.written0.size ∧ s1.W.length = t.written1.size := by
  rw [h.W0, h.W1, bl_size, bl_size]; exact ⟨rfl, rfl⟩
theorem TalkIn.ei0 {k : Nat} {t : Talk} {s0 s1 : Str} (hk : k ≤ 1000) (hok : TalkOk k t) (h : TalkIn t s0 s1) : EI s0 s1 (bl t.read0) ⟨t.c0, t.now, []⟩ :=
  ⟨⟨0, hok.c0, hok.t0, now_le hk hok, out_nil 0⟩, h.so0, h.so1, h.r1, h.e0, fun x hx => by simp at hx⟩
theorem TalkIn.ei1 {k : Nat} {t : Talk} {s0 s1 : Str} (hk : k ≤ 1000) (hok : TalkOk k t) (hi : t.is1 = true) (h : TalkIn t s0 s1) : EI s1 s0 (bl t.read1) ⟨t.c1, t.now, []⟩ :=
  ⟨⟨0, hok.c1 hi, hok.t0, now_le hk hok, out_nil 0⟩, h.so1, h.so0, h.r0, h.e1 hi, fun x hx => by simp at hx⟩
/-- Side 0 went on, and sends. -/
theorem went0 {t : Talk} {s0 s1 : Str} (h : TalkIn t s0 s1) {e : Ep} (hf : e.conn.send.fin = t.c0.send.fin) (hn : e.out.length ≤ 300) (hg : Goes s0 s1 (bl t.read0) e) : ∃ a b, TalkIn (sends 0 { t with c0 := e.conn } e.out) a b := by
  obtain ⟨s2, l1, l2, ⟨n, ok⟩, q2, q3, q4, q5, q6⟩ := hg
  have hp := put0_in h l1 q2 (w := t.written0) (r := t.read0) (cl := t.closed0) (td := t.told0) q5 (l2.trans h.W0) (fun hc => h.c0 (by rw [← hf]; exact hc)) h.t0
  exact ⟨s2, s1, sends0_in hp ok.c q6 hn⟩
theorem went1 {t : Talk} {s0 s1 : Str} (h : TalkIn t s0 s1) (hi : t.is1 = true) {e : Ep} (hf : e.conn.send.fin = t.c1.send.fin) (hn : e.out.length ≤ 300) (hg : Goes s1 s0 (bl t.read1) e) : ∃ a b, TalkIn (sends 1 { t with c1 := e.conn } e.out) a b := by
  obtain ⟨s2, l1, l2, ⟨n, ok⟩, q2, q3, q4, q5, q6⟩ := hg
  have hp := put1_in h l1 q2 (w := t.written1) (r := t.read1) (cl := t.closed1) (td := t.told1) q5 (l2.trans h.W1) (fun hc => h.c1 (by rw [← hf]; exact hc)) h.t1
  have hp : TalkIn { t with c1 := e.conn } s0 s2 := by
    have e1 : ({ t with c1 := e.conn, is1 := true } : Talk) = { t with c1 := e.conn } := by rw [← hi]
    rw [← e1]; exact hp
  exact ⟨s0, s2, sends1_in hp hi ok.c q6 hn⟩
theorem comes_in {k : Nat} {t : Talk} {x : Seg} {side : Int} (hk : k ≤ 1000) (hok : TalkOk k t) (hs : SegOk x) (h : ∃ s0 s1, TalkIn t s0 s1 ∧ (side = 0 ∧ SegIn s1 s0 x ∨ side = 1 ∧ SegIn s0 s1 x)) (u1 : U32 t.first1) : ∃ a b, TalkIn (comes t side x) a b := by
  have hn := now_le hk hok
  obtain ⟨s0, s1, h, hx⟩ := h
  rcases hx with ⟨rfl, hx⟩ | ⟨rfl, hx⟩
  · unfold comes
    rw [if_neg (by simp), if_pos rfl]
    have hh := hear_ok hs hok.t0 hn hok.c0
    exact went0 h (hear_fin _ _ _) (by have := hh.out.1; omega) (hear_in hs (h.ei0 hk hok) hx)
  · cases hi : t.is1 with
    | true =>
      unfold comes
      rw [if_neg (by simp [hi]), if_neg (by omega)]
      have hh := hear_ok hs hok.t0 hn (hok.c1 hi)
      exact went1 h hi (hear_fin _ _ _) (by have := hh.out.1; omega) (hear_in hs (h.ei1 hk hok hi) hx)
    | false =>
      unfold comes
      rw [if_pos ⟨rfl, hi⟩]
      by_cases hf : x.flags = 2
      · rw [if_pos hf]
        obtain ⟨z1, z2, z3⟩ := h.z1 hi
        have hsyn : hasF x.flags 2 = true := by rw [hf]; decide
        obtain ⟨y1, y2, y3⟩ := hx.syn hsyn
        have hR : s0.R = 0 := by
          have := h.r0
          rw [z1] at this; simpa [str0, Str.top] using this
        have ha := answer_in (self := addrY) (peer := addrX) u1 h.so0 hR hok.t0 hn hs y1 hx.wnd
        have hh := answer_okc (first := t.first1) (now := t.now) (self := addrY) (peer := addrX) hs hok.t0 hn
        rw [← z1] at ha
        obtain ⟨s2, l1, l2, ⟨n, ok⟩, q2, q3, q4, q5, q6⟩ := ha
        have hp := put1_in h l1 q2 (w := t.written1) (r := t.read1) (cl := t.closed1) (td := t.told1) (by rw [z2]; exact q5) (l2.trans h.W1) (fun hc => by cases hc) h.t1
        have hp : TalkIn { t with c1 := (epAnswer addrY addrX x t.first1 t.now).conn, is1 := true } s0 s2 := hp
        exact ⟨s0, s2, sends1_in hp rfl ok.c q6 (by have := hh.out.1; omega)⟩
      · rw [if_neg hf]
        exact ⟨s0, s1, h⟩
theorem writes_in {k : Nat} {t : Talk} {d : List Int} {side : Int} (hk : k ≤ 900) (hok : TalkOk k t) (hside : side = 0 ∨ side = 1) (h : ∃ s0 s1, TalkIn t s0 s1) : ∃ a b, TalkIn (writes t side d) a b := by
  have hn := now_le (by omega) hok
  obtain ⟨s0, s1, h⟩ := h
  obtain ⟨L0, L1⟩ := h.len
  have hsz := hok.sz
  rcases hside with rfl | rfl
  · unfold writes
    rw [if_pos rfl, if_neg (by simp [hok.i0])]
    obtain ⟨p, q⟩ := write_okc (d := d) hok.t0 hn hok.c0
    obtain ⟨s2, l1, l2, ⟨n, ok⟩, q2, q3, q4, q5, q6⟩ := write_in (d := d) (h.ei0 (by omega) hok) (by omega)
    have hp := put0_in h l1 q2 (w := t.written0 ++ bytesS (d.take (epWrite t.c0 d t.now).2.1.toNat)) (r := t.read0) (cl := t.closed0) (td := t.told0) q5 (by rw [bl_append, bl_bytes, l2, h.W0, u8s_take]) (fun hc => h.c0 (by rw [← write_fin t.c0 d t.now]; exact hc)) h.t0
    exact ⟨s2, s1, sends0_in (t := write0 t d) hp ok.c q6 (by have := q.1; omega)⟩
  · unfold writes
    rw [if_neg (by omega)]
    cases hi : t.is1 with
    | false => exact ⟨s0, s1, by simpa using h⟩
    | true =>
      rw [if_neg (by simp)]
      obtain ⟨p, q⟩ := write_okc (d := d) hok.t0 hn (hok.c1 hi)
      obtain ⟨s2, l1, l2, ⟨n, ok⟩, q2, q3, q4, q5, q6⟩ := write_in (d := d) (h.ei1 (by omega) hok hi) (by omega)
      have hp := put1_in h l1 q2 (w := t.written1 ++ bytesS (d.take (epWrite t.c1 d t.now).2.1.toNat)) (r := t.read1) (cl := t.closed1) (td := t.told1) q5 (by rw [bl_append, bl_bytes, l2, h.W1, u8s_take]) (fun hc => h.c1 (by rw [← write_fin t.c1 d t.now]; exact hc)) h.t1
      have hp : TalkIn (write1 t d) s0 s2 := by
        have e1 : ({ t with c1 := (epWrite t.c1 d t.now).1, is1 := true, written1 := t.written1 ++ bytesS (d.take (epWrite t.c1 d t.now).2.1.toNat) } : Talk) = write1 t d := by unfold write1; rw [← hi]
        rw [← e1]; exact hp
      exact ⟨s0, s2, sends1_in hp hi ok.c q6 (by have := q.1; omega)⟩
theorem tick0_in {k : Nat} {t : Talk} (hk : k ≤ 1000) (hok : TalkOk k t) (h : ∃ s0 s1, TalkIn t s0 s1) : ∃ a b, TalkIn (tick0 t) a b := by
  have hn := now_le hk hok
  obtain ⟨s0, s1, h⟩ := h
  have hh := tick_okc hok.t0 hn hok.c0
  unfold tick0
  rw [if_pos hok.i0]
  exact went0 h (tick_fin _ _) (by have := hh.out.1; omega) (tick_in (h.ei0 hk hok))
theorem tick1_in {k : Nat} {t : Talk} (hk : k ≤ 1000) (hok : TalkOk k t) (h : ∃ s0 s1, TalkIn t s0 s1) : ∃ a b, TalkIn (tick1 t) a b := by
  have hn := now_le hk hok
  obtain ⟨s0, s1, h⟩ := h
  unfold tick1
  by_cases hi : t.is1 = true
  case neg => rw [if_neg hi]; exact ⟨s0, s1, h⟩
  case pos =>
    rw [if_pos hi]
    have hh := tick_okc hok.t0 hn (hok.c1 hi)
    exact went1 h hi (tick_fin _ _) (by have := hh.out.1; omega) (tick_in (h.ei1 hk hok hi))
theorem ticks_in {k : Nat} {t : Talk} {n : Int} (hk : k ≤ 900) (hok : TalkOk k t) (h0 : 0 ≤ n) (h1 : n ≤ 1000) (h : ∃ s0 s1, TalkIn t s0 s1) : ∃ a b, TalkIn (ticks t n) a b := by
  have hn := now_le (by omega) hok
  have ht := hok.t0
  have ht1 := hok.t1
  have hw : IntKind.u64.wrap (t.now + n) = t.now + n := by rw [IntKind.wrap_u64]; omega
  have hl : TalkOk (k + 1) (later t n) := ⟨hok.i0, hok.c0, hok.c1, hok.z1, by show 0 ≤ IntKind.u64.wrap (t.now + n); rw [hw]; omega, by show IntKind.u64.wrap (t.now + n) ≤ _; rw [hw]; omega, hok.w0, hok.w1, by have := hok.l0; show t.way0.length ≤ _; omega, by have := hok.l1; show t.way1.length ≤ _; omega, by have := hok.sz; simp only [later]; omega⟩
  have h2 : ∃ s0 s1, TalkIn (later t n) s0 s1 := by
    obtain ⟨s0, s1, h⟩ := h
    exact ⟨s0, s1, h.w, h.f0, h.f1, h.W0, h.W1, h.so0, h.so1, h.e0, h.e1, h.z1, h.g1, h.g0, h.c0, h.c1, h.t0, h.t1⟩
  obtain ⟨p1, p2⟩ := tick0_ok (by omega) hl
  exact tick1_in (by omega) p2 (tick0_in (by omega) hl h2)
theorem closes_in {k : Nat} {t : Talk} {side : Int} (hk : k ≤ 1000) (hok : TalkOk k t) (hside : side = 0 ∨ side = 1) (h : ∃ s0 s1, TalkIn t s0 s1) : ∃ a b, TalkIn (closes t side) a b := by
  have hn := now_le hk hok
  obtain ⟨s0, s1, h⟩ := h
  rcases hside with rfl | rfl
  · unfold closes
    rw [if_pos rfl]
    split
    · have hh := close_okc hok.t0 hn hok.c0
      obtain ⟨s2, l1, l2, ⟨n, ok⟩, q2, q3, q4, q5, q6⟩ := close_in (h.ei0 hk hok)
      have hp := put0_in h l1 q2 (w := t.written0) (r := t.read0) (cl := true) (td := t.told0) q5 (l2.trans h.W0) (fun _ => rfl) h.t0
      exact ⟨s2, s1, sends0_in (t := close0 t) hp ok.c q6 (by have := hh.out.1; omega)⟩
    · exact ⟨s0, s1, h⟩
  · unfold closes
    rw [if_neg (by omega)]
    split
    · rename_i hc
      have hi := hc.1
      have hh := close_okc hok.t0 hn (hok.c1 hi)
      obtain ⟨s2, l1, l2, ⟨n, ok⟩, q2, q3, q4, q5, q6⟩ := close_in (h.ei1 hk hok hi)
      have hp := put1_in h l1 q2 (w := t.written1) (r := t.read1) (cl := true) (td := t.told1) q5 (l2.trans h.W1) (fun _ => rfl) h.t1
      have hp : TalkIn (close1 t) s0 s2 := by
        have e1 : ({ t with c1 := (epClose t.c1 t.now).conn, is1 := true, closed1 := true } : Talk) = close1 t := by unfold close1; rw [← hi]
        rw [← e1]; exact hp
      exact ⟨s0, s2, sends1_in hp hi ok.c q6 (by have := hh.out.1; omega)⟩
    · exact ⟨s0, s1, h⟩
theorem odd_no {r w : ByteArray} {told closed : Bool} {d : List UInt8} (h : bl w = bl r ++ d) (ht : told = true → closed = true ∧ bl r = bl w) : oddR r w told closed = false := by
  have hl : r.size ≤ w.size := by rw [← bl_size, ← bl_size, h, List.length_append]; omega
  unfold oddR
  have e1 : (r.toList == (w.extract 0 r.size).toList) = true := by
    rw [bl_extract, ByteArray.toList_eq, h, List.drop_zero, ← bl_size, List.take_left]; simp
  have e2 : decide ((w.size : Int) < r.size) = false := by simp; omega
  rw [e1, e2]
  cases hto : told with
  | false => rfl
  | true =>
    obtain ⟨c1, c2⟩ := ht hto
    rw [c1, bl_inj c2]; simp
theorem rd_all {s o : Str} (ho : StrOk o) {c : Conn} {rd x : List UInt8} (h : EndIn s o c (rd ++ x)) (hr : rd = o.W) : rd ++ x = o.W := by
  obtain ⟨d, hd⟩ := h.pre ho
  have := congrArg List.length hd
  rw [hr] at this
  simp only [List.length_append] at this
  have hx : x = [] := List.length_eq_zero_iff.1 (by omega)
  rw [hx, List.append_nil]; exact hr
theorem reads_in {k : Nat} {t : Talk} {side n : Int} (hk : k ≤ 900) (hok : TalkOk k t) (hside : side = 0 ∨ (side = 1 ∧ t.is1 = true)) (h : ∃ s0 s1, TalkIn t s0 s1) : ∃ a b, TalkIn (reads t side n) a b := by
  have hn := now_le (by omega) hok
  obtain ⟨s0, s1, h⟩ := h
  rcases hside with rfl | ⟨rfl, hi⟩
  · obtain ⟨p, q⟩ := read_okc (n := n) hok.t0 hn hok.c0
    obtain ⟨s2, l1, l2, ⟨⟨m, ok⟩, q2, q3, q4, q5, q6⟩, q7⟩ := read_in (n := n) (h.ei0 (by omega) hok)
    have htd : (t.told0 || ((epRead t.c0 n t.now).2.2.2 == 11)) = true → s1.S = true ∧ bl t.read0 ++ u8s (epRead t.c0 n t.now).2.1 = s1.W := by
      intro hc
      simp only [Bool.or_eq_true, beq_iff_eq] at hc
      rcases hc with hc | hc
      · obtain ⟨c1, c2⟩ := h.t0 hc
        exact ⟨c1, rd_all h.so1 q5 c2⟩
      · exact q7 hc
    have hp := put0_in h l1 q2 (w := t.written0) (r := t.read0 ++ bytesS (epRead t.c0 n t.now).2.1) (cl := t.closed0) (td := t.told0 || ((epRead t.c0 n t.now).2.2.2 == 11)) (by rw [bl_append, bl_bytes]; exact q5) (l2.trans h.W0) (fun hc => h.c0 (by rw [← read_fin t.c0 n t.now]; exact hc)) (by rw [bl_append, bl_bytes]; exact htd)
    have h3 := sends0_in (t := read0T t n) (l := (epRead t.c0 n t.now).2.2.1) hp ok.c q6 (by have := q.1; omega)
    rw [reads_0]
    unfold read0E
    rw [if_neg]
    · exact ⟨s2, s1, h3⟩
    · have hE := h3.e0
      obtain ⟨d, hd⟩ := hE.pre h3.so1
      rw [h3.W1] at hd
      rw [odd_no hd fun ht => ?_]
      · simp
      · obtain ⟨c1, c2⟩ := h3.t0 ht
        refine ⟨?_, by rw [← h3.W1]; exact c2⟩
        have hi1 : t.is1 = true := by
          cases hi : t.is1 with
          | true => rfl
          | false => rw [(h.z1 hi).1] at c1; cases c1
        exact h3.c1 ((h3.e1 (by rw [sends0_eq]; exact hi1)).S (by rw [sends0_eq]; exact hok.c1 hi1) c1)
  · obtain ⟨p, q⟩ := read_okc (n := n) hok.t0 hn (hok.c1 hi)
    obtain ⟨s2, l1, l2, ⟨⟨m, ok⟩, q2, q3, q4, q5, q6⟩, q7⟩ := read_in (n := n) (h.ei1 (by omega) hok hi)
    have htd : (t.told1 || ((epRead t.c1 n t.now).2.2.2 == 11)) = true → s0.S = true ∧ bl t.read1 ++ u8s (epRead t.c1 n t.now).2.1 = s0.W := by
      intro hc
      simp only [Bool.or_eq_true, beq_iff_eq] at hc
      rcases hc with hc | hc
      · obtain ⟨c1, c2⟩ := h.t1 hc
        exact ⟨c1, rd_all h.so0 q5 c2⟩
      · exact q7 hc
    have hp := put1_in h l1 q2 (w := t.written1) (r := t.read1 ++ bytesS (epRead t.c1 n t.now).2.1) (cl := t.closed1) (td := t.told1 || ((epRead t.c1 n t.now).2.2.2 == 11)) (by rw [bl_append, bl_bytes]; exact q5) (l2.trans h.W1) (fun hc => h.c1 (by rw [← read_fin t.c1 n t.now]; exact hc)) (by rw [bl_append, bl_bytes]; exact htd)
    have hp : TalkIn (read1T t n) s0 s2 := by
      have e1 : ({ t with c1 := (epRead t.c1 n t.now).1, is1 := true, read1 := t.read1 ++ bytesS (epRead t.c1 n t.now).2.1, told1 := t.told1 || ((epRead t.c1 n t.now).2.2.2 == 11) } : Talk) = read1T t n := by unfold read1T; rw [← hi]
      rw [← e1]; exact hp
    have h3 := sends1_in (t := read1T t n) (l := (epRead t.c1 n t.now).2.2.1) hp hi ok.c q6 (by have := q.1; omega)
    rw [reads_1]
    unfold read1E
    rw [if_neg]
    · exact ⟨s0, s2, h3⟩
    · have hE := h3.e1 (by rw [sends1_eq]; exact hi)
      obtain ⟨d, hd⟩ := hE.pre h3.so0
      rw [h3.W0] at hd
      rw [odd_no hd fun ht => ?_]
      · simp
      · obtain ⟨c1, c2⟩ := h3.t1 ht
        refine ⟨?_, by rw [← h3.W0]; exact c2⟩
        exact h3.c0 (h3.e0.S (by rw [sends1_eq]; exact hok.c0) c1)
theorem begins_in {f0 f1 : Int} (u0 : U32 f0) (u1 : U32 f1) : ∃ a b, TalkIn (begins f0 f1) a b := by
  have hd := dial_okc (first := f0) (now := 0) (self := addrX) (peer := addrY) (by omega) (by omega)
  have ha := dial_in (self := addrX) (peer := addrY) (now := 0) u0 (str0_ok u1) rfl (by omega) (by omega)
  refine ⟨str0 f0, str0 f1, sends0_in ⟨rfl, rfl, rfl, rfl, rfl, str0_ok u0, str0_ok u1, ha.en, fun hc => (by cases hc), fun _ => ⟨rfl, rfl, rfl⟩, fun x hx => by simp [talk0] at hx, fun x hx => by simp [talk0] at hx, fun hc => (by cases hc), fun hc => (by cases hc), fun hc => (by cases hc), fun hc => (by cases hc)⟩ hd.c ha.out (by have := hd.out.1; omega)⟩
end Caw

/-! Two ends: what goes between them is what was written. A step, and the laws. -/
set_option linter.unusedVariables false
namespace Caw
open Go
/-- Two ends, of which all is as it may be. -/
def TrueT (t : Talk) : Prop := ∃ s0 s1, TalkIn t s0 s1
theorem TrueT.wrong {t : Talk} (h : TrueT t) : t.wrong = false := by obtain ⟨s0, s1, h⟩ := h; exact h.w
theorem begins_told {f0 f1 : Int} (u0 : U32 f0) (u1 : U32 f1) : TrueT (begins f0 f1) := begins_in u0 u1
theorem drop0 {t : Talk} {s0 s1 : Str} (h : TalkIn t s0 s1) (i : Nat) : TalkIn { t with way0 := without t.way0 i } s0 s1 :=
  ⟨h.w, h.f0, h.f1, h.W0, h.W1, h.so0, h.so1, h.e0, h.e1, h.z1, h.g1, fun x hx => h.g0 x (without_mem hx), h.c0, h.c1, h.t0, h.t1⟩
theorem drop1 {t : Talk} {s0 s1 : Str} (h : TalkIn t s0 s1) (i : Nat) : TalkIn { t with way1 := without t.way1 i } s0 s1 :=
  ⟨h.w, h.f0, h.f1, h.W0, h.W1, h.so0, h.so1, h.e0, h.e1, h.z1, fun x hx => h.g1 x (without_mem hx), h.g0, h.c0, h.c1, h.t0, h.t1⟩
theorem step_told {k : Nat} {t : Talk} {s : Stp} (hk : k ≤ 900) (hok : TalkOk k t) (h : TrueT t) : TrueT (talkStep t s) := by
  obtain ⟨s0, s1, h⟩ := h
  have hl0 := hok.l0
  have hl1 := hok.l1
  have u1 : U32 t.first1 := by rw [← h.f1]; exact h.so1.u
  unfold talkStep
  split
  · split
    · unfold way0T
      split
      · exact ⟨s0, s1, h⟩
      · rename_i x hx
        have hm : x ∈ t.way0 := List.mem_of_getElem? hx
        (repeat' split)
        · exact comes_in (by omega) hok (hok.w0 x hm) ⟨s0, s1, h, .inl ⟨rfl, h.g0 x hm⟩⟩ u1
        · exact ⟨s0, s1, drop0 h _⟩
        · have hdr : TalkOk k { t with way0 := without t.way0 (pickI s t.way0.length).toNat } := ⟨hok.i0, hok.c0, hok.c1, hok.z1, hok.t0, hok.t1, fun y hy => hok.w0 y (without_mem hy), hok.w1, by have := without_len t.way0 (pickI s t.way0.length).toNat; simp only; omega, hok.l1, hok.sz⟩
          exact comes_in (by omega) hdr (hok.w0 x hm) ⟨s0, s1, drop0 h _, .inl ⟨rfl, h.g0 x hm⟩⟩ u1
    · unfold way1T
      split
      · exact ⟨s0, s1, h⟩
      · rename_i x hx
        have hm : x ∈ t.way1 := List.mem_of_getElem? hx
        (repeat' split)
        · exact comes_in (by omega) hok (hok.w1 x hm) ⟨s0, s1, h, .inr ⟨rfl, h.g1 x hm⟩⟩ u1
        · exact ⟨s0, s1, drop1 h _⟩
        · have hdr : TalkOk k { t with way1 := without t.way1 (pickI s t.way1.length).toNat } := ⟨hok.i0, hok.c0, hok.c1, hok.z1, hok.t0, hok.t1, hok.w0, fun y hy => hok.w1 y (without_mem hy), hok.l0, by have := without_len t.way1 (pickI s t.way1.length).toNat; simp only; omega, hok.sz⟩
          exact comes_in (by omega) hdr (hok.w1 x hm) ⟨s0, s1, drop1 h _, .inr ⟨rfl, h.g1 x hm⟩⟩ u1
  · split
    · exact ticks_in hk hok (tickN_ok s).1 (tickN_ok s).2 ⟨s0, s1, h⟩
    · split
      · split
        · split
          · exact reads_in hk hok (.inl rfl) ⟨s0, s1, h⟩
          · exact ⟨s0, s1, h⟩
        · split
          · rename_i hi
            exact reads_in hk hok (.inr ⟨rfl, hi⟩) ⟨s0, s1, h⟩
          · exact ⟨s0, s1, h⟩
      · split
        · exact closes_in (by omega) hok (side_range s) ⟨s0, s1, h⟩
        · exact writes_in hk hok (side_range s) ⟨s0, s1, h⟩
/-! ### The window -/
/-- How far an end sent beyond what the other has room for. -/
def beyondW (c o : Conn) : Int := refDiff (IntKind.u32.wrap (c.send.una + IntKind.u32.wrap c.send.sent)) (IntKind.u32.wrap (o.recv.next + IntKind.u32.wrap (IntKind.i64.wrap (256 - o.recv.data.length))))
theorem window_ok {s o : Str} {c d : Conn} {rc rdd : List UInt8} (hs : StrOk s) (ho : StrOk o) (hc : ConnOk c) (hd : ConnOk d) (h : EndIn s o c rc) (k : EndIn o s d rdd) (hp : c.phase = 3) (hdone : d.recv.done = false) : beyondW c d ≤ 1 := by
  have hM := h.op hp
  obtain ⟨a, b1, -⟩ := h.snd
  have hr : ∃ r, RcvIn o s d.recv rdd r := by
    rcases k.rcv with hu | hr
    · have := hu.2.2.2.2.2; rw [hM] at this; cases this
    · exact hr
  obtain ⟨r, hr⟩ := hr
  have hl := hs.len
  have hh := hs.h
  have hq := hc.send
  have h0 := hq.s0
  have h1 := hq.s1
  have h2 := hq.len
  have hle := hr.le
  have hE := hr.E
  have hR := hr.R
  have hdl := recv_len hd.recv
  have hH := b1.H
  have hsz := b1.size
  have hout := b1.out
  have hedge := b1.edge
  rw [hdone] at hE hR
  simp only [Bool.toNat_false, Nat.add_zero] at hE hR
  have hfa : c.send.finAcked = false := by
    cases hfa : c.send.finAcked with
    | false => rfl
    | true =>
      obtain ⟨f1, f2⟩ := hq.fa hfa
      rw [hfa] at hout; simp at hout; omega
  have e1 : IntKind.u32.wrap (c.send.una + IntKind.u32.wrap c.send.sent) = num s (a + c.send.sent.toNat) := by
    have := b1.una
    rw [hfa] at this
    have h3 := num_add s a c.send.sent h0
    rw [← h3]
    rw [this]
    simp [seqAdd]
  have e2 : IntKind.u32.wrap (d.recv.next + IntKind.u32.wrap (IntKind.i64.wrap (256 - d.recv.data.length))) = num s (r + (256 - d.recv.data.length)) := by
    have := hr.next
    rw [hdone] at this
    have h3 := num_add s r (256 - d.recv.data.length) (by omega)
    rw [show ((256 : Int) - d.recv.data.length).toNat = 256 - d.recv.data.length by omega] at h3
    rw [← h3, wi_of (by omega) (by omega), this]
    simp [seqAdd]
  unfold beyondW
  rw [e1, e2, refDiff_eq (num_u _ _) (num_u _ _), num_diff s (by omega) (by omega)]
  omega
/-- Is an end beyond the window? -/
def beyond0 (t : Talk) : Prop := t.is0 = true ∧ t.c0.phase = 3 ∧ t.is1 = true ∧ t.c1.phase ≠ 1 ∧ 1 < beyondW t.c0 t.c1 ∧ t.c1.recv.done = false
def beyond1 (t : Talk) : Prop := t.is1 = true ∧ t.c1.phase = 3 ∧ t.is0 = true ∧ t.c0.phase ≠ 1 ∧ 1 < beyondW t.c1 t.c0 ∧ t.c0.recv.done = false
theorem within {k : Nat} {t : Talk} (hok : TalkOk k t) (h : TrueT t) : ¬ beyond0 t ∧ ¬ beyond1 t := by
  obtain ⟨s0, s1, h⟩ := h
  refine ⟨fun ⟨a, b, c, d, e, f⟩ => ?_, fun ⟨a, b, c, d, e, f⟩ => ?_⟩
  · have := window_ok h.so0 h.so1 hok.c0 (hok.c1 c) h.e0 (h.e1 c) b f
    omega
  · have := window_ok h.so1 h.so0 (hok.c1 a) hok.c0 (h.e1 a) h.e0 b f
    omega
end Caw

/-! The window: cases of the walk. -/
namespace Caw
open Go
theorem win0 {t : Talk} (h : ¬ beyond0 t) (h0 : t.is0 = true) : ((t.c0.phase != 3) = true) ∨ ((t.c0.phase != 3) = false ∧ t.is1 = false) ∨ ((t.c0.phase != 3) = false ∧ t.is1 = true ∧ (t.c1.phase != 1) = false) ∨
    ((t.c0.phase != 3) = false ∧ t.is1 = true ∧ (t.c1.phase != 1) = true ∧ decide (1 < beyondW t.c0 t.c1) = false) ∨ ((t.c0.phase != 3) = false ∧ t.is1 = true ∧ (t.c1.phase != 1) = true ∧ decide (1 < beyondW t.c0 t.c1) = true ∧ t.c1.recv.done = true) := by
  unfold beyond0 at h
  by_cases h1 : t.c0.phase = 3 <;> by_cases h2 : t.is1 = true <;> by_cases h3 : t.c1.phase = 1 <;> by_cases h4 : 1 < beyondW t.c0 t.c1 <;> by_cases h5 : t.c1.recv.done = true <;> simp_all
theorem win1 {t : Talk} (h : ¬ beyond1 t) (h0 : t.is0 = true) : t.is1 = false ∨ (t.is1 = true ∧ (t.c1.phase != 3) = true) ∨ (t.is1 = true ∧ (t.c1.phase != 3) = false ∧ (t.c0.phase != 1) = false) ∨
    (t.is1 = true ∧ (t.c1.phase != 3) = false ∧ (t.c0.phase != 1) = true ∧ decide (1 < beyondW t.c1 t.c0) = false) ∨ (t.is1 = true ∧ (t.c1.phase != 3) = false ∧ (t.c0.phase != 1) = true ∧ decide (1 < beyondW t.c1 t.c0) = true ∧ t.c0.recv.done = true) := by
  unfold beyond1 at h
  by_cases h1 : t.c1.phase = 3 <;> by_cases h2 : t.is1 = true <;> by_cases h3 : t.c0.phase = 1 <;> by_cases h4 : 1 < beyondW t.c1 t.c0 <;> by_cases h5 : t.c0.recv.done = true <;> simp_all
end Caw

