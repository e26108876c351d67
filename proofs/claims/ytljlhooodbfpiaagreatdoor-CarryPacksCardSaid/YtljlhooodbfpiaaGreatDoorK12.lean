import Derived.Test.YtljlhooodbfpiaaGreatDoorK11
import Derived.Lib.Bytealg
set_option linter.all false
/-! Cutting and splitting at a byte. -/
set_option linter.unusedVariables false
namespace Caw
open Go Go.RowKit Go.Lib

def ofL (l : List UInt8) : ByteArray := ⟨l.toArray⟩
def bl (s : ByteArray) : List UInt8 := s.data.toList
@[simp] theorem bl_ofL (l : List UInt8) : bl (ofL l) = l := rfl
@[simp] theorem bl_ofL' (l : List UInt8) : (ofL l).data.toList = l := rfl
@[simp] theorem ofL_bl (s : ByteArray) : ofL (bl s) = s := by cases s; simp [ofL, bl]
@[simp] theorem ofL_size (l : List UInt8) : (ofL l).size = l.length := by simp [ofL, ByteArray.size]
theorem bl_len (s : ByteArray) : (bl s).length = s.size := by cases s; simp [bl, ByteArray.size]
theorem ofL_extract (l : List UInt8) (a b : Nat) : (ofL l).extract a b = ofL ((l.take b).drop a) := by
  apply ByteArray.ext
  simp [ofL, ByteArray.data_extract, List.extract_eq_take_drop]
  rw [List.drop_take]

def splitL : List UInt8 → UInt8 → List (List UInt8)
  | [], _ => [[]]
  | b :: l, c => if b == c then [] :: splitL l c else (match splitL l c with
    | x :: r => (b :: x) :: r
    | [] => [[b]])
theorem splitL_ne : ∀ (l : List UInt8) (c : UInt8), ∃ x r, splitL l c = x :: r
  | [], _ => ⟨[], [], rfl⟩
  | b :: l, c => by
    obtain ⟨x, r, h⟩ := splitL_ne l c
    unfold splitL
    split
    · exact ⟨_, _, rfl⟩
    · rw [h]; exact ⟨_, _, rfl⟩
theorem index_none : ∀ {l : List UInt8} {c : UInt8}, l.count c = 0 → indexByte l c = -1
  | [], _, _ => rfl
  | b :: l, c, h => by
    by_cases hb : b = c
    · subst hb; simp at h
    · have h1 : l.count c = 0 := by simpa [List.count_cons, hb] using h
      unfold indexByte
      simp [hb, index_none h1]
theorem split_none : ∀ {l : List UInt8} {c : UInt8}, l.count c = 0 → splitL l c = [l]
  | [], _, _ => rfl
  | b :: l, c, h => by
    by_cases hb : b = c
    · subst hb; simp at h
    · have h1 : l.count c = 0 := by simpa [List.count_cons, hb] using h
      unfold splitL
      simp [hb, split_none h1]
theorem index_some : ∀ {l : List UInt8} {c : UInt8}, 0 < l.count c → ∃ m : Nat, indexByte l c = m ∧ m < l.length ∧ splitL l c = l.take m :: splitL (l.drop (m + 1)) c ∧ (l.drop (m + 1)).count c + 1 = l.count c
  | [], _, h => by simp at h
  | b :: l, c, h => by
    by_cases hb : b = c
    · subst hb
      exact ⟨0, by simp [indexByte], by simp, by simp [splitL], by simp⟩
    · have h1 : 0 < l.count c := by simpa [List.count_cons, hb] using h
      obtain ⟨m, e1, e2, e3, e4⟩ := index_some h1
      refine ⟨m + 1, ?_, by simp; omega, ?_, ?_⟩
      · unfold indexByte
        simp [hb, e1]
      · rw [splitL]
        simp [hb, e3]
      · simp [List.count_cons, hb, e4]
theorem split_len : ∀ (l : List UInt8) (c : UInt8), (splitL l c).length = l.count c + 1
  | [], _ => rfl
  | b :: l, c => by
    have := split_len l c
    by_cases hb : b = c
    · subst hb; simp [splitL, this]
    · obtain ⟨x, r, h⟩ := splitL_ne l c
      rw [h] at this
      simp [splitL, hb, h] at this ⊢
      omega

/-! ### The functions -/
def indexZ (s t : ByteArray) : Int := indexByte (bl s) (hd t)
def splitZ (s t : ByteArray) : List ByteArray := (splitL (bl s) (hd t)).map ofL
def cutZ (s t : ByteArray) : ByteArray × ByteArray × Bool :=
  if 0 < (bl s).count (hd t) then (ofL ((bl s).take (indexZ s t).toNat), ofL ((bl s).drop ((indexZ s t).toNat + 1)), true) else (s, ofL [], false)

theorem cut_facts (s t : ByteArray) (h : s.size ≤ 100000) : (∃ m : Nat, indexZ s t = m ∧ (m : Int) ≤ s.size ∧ (m : Int) + 1 ≤ s.size ∧ IntKind.wrap .i64 ((m : Int) + 1) = (m : Int) + 1 ∧ cutZ s t = (s.extract 0 m, s.extract (m + 1) s.size, true)) ∨ (indexZ s t = -1 ∧ cutZ s t = (s, ⟨#[]⟩, false)) := by
  rcases Nat.eq_zero_or_pos ((bl s).count (hd t)) with h0 | h0
  · right
    refine ⟨index_none h0, ?_⟩
    simp [cutZ, h0, ofL]
  · left
    obtain ⟨m, e1, e2, e3, e4⟩ := index_some h0
    rw [bl_len] at e2
    have e5 : indexZ s t = m := e1
    refine ⟨m, e5, by omega, by omega, wrap_i64 (by omega), ?_⟩
    unfold cutZ
    rw [if_pos h0, e5]
    have a1 := ofL_extract (bl s) 0 m
    have a2 := ofL_extract (bl s) (m + 1) s.size
    rw [ofL_bl] at a1 a2
    rw [a1, a2]
    have : (bl s).take s.size = bl s := List.take_of_length_le (by rw [bl_len]; exact Nat.le_refl _)
    simp [this]

/-! ### Splitting, as it goes on -/
/-- ds are done, r is left. -/
structure Sp (s t : ByteArray) (ds : List (List UInt8)) (r : List UInt8) : Prop where
  eq : splitL (bl s) (hd t) = ds ++ splitL r (hd t)
  len : r.length ≤ s.size
theorem Sp.start (s t : ByteArray) : Sp s t [] (bl s) := ⟨rfl, by rw [bl_len]; exact Nat.le_refl _⟩
theorem Sp.cnt {s t : ByteArray} {ds : List (List UInt8)} {r : List UInt8} (h : Sp s t ds r) : ds.length + r.count (hd t) = (bl s).count (hd t) := by
  have := congrArg List.length h.eq
  rw [List.length_append, split_len, split_len] at this
  omega
theorem Sp.stop {s t : ByteArray} {ds : List (List UInt8)} {r : List UInt8} (h : Sp s t ds r) (he : ds.length = (bl s).count (hd t)) : splitL (bl s) (hd t) = ds ++ [r] := by
  have h1 := h.cnt
  rw [h.eq, split_none (by omega)]
theorem Sp.next {s t : ByteArray} {ds : List (List UInt8)} {r : List UInt8} (h : Sp s t ds r) (hs : s.size ≤ 100000) (he : ds.length < (bl s).count (hd t)) :
    ∃ m : Nat, indexZ (ofL r) t = m ∧ (m : Int) ≤ r.length ∧ (m : Int) + 1 ≤ r.length ∧ IntKind.wrap .i64 (m : Int) = m ∧ IntKind.wrap .i64 ((m : Int) + 1) = (m : Int) + 1 ∧ (ofL r).extract 0 m = ofL (r.take m) ∧ (ofL r).extract (m + 1) r.length = ofL (r.drop (m + 1)) ∧ Sp s t (ds ++ [r.take m]) (r.drop (m + 1)) := by
  have h1 := h.cnt
  obtain ⟨m, e1, e2, e3, e4⟩ := index_some (l := r) (c := hd t) (by omega)
  have h2 := h.len
  refine ⟨m, e1, by omega, by omega, wrap_i64 (by omega), wrap_i64 (by omega), by rw [ofL_extract]; rfl, ?_, ⟨?_, ?_⟩⟩
  · rw [ofL_extract, List.take_of_length_le (Nat.le_refl _)]
  · rw [h.eq, e3]; simp
  · simp; omega
theorem count_facts (s t : ByteArray) (hs : s.size ≤ 100000) : (bl s).count (hd t) ≤ s.size := by
  rw [← bl_len]; exact List.count_le_length
/-- The row of pieces as it is filled. -/
def rowZ (ds : List (List UInt8)) (n : Nat) : List ByteArray := ds.map ofL ++ List.replicate (n - ds.length) ⟨#[]⟩
theorem rowZ_len {ds : List (List UInt8)} {n : Nat} (h : ds.length ≤ n) : (rowZ ds n).length = n := by simp [rowZ]; omega
theorem rowZ_set {ds : List (List UInt8)} {n : Nat} (h : ds.length < n) (x : List UInt8) : (rowZ ds n).set ds.length (ofL x) = rowZ (ds ++ [x]) n := by
  obtain ⟨k, hk⟩ : ∃ k, n - ds.length = k + 1 := ⟨n - ds.length - 1, by omega⟩
  have h2 : n - (ds ++ [x]).length = k := by simp; omega
  unfold rowZ
  rw [hk, h2, List.set_append_right _ _ (by simp)]
  simp [List.replicate_succ]
theorem rowZ_full {ds : List (List UInt8)} {n : Nat} (h : ds.length = n) : rowZ ds n = ds.map ofL := by simp [rowZ, h]
end Caw
namespace Caw
open Go Go.RowKit Go.Lib
theorem gs_facts (s t : ByteArray) (hs : s.size ≤ 100000) : IntKind.wrap .i64 (((bl s).count (hd t) : Nat) + 1 : Int) = ((bl s).count (hd t) : Nat) + 1 ∧ minI (((bl s).count (hd t) : Nat) + 1 : Int) (IntKind.wrap .i64 ((s.size : Int) + 1)) = ((bl s).count (hd t) : Nat) + 1 ∧
    IntKind.wrap .i64 ((bl s).count (hd t) : Nat) = ((bl s).count (hd t) : Nat) ∧ ((((bl s).count (hd t) : Nat) : Int) + 1) * 17 ≤ 1099511627776 ∧ (0 : Int) ≤ ((bl s).count (hd t) : Nat) + 1 := by
  have := count_facts s t hs
  refine ⟨wrap_i64 (by omega), ?_, wrap_i64 (by omega), by omega, by omega⟩
  rw [wrap_i64 (by omega)]
  unfold minI
  split <;> omega
theorem one_ne {t : ByteArray} (h : one t) : t.toList.isEmpty = false := by
  obtain ⟨c, rfl⟩ := h
  have e1 : (⟨#[c]⟩ : ByteArray).toList = [c] := by simp [ByteArray.toList, ByteArray.toList.loop, ByteArray.size, ByteArray.get!]
  rw [e1]; rfl
theorem rowZ_nil (n : Nat) : encZ (List.replicate n ⟨#[]⟩) = encZ (rowZ [] n) := rfl
end Caw

/-! The check sum, in plain words. -/
namespace Caw
open Go Go.RowKit
theorem wr_u16 {x : Int} (h : 0 ≤ x ∧ x < 65536) : IntKind.wrap .u16 x = x := by
  rw [show IntKind.wrap .u16 x = x % 65536 from rfl]; omega
theorem wr_u32 {x : Int} (h : 0 ≤ x ∧ x < 4294967296) : IntKind.wrap .u32 x = x := by
  rw [show IntKind.wrap .u32 x = x % 4294967296 from rfl]; omega
def addN (a b : Int) : Int := if a + b < 65536 then a + b else a + b - 65535
theorem addN_lt {a b : Int} (ha : 0 ≤ a ∧ a < 65536) (hb : 0 ≤ b ∧ b < 65536) : 0 ≤ addN a b ∧ addN a b < 65536 := by
  unfold addN; split <;> omega
theorem add_facts {a b : Int} (ha : 0 ≤ a ∧ a < 65536) (hb : 0 ≤ b ∧ b < 65536) :
    IntKind.wrap .u32 a = a ∧ IntKind.wrap .u32 b = b ∧ IntKind.wrap .u32 (a + b) = a + b ∧
    IntKind.wrap .u16 (IntKind.wrap .u16 (a + b) + IntKind.wrap .u16 ((a + b).fdiv (2 ^ min 16 IntKind.u32.bits))) = addN a b := by
  refine ⟨wr_u32 (by omega), wr_u32 (by omega), wr_u32 (by omega), ?_⟩
  rw [show ((2 : Int) ^ min 16 IntKind.u32.bits) = 65536 from rfl, show IntKind.wrap .u16 (a + b) = (a + b) % 65536 from rfl, Int.fdiv_eq_ediv_of_nonneg _ (by omega)]
  have h1 : IntKind.wrap .u16 ((a + b) / 65536) = (a + b) / 65536 := wr_u16 (by omega)
  rw [h1]
  rw [show ∀ x : Int, IntKind.wrap .u16 x = x % 65536 from fun _ => rfl]
  unfold addN
  split <;> omega
/-- The sum of bytes, from a sum on; high: is the next one a word's first? -/
def foldB : Bool → Int → List Int → Int
  | _, s, [] => s
  | h, s, c :: r => foldB (!h) (addN s (if h then c * 256 else c)) r
def sumF (b : List Int) : Int := foldB true 0 b
/-- The same in one long sum. -/
def longB : Bool → List Int → Int
  | _, [] => 0
  | h, c :: r => (if h then c * 256 else c) + longB (!h) r
def u8L (l : List Int) : Prop := ∀ c ∈ l, 0 ≤ c ∧ c < 256
theorem longB_nn : ∀ (l : List Int) (h : Bool), u8L l → 0 ≤ longB h l
  | [], _, _ => by simp [longB]
  | c :: r, h, hl => by
    have h1 := hl c (List.mem_cons_self ..)
    have h2 := longB_nn r (!h) (fun x hx => hl x (List.mem_cons_of_mem _ hx))
    simp only [longB]
    split <;> omega
def nrm (n : Int) : Int := if n = 0 then 0 else if n % 65535 = 0 then 65535 else n % 65535
theorem nrm_add {s x L : Int} (h0 : 0 ≤ s) (h1 : s < 65536) (x0 : 0 ≤ x) (x1 : x < 65536) (hL : 0 ≤ L) : nrm (addN s x + L) = nrm (s + (x + L)) := by
  unfold nrm addN
  split
  · rw [Int.add_assoc]
  · have e : s + x - 65535 + L = s + (x + L) - 65535 := by omega
    rw [e]
    have h4 : (s + (x + L) - 65535) % 65535 = (s + (x + L)) % 65535 := by omega
    rw [h4]
    have h3 : ¬ s + (x + L) = 0 := by omega
    rw [if_neg h3]
    split
    · have : (s + (x + L)) % 65535 = 0 := by omega
      rw [if_pos this]
      omega
    · rfl
/-- One after the other, or all at once. -/
theorem fold_long : ∀ (l : List Int) (h : Bool) (s : Int), u8L l → 0 ≤ s → s < 65536 → foldB h s l = nrm (s + longB h l)
  | [], h, s, _, h0, h1 => by
    simp only [foldB, longB, Int.add_zero]
    unfold nrm
    split
    · assumption
    · split <;> omega
  | c :: r, h, s, hl, h0, h1 => by
    have hc := hl c (List.mem_cons_self ..)
    have hr : u8L r := fun x hx => hl x (List.mem_cons_of_mem _ hx)
    have hn := longB_nn r (!h) hr
    have hx : 0 ≤ (if h = true then c * 256 else c) ∧ (if h = true then c * 256 else c) < 65536 := by split <;> omega
    have ha := addN_lt (a := s) ⟨h0, h1⟩ hx
    rw [foldB, fold_long r (!h) _ hr ha.1 ha.2, longB, nrm_add h0 h1 hx.1 hx.2 hn]
theorem sumF_eq {l : List Int} (h : u8L l) : sumF l = nrm (longB true l) := by
  unfold sumF
  rw [fold_long l true 0 h (by omega) (by omega), Int.zero_add]
def dPart : AV → Option (List Int)
  | .sl 1 [.sl 1 es none] _ => bytesOf es
  | _ => none
@[simp] theorem dPart_sl (es : List AV) (tg : Tg) : dPart (.sl 1 [.sl 1 es none] tg) = bytesOf es := rfl
theorem dPart_co {x : AV} {l : List Int} (h : dPart x = some l) : CoPA x (.sl 1 [.sl 1 (encB l) none] none) := by
  unfold dPart at h
  split at h
  · rw [encB_of h]; exact coPA_of (coP_sl _ _ _)
  · cases h
def hiF : Bool → List Int → Bool
  | h, [] => h
  | h, _ :: r => hiF (!h) r
theorem foldB_app : ∀ (d r : List Int) (h : Bool) (s : Int), foldB h s (d ++ r) = foldB (hiF h d) (foldB h s d) r
  | [], _, _, _ => rfl
  | c :: d, r, h, s => by simp only [List.cons_append, foldB, hiF]; exact foldB_app d r _ _
theorem hiF_app : ∀ (d r : List Int) (h : Bool), hiF h (d ++ r) = hiF (hiF h d) r
  | [], _, _ => rfl
  | c :: d, r, h => by simp only [List.cons_append, hiF]; exact hiF_app d r _
theorem foldB_lt : ∀ (l : List Int) (h : Bool) (s : Int), u8L l → 0 ≤ s ∧ s < 65536 → 0 ≤ foldB h s l ∧ foldB h s l < 65536
  | [], _, _, _, hs => hs
  | c :: r, h, s, hl, hs => by
    have hc := hl c (List.mem_cons_self ..)
    have hx : 0 ≤ (if h = true then c * 256 else c) ∧ (if h = true then c * 256 else c) < 65536 := by split <;> omega
    exact foldB_lt r _ _ (fun x hx => hl x (List.mem_cons_of_mem _ hx)) (addN_lt hs hx)
/-- b is d, then r. -/
def IsCat (b d r : List Int) : Prop := b = d ++ r
theorem IsCat.fin {b d : List Int} (h : IsCat b d []) : d = b := by
  have : b = d ++ [] := h
  simpa using this.symm
theorem IsCat.step {b d r : List Int} {c : Int} (h : IsCat b d (c :: r)) : IsCat b (d ++ [c]) r := by
  have : b = d ++ c :: r := h
  show b = d ++ [c] ++ r
  rw [this]; simp
theorem isCat0 (b : List Int) : IsCat b [] b := rfl
/-- What a round of the loop over bytes wants. -/
theorem fold_round {b d r : List Int} {c : Int} (hb : IsCat b d (c :: r)) (hl : u8L b) (hn : b.length ≤ 100000) :
    (0 ≤ foldB true 0 d ∧ foldB true 0 d < 65536) ∧ (0 ≤ c ∧ c < 256) ∧ IntKind.wrap .u16 c = c ∧ IntKind.wrap .u16 (c * 2 ^ min 8 IntKind.u16.bits) = c * 256 ∧ (0 ≤ c * 256 ∧ c * 256 < 65536 ∧ c < 65536) ∧
    (hiF true d = true → addN (foldB true 0 d) (c * 256) = foldB true 0 (d ++ [c])) ∧ (hiF true d = false → addN (foldB true 0 d) c = foldB true 0 (d ++ [c])) ∧ (!(hiF true d)) = hiF true (d ++ [c]) ∧
    decide ((d.length : Int) < b.length) = true ∧ decide (d.length < b.length) = true ∧ b[d.length]? = some c ∧ IntKind.wrap .i64 ((d.length : Int) + 1) = ((d ++ [c]).length : Nat) := by
  have hb : b = d ++ c :: r := hb
  have hd : u8L d := fun x hx => hl x (by rw [hb]; simp [hx])
  have hc : 0 ≤ c ∧ c < 256 := hl c (by rw [hb]; simp)
  refine ⟨foldB_lt d true 0 hd ⟨by omega, by omega⟩, hc, wr_u16 (by omega), (by rw [show ((2 : Int) ^ min 8 IntKind.u16.bits) = 256 from rfl]; exact wr_u16 (by omega)), ⟨by omega, by omega, by omega⟩, fun h => ?_, fun h => ?_, ?_, ?_, ?_, ?_, ?_⟩
  · rw [foldB_app, h]; simp [foldB]
  · rw [foldB_app, h]; simp [foldB]
  · rw [hiF_app]; rfl
  · rw [hb]; simp; omega
  · rw [hb]; simp
  · rw [hb]; simp
  · have : d.length < b.length := by rw [hb]; simp
    rw [wi_succ (by omega)]; simp
theorem sum_sz {l : List Int} (h : u8L l) : 0 ≤ sumF l ∧ sumF l < 65536 := foldB_lt l true 0 h ⟨by omega, by omega⟩
theorem xor_u16 {x : Int} (h : 0 ≤ x ∧ x < 65536) : bXor .u16 (if IntKind.u16.signed = true then -1 else IntKind.u16.max) x = 65535 - x := by
  obtain ⟨n, rfl⟩ := Int.eq_ofNat_of_zero_le h.1
  have hn : n < 65536 := by omega
  unfold bXor
  show IntKind.wrap .u16 (((BitVec.allOnes 16 ^^^ BitVec.ofNat 16 n).toNat : Nat) : Int) = _
  rw [show (BitVec.allOnes 16 ^^^ BitVec.ofNat 16 n) = ~~~ (BitVec.ofNat 16 n) from by rw [BitVec.xor_comm, BitVec.xor_allOnes]]
  rw [BitVec.toNat_not, BitVec.toNat_ofNat, Nat.mod_eq_of_lt (by omega)]
  rw [wr_u16 (by omega)]
  omega
/-- A text's bytes as numbers. -/
def zb (s : ByteArray) : List Int := (bl s).map fun c => ((c.toNat : Nat) : Int)
theorem zb_u8 (s : ByteArray) : u8L (zb s) := by
  intro c hc
  obtain ⟨x, _, rfl⟩ := List.mem_map.1 hc
  have := x.toNat_lt
  omega
theorem zb_len (s : ByteArray) : (zb s).length = s.size := by simp [zb, bl_len]
def evenB (i : Nat) : Bool := decide (i % 2 = 0)
theorem evenB_succ (i : Nat) : evenB (i + 1) = !evenB i := by
  unfold evenB
  rcases Nat.mod_two_eq_zero_or_one i with h | h <;> simp [h] <;> omega
theorem zb_drop (s : ByteArray) (i : Nat) (h : i < s.size) : (zb s).drop i = (((s[i]'h).toNat : Nat) : Int) :: (zb s).drop (i + 1) := by
  have hl : i < (zb s).length := by rw [zb_len]; exact h
  rw [List.drop_eq_getElem_cons hl]
  have : (zb s)[i]'hl = (((s[i]'h).toNat : Nat) : Int) := by
    simp only [zb, List.getElem_map, bl, Array.getElem_toList]
    rfl
  rw [this]
/-- The long sum of what is read. -/
def RefAt (s : ByteArray) (i : Nat) (n : Int) : Prop := i ≤ s.size ∧ 0 ≤ n ∧ n ≤ 65536 * i ∧ n + longB (evenB i) ((zb s).drop i) = longB true (zb s)
theorem refAt0 (s : ByteArray) : RefAt s 0 0 := ⟨Nat.zero_le _, by omega, by omega, by simp [evenB]⟩
theorem RefAt.fin {s : ByteArray} {i : Nat} {n : Int} (h : RefAt s i n) (hi : ¬ i < s.size) : n = longB true (zb s) := by
  obtain ⟨h1, _, _, h4⟩ := h
  rw [List.drop_eq_nil_of_le (by rw [zb_len]; omega)] at h4
  simpa [longB] using h4
theorem RefAt.step {s : ByteArray} {i : Nat} {n : Int} (h : RefAt s i n) (hi : i < s.size) (hs : s.size ≤ 100000) :
    ∀ c : Int, ((s[i]'hi).toNat : Nat) = c → (0 ≤ c ∧ c < 256) ∧ IntKind.wrap .i64 c = c ∧ IntKind.wrap .i64 (256 * c) = 256 * c ∧ IntKind.wrap .i64 ((i : Int) + 1) = ((i + 1 : Nat) : Int) ∧
    (evenB i = true → ((i : Int).tmod 2 = 0) ∧ IntKind.wrap .i64 (n + 256 * c) = n + 256 * c ∧ RefAt s (i + 1) (n + 256 * c)) ∧
    (evenB i = false → ((i : Int).tmod 2 = 1) ∧ IntKind.wrap .i64 (n + c) = n + c ∧ RefAt s (i + 1) (n + c)) := by
  rintro c rfl
  obtain ⟨h1, h2, h3, h4⟩ := h
  rw [zb_drop s i hi] at h4
  generalize hc : (((s[i]'hi).toNat : Nat) : Int) = c at *
  have hc2 : 0 ≤ c ∧ c < 256 := by rw [← hc]; have := (s[i]'hi).toNat_lt; omega
  clear hc
  have hm : (i : Int).tmod 2 = ((i % 2 : Nat) : Int) := rfl
  refine ⟨hc2, wrap_i64 (by omega), wrap_i64 (by omega), by rw [wrap_i64 (by omega)]; rfl, fun e => ?_, fun e => ?_⟩
  · rw [e] at h4
    simp only [longB, if_true] at h4
    have : i % 2 = 0 := by simpa [evenB] using e
    refine ⟨by rw [hm, this]; rfl, wrap_i64 (by omega), by omega, by omega, by omega, ?_⟩
    rw [evenB_succ, e]; omega
  · rw [e] at h4
    simp only [longB] at h4
    have : i % 2 = 1 := by
      have : ¬ i % 2 = 0 := by simpa [evenB] using e
      omega
    refine ⟨by rw [hm, this]; rfl, wrap_i64 (by omega), by omega, by omega, by omega, ?_⟩
    rw [evenB_succ, e]
    simpa [Int.add_assoc] using h4
theorem nrm_cases {N : Int} (h : 0 ≤ N) : (N = 0 ∧ nrm N = 0) ∨ (0 < N ∧ N.tmod 65535 = 0 ∧ nrm N = 65535) ∨
    (0 < N ∧ ¬ N.tmod 65535 = 0 ∧ IntKind.wrap .u16 (N.tmod 65535) = N % 65535 ∧ nrm N = N % 65535) := by
  have hm : N.tmod 65535 = N % 65535 := Int.tmod_eq_emod_of_nonneg h
  by_cases h0 : N = 0
  · exact .inl ⟨h0, by rw [h0]; rfl⟩
  · by_cases h1 : N % 65535 = 0
    · exact .inr (.inl ⟨by omega, by rw [hm, h1], by unfold nrm; rw [if_neg h0, if_pos h1]⟩)
    · exact .inr (.inr ⟨by omega, by rw [hm]; exact h1, by rw [hm]; exact wr_u16 (by omega), by unfold nrm; rw [if_neg h0, if_neg h1]⟩)
/-- The number of bytes, the highest first. -/
def getF (l : List Int) : Int := l.foldl (fun n c => n * 256 + c) 0
theorem getF_app (d : List Int) (c : Int) : getF (d ++ [c]) = getF d * 256 + c := by simp [getF]
theorem getF_ltN : ∀ (n : Nat) (l : List Int), l.length = n → u8L l → 0 ≤ getF l ∧ getF l < 256 ^ n
  | 0, l, hl, _ => by
    have : l = [] := List.eq_nil_of_length_eq_zero hl
    subst this
    exact ⟨by simp [getF], by simp [getF]⟩
  | n + 1, l, hl, h => by
    rcases List.eq_nil_or_concat l with rfl | ⟨d, c, rfl⟩
    · simp at hl
    · have hc := h c (by simp)
      have hd := getF_ltN n d (by simpa using hl) (fun x hx => h x (by simp [hx]))
      rw [List.concat_eq_append, getF_app, Int.pow_succ]
      omega
theorem getF_lt (l : List Int) (h : u8L l) : 0 ≤ getF l ∧ getF l < 256 ^ l.length := getF_ltN _ l rfl h
theorem or_u64 {n c : Int} (hn : 0 ≤ n ∧ n * 256 + 255 < 18446744073709551616) (hc : 0 ≤ c ∧ c < 256) : bOr .u64 (n * 256) c = n * 256 + c := by
  obtain ⟨m, rfl⟩ := Int.eq_ofNat_of_zero_le hn.1
  obtain ⟨k, rfl⟩ := Int.eq_ofNat_of_zero_le hc.1
  unfold bOr
  show IntKind.wrap .u64 (((BitVec.ofNat 64 (m * 256) ||| BitVec.ofNat 64 k).toNat : Nat) : Int) = _
  rw [BitVec.toNat_or, BitVec.toNat_ofNat, BitVec.toNat_ofNat, Nat.mod_eq_of_lt (by omega), Nat.mod_eq_of_lt (by omega)]
  rw [show m * 256 = 2 ^ 8 * m by omega, ← Nat.two_pow_add_eq_or_of_lt (by omega)]
  rw [show ∀ x : Int, IntKind.wrap .u64 x = x % 18446744073709551616 from fun _ => rfl]
  omega
/-- What a round of octets.Get wants. -/
theorem get_round {b d r : List Int} {c : Int} (hb : IsCat b d (c :: r)) (hl : u8L b) (hn : b.length ≤ 8) :
    IntKind.wrap .u64 c = c ∧ IntKind.wrap .u64 (getF d * 2 ^ min 8 IntKind.u64.bits) = getF d * 256 ∧ bOr .u64 (getF d * 256) c = getF (d ++ [c]) ∧
    decide ((d.length : Int) < b.length) = true ∧ decide (d.length < b.length) = true ∧ b[d.length]? = some c ∧ IntKind.wrap .i64 ((d.length : Int) + 1) = ((d ++ [c]).length : Nat) := by
  obtain ⟨_, hc, _, _, _, _, _, _, f1, f2, f3, f4⟩ := fold_round hb hl (by omega)
  have hb : b = d ++ c :: r := hb
  have hd : u8L d := fun x hx => hl x (by rw [hb]; simp [hx])
  have hg := getF_lt d hd
  have hlen : d.length ≤ 7 := by rw [hb] at hn; simp at hn; omega
  have hp : (256 : Int) ^ d.length ≤ 256 ^ 7 := by
    have h9 : (256 : Nat) ^ d.length ≤ 256 ^ 7 := Nat.pow_le_pow_right (by decide) hlen
    have h8 : ((256 ^ d.length : Nat) : Int) ≤ ((256 ^ 7 : Nat) : Int) := Int.ofNat_le.2 h9
    rw [Int.natCast_pow, Int.natCast_pow] at h8
    exact h8
  have hp7 : (256 : Int) ^ 7 = 72057594037927936 := by decide
  rw [hp7] at hp
  have w : ∀ x : Int, IntKind.wrap .u64 x = x % 18446744073709551616 := fun _ => rfl
  refine ⟨by rw [w]; omega, by rw [w, show ((2 : Int) ^ min 8 IntKind.u64.bits) = 256 from rfl]; omega, ?_, f1, f2, f3, f4⟩
  rw [or_u64 (by omega) hc, getF_app]
end Caw

/-! Numbers of a text's bytes. -/
namespace Caw
open Go Go.RowKit
theorem zb_take (s : ByteArray) (i : Nat) (h : i < s.size) : (zb s).take (i + 1) = (zb s).take i ++ [(((s[i]'h).toNat : Nat) : Int)] := by
  have hl : i < (zb s).length := by rw [zb_len]; exact h
  rw [List.take_succ_eq_append_getElem hl]
  have : (zb s)[i]'hl = (((s[i]'h).toNat : Nat) : Int) := by
    simp only [zb, List.getElem_map, bl, Array.getElem_toList]
    rfl
  rw [this]
theorem getD_step {s : ByteArray} {i : Nat} {n : Int} (hn : n = getF ((zb s).take i)) (hi : i < s.size) (hs : s.size ≤ 8) :
    ∀ c : Int, ((s[i]'hi).toNat : Nat) = c → IntKind.wrap .u64 c = c ∧ IntKind.wrap .u64 (n * 256) = n * 256 ∧ IntKind.wrap .u64 (n * 256 + c) = n * 256 + c ∧ IntKind.wrap .i64 ((i : Int) + 1) = ((i + 1 : Nat) : Int) ∧
    n * 256 + c = getF ((zb s).take (i + 1)) := by
  rintro c rfl
  have hu : u8L ((zb s).take i) := fun x hx => zb_u8 s x (List.mem_of_mem_take hx)
  have hg := getF_lt _ hu
  have hlen : ((zb s).take i).length ≤ 7 := by rw [List.length_take, zb_len]; omega
  have hp : (256 : Int) ^ ((zb s).take i).length ≤ 256 ^ 7 := by
    have h9 : (256 : Nat) ^ ((zb s).take i).length ≤ 256 ^ 7 := Nat.pow_le_pow_right (by decide) hlen
    have h8 : ((256 ^ ((zb s).take i).length : Nat) : Int) ≤ ((256 ^ 7 : Nat) : Int) := Int.ofNat_le.2 h9
    rw [Int.natCast_pow, Int.natCast_pow] at h8
    exact h8
  have hp7 : (256 : Int) ^ 7 = 72057594037927936 := by decide
  rw [hp7] at hp
  rw [← hn] at hg
  have hc := (s[i]'hi).toNat_lt
  have w : ∀ x : Int, IntKind.wrap .u64 x = x % 18446744073709551616 := fun _ => rfl
  refine ⟨by rw [w]; omega, by rw [w]; omega, by rw [w]; omega, by rw [wrap_i64 (by omega)]; rfl, ?_⟩
  rw [zb_take s i hi, getF_app, ← hn]
theorem getD_fin {s : ByteArray} {i : Nat} {n : Int} (hn : n = getF ((zb s).take i)) (hi : ¬ i < s.size) : n = getF (zb s) := by
  rw [hn, List.take_of_length_le (by rw [zb_len]; omega)]
end Caw

/-! Messages of bytes, and bytes of messages, in plain words. -/
namespace Caw
open Go Go.RowKit
/-- A number in four bytes, the highest first. -/
def put4 (n : Int) : List Int := [n / 16777216 % 256, n / 65536 % 256, n / 256 % 256, n % 256]
theorem put4_u8 (n : Int) : u8L (put4 n) := by
  intro c hc
  simp only [put4, List.mem_cons, List.not_mem_nil, or_false] at hc
  rcases hc with rfl | rfl | rfl | rfl <;> omega
theorem get_put4 {n : Int} (h : 0 ≤ n ∧ n < 4294967296) : getF (put4 n) = n := by
  simp only [getF, put4, List.foldl]
  omega
/-- The message of bytes, and the error. -/
def openF (b : List Int) : Msg × Int :=
  if b.length < 12 then (⟨0, 0, 0, []⟩, 6)
  else if sumF b ≠ 65535 then (⟨0, 0, 0, []⟩, 8)
  else if b.getD 2 0 < 1 ∨ 7 < b.getD 2 0 ∨ b.getD 3 0 ≠ ((b.drop 12).length : Nat) ∨ 128 < (b.drop 12).length then (⟨0, 0, 0, []⟩, 7)
  else (⟨b.getD 2 0, getF ((b.drop 4).take 4), getF ((b.drop 8).take 4), b.drop 12⟩, 0)
def bodyF (m : Msg) : List Int := [m.kind, (m.data.length : Nat)] ++ put4 m.run ++ put4 m.num ++ m.data
def packF (m : Msg) : List Int × Int :=
  if m.kind < 1 ∨ 7 < m.kind then ([], 1)
  else if 128 < m.data.length then ([], 4)
  else ([(65535 - sumF (bodyF m)) / 256, (65535 - sumF (bodyF m)) % 256] ++ bodyF m, 0)
theorem sum_self {s : List Int} (h : u8L s) : sumF ((65535 - sumF s) / 256 :: (65535 - sumF s) % 256 :: s) = 65535 := by
  have hs := sum_sz h
  have hl := longB_nn s true h
  have he := sumF_eq h
  have h2 : u8L ((65535 - sumF s) / 256 :: (65535 - sumF s) % 256 :: s) := by
    intro c hc
    simp only [List.mem_cons] at hc
    rcases hc with rfl | rfl | hc
    · omega
    · omega
    · exact h c hc
  rw [sumF_eq h2]
  have e1 : longB true ((65535 - sumF s) / 256 :: (65535 - sumF s) % 256 :: s) = (65535 - sumF s) + longB true s := by
    simp only [longB, if_true, Bool.not_true, Bool.not_false]
    simp only [Bool.false_eq_true, if_false]
    omega
  rw [e1]
  generalize longB true s = L at *
  generalize sumF s = S at *
  unfold nrm at he ⊢
  split at he
  · subst he; simp [*]
  · split at he
    · subst he
      rename_i h3 h4
      have : (65535 - 65535 + L) = L := by omega
      rw [this, if_neg h3, if_pos h4]
    · have h5 : (65535 - S + L) % 65535 = 0 := by omega
      have h6 : ¬ (65535 - S + L = 0) := by omega
      rw [if_neg h6, if_pos h5]
theorem body_u8 {m : Msg} (hk : 1 ≤ m.kind ∧ m.kind ≤ 7) (hd : m.data.length ≤ 128) (hu : u8L m.data) : u8L (bodyF m) := by
  intro c hc
  simp only [bodyF, List.mem_append, List.mem_cons, List.not_mem_nil, or_false] at hc
  rcases hc with (((rfl | rfl) | hc) | hc) | hc
  · omega
  · omega
  · exact put4_u8 _ c hc
  · exact put4_u8 _ c hc
  · exact hu c hc
/-- What is packed is opened. -/
theorem open_pack {m : Msg} (hu : u8L m.data) (hr : 0 ≤ m.run ∧ m.run < 4294967296) (hn : 0 ≤ m.num ∧ m.num < 4294967296) (h : (packF m).2 = 0) : openF (packF m).1 = (m, 0) := by
  unfold packF at h ⊢
  split
  · rename_i h1; rw [if_pos h1] at h; simp at h
  rename_i h1
  rw [if_neg h1] at h
  split
  · rename_i h2; rw [if_pos h2] at h; simp at h
  rename_i h2
  have hk : 1 ≤ m.kind ∧ m.kind ≤ 7 := by omega
  have hd : m.data.length ≤ 128 := by omega
  have hs := sum_self (body_u8 hk hd hu)
  obtain ⟨kind, run, num, data⟩ := m
  simp only at hu hr hn hk hd hs ⊢
  unfold openF
  rw [if_neg (by simp [bodyF, put4])]
  have e0 : [(65535 - sumF (bodyF ⟨kind, run, num, data⟩)) / 256, (65535 - sumF (bodyF ⟨kind, run, num, data⟩)) % 256] ++ bodyF ⟨kind, run, num, data⟩ = (65535 - sumF (bodyF ⟨kind, run, num, data⟩)) / 256 :: (65535 - sumF (bodyF ⟨kind, run, num, data⟩)) % 256 :: bodyF ⟨kind, run, num, data⟩ := rfl
  rw [e0, if_neg (by rw [hs]; simp)]
  have hg1 := get_put4 hr
  have hg2 := get_put4 hn
  simp only [bodyF, put4, List.cons_append, List.nil_append, List.getD_cons_succ, List.getD_cons_zero, List.drop_succ_cons, List.drop_zero, List.take_succ_cons, List.take_zero] at *
  rw [if_neg (by omega), hg1, hg2]
end Caw
namespace Caw
open Go Go.RowKit
/-- The parts of bytes in the sizes 2, 1, 1, 4, 4, and the rest. -/
def offP : Nat → Nat
  | 0 => 0
  | 1 => 2
  | 2 => 3
  | 3 => 4
  | 4 => 8
  | _ => 12
def sizP : Nat → Nat
  | 0 => 2
  | 1 => 1
  | 2 => 1
  | _ => 4
def tP : Tg := some ((29, 0, 0), 1)
def partsP (b : List Int) : Nat → List AV
  | 0 => []
  | k + 1 => partsP b k ++ [.sl 1 (encB ((b.drop (offP k)).take (sizP k))) tP]
def outP (b : List Int) : Nat → AV
  | 0 => .v (.slice none 0 0)
  | k + 1 => .sl 1 (partsP b (k + 1)) (some ((31, 0, 0), 0))
def splitP (b : List Int) : List AV := if b.length < 12 then [] else partsP b 5 ++ [.sl 1 (encB (b.drop 12)) (some ((39, 0, 0), 1))]
def splitE (b : List Int) : Int := if b.length < 12 then 6 else 0
theorem cons12 {b : List Int} (h : ¬ b.length < 12) : ∃ c0 c1 c2 c3 c4 c5 c6 c7 c8 c9 c10 c11 r, b = c0 :: c1 :: c2 :: c3 :: c4 :: c5 :: c6 :: c7 :: c8 :: c9 :: c10 :: c11 :: r := by
  match b, h with
  | c0 :: c1 :: c2 :: c3 :: c4 :: c5 :: c6 :: c7 :: c8 :: c9 :: c10 :: c11 :: r, _ => exact ⟨c0, c1, c2, c3, c4, c5, c6, c7, c8, c9, c10, c11, r, rfl⟩
  | [], h | [_], h | [_, _], h | [_, _, _], h | [_, _, _, _], h | [_, _, _, _, _], h | [_, _, _, _, _, _], h | [_, _, _, _, _, _, _], h | [_, _, _, _, _, _, _, _], h | [_, _, _, _, _, _, _, _, _], h | [_, _, _, _, _, _, _, _, _, _], h | [_, _, _, _, _, _, _, _, _, _, _], h => simp at h
end Caw
namespace Caw
open Go Go.RowKit
def szsL : List AV := [.v (.int .i64 2), .v (.int .i64 1), .v (.int .i64 1), .v (.int .i64 4), .v (.int .i64 4)]
def dSzs : AV → Option Unit
  | .sl 1 [.v (.int .i64 a), .v (.int .i64 b), .v (.int .i64 c), .v (.int .i64 d), .v (.int .i64 e)] _ => if a = 2 ∧ b = 1 ∧ c = 1 ∧ d = 4 ∧ e = 4 then some () else none
  | _ => none
theorem dSzs_co {x : AV} {l : Unit} (h : dSzs x = some l) : CoPA x (.sl 1 szsL none) := by
  unfold dSzs at h
  split at h
  · split at h
    · rename_i hc
      obtain ⟨rfl, rfl, rfl, rfl, rfl⟩ := hc
      exact coPA_of (coP_sl _ _ _)
    · cases h
  · cases h
@[simp] theorem dSzs_sl (a b c d e : Int) (tg : Tg) : dSzs (.sl 1 [.v (.int .i64 a), .v (.int .i64 b), .v (.int .i64 c), .v (.int .i64 d), .v (.int .i64 e)] tg) = if a = 2 ∧ b = 1 ∧ c = 1 ∧ d = 4 ∧ e = 4 then some () else none := rfl
theorem splitP_of {b : List Int} (h : ¬ b.length < 12) : splitP b = partsP b 5 ++ [.sl 1 (encB (b.drop 12)) (some ((39, 0, 0), 1))] := if_neg h
/-- What a round of Split wants. -/
theorem split_ok {b : List Int} {o k : Nat} (h : o + k ≤ b.length) : ¬ (((b.length - o : Nat) : Int) < (k : Nat)) ∧ ((k : Nat) : Int) ≤ ((b.length - o : Nat) : Int) ∧ k ≤ b.length - o := by omega
theorem split_no {b : List Int} {o k : Nat} (h : ¬ o + k ≤ b.length) (ho : o ≤ b.length) : (((b.length - o : Nat) : Int) < (k : Nat)) ∧ b.length - o < k := by omega
end Caw
namespace Caw
open Go Go.RowKit
section
variable (c0 c1 c2 c3 c4 c5 c6 c7 c8 c9 c10 c11 : Int) (r : List Int)
theorem split12 : splitP (c0 :: c1 :: c2 :: c3 :: c4 :: c5 :: c6 :: c7 :: c8 :: c9 :: c10 :: c11 :: r) =
    [.sl 1 (encB [c0, c1]) tP, .sl 1 (encB [c2]) tP, .sl 1 (encB [c3]) tP, .sl 1 (encB [c4, c5, c6, c7]) tP, .sl 1 (encB [c8, c9, c10, c11]) tP, .sl 1 (encB r) (some ((39, 0, 0), 1))] := by
  rw [splitP_of (by simp)]
  simp [partsP, offP, sizP]
def badO (c2 c3 : Int) (r : List Int) : Prop := c2 < 1 ∨ 7 < c2 ∨ c3 ≠ (r.length : Nat) ∨ 128 < r.length
theorem open12_bad (hs : sumF (c0 :: c1 :: c2 :: c3 :: c4 :: c5 :: c6 :: c7 :: c8 :: c9 :: c10 :: c11 :: r) = 65535) (h : badO c2 c3 r) :
    openF (c0 :: c1 :: c2 :: c3 :: c4 :: c5 :: c6 :: c7 :: c8 :: c9 :: c10 :: c11 :: r) = (⟨0, 0, 0, []⟩, 7) := by
  unfold openF
  rw [if_neg (by simp), if_neg (by rw [hs]; simp), if_pos]
  simpa [badO] using h
theorem open12_ok (hs : sumF (c0 :: c1 :: c2 :: c3 :: c4 :: c5 :: c6 :: c7 :: c8 :: c9 :: c10 :: c11 :: r) = 65535) (h : ¬ badO c2 c3 r) :
    openF (c0 :: c1 :: c2 :: c3 :: c4 :: c5 :: c6 :: c7 :: c8 :: c9 :: c10 :: c11 :: r) = (⟨c2, getF [c4, c5, c6, c7], getF [c8, c9, c10, c11], r⟩, 0) := by
  unfold openF
  rw [if_neg (by simp), if_neg (by rw [hs]; simp), if_neg]
  · simp
  · simpa [badO] using h
theorem open12_facts (hu : u8L (c0 :: c1 :: c2 :: c3 :: c4 :: c5 :: c6 :: c7 :: c8 :: c9 :: c10 :: c11 :: r)) :
    u8L [c4, c5, c6, c7] ∧ u8L [c8, c9, c10, c11] ∧ u8L r ∧ IntKind.wrap .i64 c2 = c2 ∧ IntKind.wrap .i64 c3 = c3 ∧ IntKind.wrap .u32 (getF [c4, c5, c6, c7]) = getF [c4, c5, c6, c7] ∧ IntKind.wrap .u32 (getF [c8, c9, c10, c11]) = getF [c8, c9, c10, c11] := by
  have h1 : u8L [c4, c5, c6, c7] := fun c hc => hu c (by simp at hc ⊢; rcases hc with h | h | h | h <;> simp [h])
  have h2 : u8L [c8, c9, c10, c11] := fun c hc => hu c (by simp at hc ⊢; rcases hc with h | h | h | h <;> simp [h])
  have h3 : u8L r := fun c hc => hu c (by simp [hc])
  have h4 := hu c2 (by simp)
  have h5 := hu c3 (by simp)
  have g1 := getF_lt _ h1
  have g2 := getF_lt _ h2
  simp only [List.length_cons, List.length_nil] at g1 g2
  exact ⟨h1, h2, h3, wrap_i64 (by omega), wrap_i64 (by omega), wr_u32 (by omega), wr_u32 (by omega)⟩
end
theorem bad_cases (c2 c3 : Int) (r : List Int) : (badO c2 c3 r ∧ c2 < 1) ∨ (badO c2 c3 r ∧ ¬ c2 < 1 ∧ 7 < c2) ∨ (badO c2 c3 r ∧ ¬ c2 < 1 ∧ ¬ 7 < c2 ∧ ¬ c3 = (r.length : Nat)) ∨ (badO c2 c3 r ∧ ¬ c2 < 1 ∧ ¬ 7 < c2 ∧ c3 = (r.length : Nat) ∧ (128 : Int) < (r.length : Nat)) ∨
    (¬ badO c2 c3 r ∧ ¬ c2 < 1 ∧ ¬ 7 < c2 ∧ c3 = (r.length : Nat) ∧ ¬ (128 : Int) < (r.length : Nat)) := by
  unfold badO
  by_cases h1 : c2 < 1
  · exact .inl ⟨.inl h1, h1⟩
  by_cases h2 : 7 < c2
  · exact .inr (.inl ⟨.inr (.inl h2), h1, h2⟩)
  by_cases h3 : c3 = (r.length : Nat)
  · by_cases h4 : 128 < r.length
    · exact .inr (.inr (.inr (.inl ⟨.inr (.inr (.inr h4)), h1, h2, h3, by omega⟩)))
    · refine .inr (.inr (.inr (.inr ⟨?_, h1, h2, h3, by omega⟩)))
      rintro (h | h | h | h)
      · exact h1 h
      · exact h2 h
      · exact h h3
      · exact h4 h
  · exact .inr (.inr (.inl ⟨.inr (.inr (.inl h3)), h1, h2, h3⟩))
end Caw
theorem Caw.range5 : List.range 5 = [0, 1, 2, 3, 4] := rfl
theorem Caw.range4 : List.range 4 = [0, 1, 2, 3] := rfl

