/- Layer 20: the front as plain data: what each call makes of it. No walk. -/
import Derived.Test.YtblbgalpkodibaaDoorG5
import Derived.Test.YtblbgalpkodibaaDoorS5
namespace Go.Proofs.YtblbgalpkodibaaDoor
open Go.RowKit

def w64 (x : Int) : Int := x % 18446744073709551616
theorem w64_bd (x : Int) : 0 ≤ w64 x ∧ w64 x < 18446744073709551616 := by unfold w64; omega
theorem behind_w (pc size : Int) : behind pc size = if size = 2 then w64 (pc + 2) else w64 (pc + 4) := by
  unfold behind w64; rw [IntKind.wrap_u64, IntKind.wrap_u64]
theorem dull_next {c : St} (h : ∀ i, i < 48 → c i = 0) (pc s : Int) : nOut c pc s = behind pc s ∧ nSt c pc s = c := by
  have hr := rowN_lt pc
  have e : rk c pc = 0 := by
    unfold rk
    split
    · exact h _ (by omega)
    · rfl
  unfold nOut nSt
  rw [e]
  simp
theorem nOut_bd {c : St} (hg : GI c) (pc s : Int) : 0 ≤ nOut c pc s ∧ nOut c pc s < 18446744073709551616 := by
  have hr := rowN_lt pc
  have h1 := hg.row (rowN pc * 3 + 1) (by omega) (by omega)
  have hb := behind_bd pc s
  have hz := hg.size
  have hs := hg.stk (c 116 - 1).toNat
  unfold nOut
  split
  · split
    · exact h1
    · exact hb
  · split
    · exact h1
    · split
      · split
        · exact h1
        · exact hs (by omega)
      · exact hb
theorem or32_lt (a b : Nat) : or32 a b < 4294967296 := Nat.mod_lt _ (by decide)
theorem cond_lt {b : Bool} {x y n : Nat} (hx : x < n) (hy : y < n) : (bif b then x else y) < n := by cases b <;> assumption
theorem exN_bd (h : Nat) : exN h < 4294967296 := by
  unfold exN
  refine cond_lt ?_ (cond_lt ?_ (cond_lt ?_ (by decide)))
  · unfold firstN firstK nI nS
    repeat' (first | exact or32_lt _ _ | decide | apply cond_lt)
  · unfold secondN secondK workN workK nI nB nJ nR
    repeat' (first | exact or32_lt _ _ | decide | apply cond_lt)
  · unfold thirdN thirdK nI nS nR
    repeat' (first | exact or32_lt _ _ | decide | apply cond_lt)
/-- An item: seven numbers and the guess's mark (its cells 112 to 117). -/
structure It where
  pc : Int
  bits : Int
  inst : Int
  size : Int
  cause : Int
  tval : Int
  nxt : Int
  m : St
/-- The front: place, first half, whether it is there, whether it has stopped, the queue. -/
structure Fr where
  at_ : Int
  first : Int
  some : Bool
  stop : Bool
  q : List It
theorem z64 : (0 : Int) ≤ 0 ∧ (0 : Int) < 18446744073709551616 := by decide
theorem z32 : (0 : Int) ≤ 0 ∧ (0 : Int) < 4294967296 := by decide
theorem z4 : (0 : Int) ≤ 0 ∧ (0 : Int) ≤ 4 := by decide
theorem two_ne : (2 : Int) ≠ 0 := by decide
def evn (x : Int) : Int := x / 2 * 2
theorem evn_bd {x : Int} (h : 0 ≤ x ∧ x < 18446744073709551616) : 0 ≤ evn x ∧ evn x < 18446744073709551616 := by unfold evn; omega
theorem evn_even (x : Int) : evn x % 2 = 0 := by unfold evn; omega
def newF (pc : Int) : Fr := ⟨evn pc, 0, false, false, []⟩
/-- Is something wanted? -/
def canF (F : Fr) : Bool := !F.stop && decide (F.q.length < 8)
/-- Where. -/
def atF (F : Fr) : Int := if F.some then w64 (F.at_ + 2) else F.at_
def wItem (F : Fr) (c : St) (bits inst size : Int) : It := ⟨F.at_, bits, inst, size, 0, 0, evn (nOut c F.at_ size), c⟩
def wholeF (F : Fr) (c : St) (bits inst size : Int) : Fr := { F with at_ := evn (nOut c F.at_ size), some := false, q := F.q ++ [wItem F c bits inst size] }
def trapF (F : Fr) (bits size cause tval : Int) : Fr := { F with stop := true, q := F.q ++ [⟨F.at_, bits, 0, size, cause, tval, 0, Z0⟩] }
def giveF (F : Fr) (c : St) (h : Nat) : Fr :=
  bif !canF F then F
  else bif F.some then wholeF F c (h * 65536 + F.first) (h * 65536 + F.first) 4
  else bif and16 h 3 == 3 then { F with first := h, some := true }
  else bif exN h == 0 then trapF F h 2 2 h
  else wholeF F c h (exN h) 2
def giveC (F : Fr) (c : St) (h : Nat) : St :=
  bif !canF F then c
  else bif F.some then nSt c F.at_ 4
  else bif and16 h 3 == 3 then c
  else bif exN h == 0 then c
  else nSt c F.at_ 2
def failF (F : Fr) (cause : Int) : Fr := bif canF F then trapF F 0 0 cause (atF F) else F
def takeF (F : Fr) : Fr := { F with q := F.q.drop 1 }
/-- A mark's numbers. -/
structure MB (c : St) : Prop where
  stk : ∀ i, i < 4 → 0 ≤ c (112 + i) ∧ c (112 + i) < 18446744073709551616
  size : 0 ≤ c 116 ∧ c 116 ≤ 4
  hist : 0 ≤ c 117 ∧ c 117 < 64
theorem GI.mb {c : St} (h : GI c) : MB c := ⟨h.stk, h.size, h.hist⟩
theorem mb_zero : MB Z0 := ⟨fun i _ => by unfold Z0; decide, by unfold Z0; decide, by unfold Z0; decide⟩
structure II (x : It) : Prop where
  pc : 0 ≤ x.pc ∧ x.pc < 18446744073709551616
  bits : 0 ≤ x.bits ∧ x.bits < 4294967296
  inst : 0 ≤ x.inst ∧ x.inst < 4294967296
  size : 0 ≤ x.size ∧ x.size ≤ 4
  cause : 0 ≤ x.cause ∧ x.cause < 18446744073709551616
  tval : 0 ≤ x.tval ∧ x.tval < 18446744073709551616
  nxt : 0 ≤ x.nxt ∧ x.nxt < 18446744073709551616
  evn : x.pc % 2 = 0 ∧ x.nxt % 2 = 0
  mrk : MB x.m
structure FI (F : Fr) : Prop where
  at_ : 0 ≤ F.at_ ∧ F.at_ < 18446744073709551616
  evn : F.at_ % 2 = 0
  first : 0 ≤ F.first ∧ F.first < 65536
  low : F.some = true → and16 F.first.toNat 3 = 3
  len : F.q.length ≤ 8
  all : ∀ x ∈ F.q, II x
theorem FI.new {pc : Int} (h : 0 ≤ pc ∧ pc < 18446744073709551616) : FI (newF pc) where
  at_ := evn_bd h
  evn := evn_even pc
  first := ⟨Int.le_refl 0, show (0 : Int) < 65536 by decide⟩
  low h := by cases h
  len := by simp [newF]
  all x hx := by simp [newF] at hx
theorem atF_bd {F : Fr} (h : FI F) : 0 ≤ atF F ∧ atF F < 18446744073709551616 := by
  have := h.at_
  unfold atF w64
  split <;> omega
theorem can_len {F : Fr} (h : canF F = true) : F.q.length < 8 := by
  unfold canF at h
  simp at h
  exact h.2
theorem all_snoc {q : List It} {y : It} (h : ∀ x ∈ q, II x) (hy : II y) : ∀ x ∈ q ++ [y], II x := by
  intro x hx
  rcases List.mem_append.1 hx with hx | hx
  · exact h x hx
  · rw [List.mem_singleton.1 hx]; exact hy
theorem FI.whole {F : Fr} (h : FI F) (hc : canF F = true) {c : St} (hg : GI c) {bits inst size : Int} (hb : 0 ≤ bits ∧ bits < 4294967296) (hi : 0 ≤ inst ∧ inst < 4294967296) (hs : 0 ≤ size ∧ size ≤ 4) : FI (wholeF F c bits inst size) where
  at_ := evn_bd (nOut_bd hg _ _)
  evn := evn_even _
  first := h.first
  low e := by cases e
  len := by have := can_len hc; simp [wholeF]; omega
  all := all_snoc h.all ⟨h.at_, hb, hi, hs, z64, z64, evn_bd (nOut_bd hg _ _), ⟨h.evn, evn_even _⟩, hg.mb⟩
theorem FI.trap {F : Fr} (h : FI F) (hc : canF F = true) {bits size cause tval : Int} (hb : 0 ≤ bits ∧ bits < 4294967296) (hs : 0 ≤ size ∧ size ≤ 4) (hu : 0 ≤ cause ∧ cause < 18446744073709551616) (ht : 0 ≤ tval ∧ tval < 18446744073709551616) : FI (trapF F bits size cause tval) where
  at_ := h.at_
  evn := h.evn
  first := h.first
  low := h.low
  len := by have := can_len hc; simp [trapF]; omega
  all := all_snoc h.all ⟨h.at_, hb, z32, hs, hu, ht, z64, ⟨h.evn, rfl⟩, mb_zero⟩
theorem FI.fail {F : Fr} (h : FI F) {cause : Int} (hu : 0 ≤ cause ∧ cause < 18446744073709551616) : FI (failF F cause) := by
  unfold failF
  cases hc : canF F
  · exact h
  · exact h.trap hc z32 z4 hu (atF_bd h)
theorem FI.take {F : Fr} (h : FI F) : FI (takeF F) where
  at_ := h.at_
  evn := h.evn
  first := h.first
  low := h.low
  len := by have := h.len; simp [takeF]; omega
  all x hx := h.all x (List.mem_of_mem_drop hx)
theorem FI.give {F : Fr} (h : FI F) {c : St} (hg : GI c) {n : Nat} (hn : n < 65536) : FI (giveF F c n) := by
  have hf := h.first
  have he := exN_bd n
  unfold giveF
  cases hc : canF F
  · exact h
  cases hs : F.some
  · cases ha : and16 n 3 == 3
    · cases hx : exN n == 0
      · exact h.whole hc hg (by omega) (by omega) (by omega)
      · exact h.trap hc (by omega) (by omega) (by omega) (by omega)
    · exact ⟨h.at_, h.evn, ⟨by simp, by simp; omega⟩, fun _ => by simpa using ha, h.len, h.all⟩
  · exact h.whole hc hg (by omega) (by omega) (by omega)

/-- A guess that has learned nothing. -/
def Dull (c : St) : Prop := ∀ i, i < 48 → c i = 0

/-- Each item leads to the next one, the last one to the place; behind a trap there is nothing. -/
def Chain : Int → List It → Int → Bool → Prop
  | n, [], a, s => n = a ∧ s = false
  | n, x :: q, a, s => x.pc = n ∧ ((x.cause = 0 ∧ Chain x.nxt q a s) ∨ (x.cause ≠ 0 ∧ q = [] ∧ s = true))
theorem Chain.snoc {y : It} {b : Int} (hy : y.nxt = b) (hz : y.cause = 0) : ∀ {q : List It} {n : Int}, Chain n q y.pc false → Chain n (q ++ [y]) b false
  | [], n, h => by
    obtain ⟨h, _⟩ := h
    exact ⟨h.symm, .inl ⟨hz, hy, rfl⟩⟩
  | x :: q, n, h => by
    obtain ⟨h, ⟨k, hq⟩ | ⟨_, _, hq⟩⟩ := h
    · exact ⟨h, .inl ⟨k, Chain.snoc hy hz hq⟩⟩
    · cases hq
theorem Chain.trap {y : It} {b : Int} (hz : y.cause ≠ 0) : ∀ {q : List It} {n : Int}, Chain n q y.pc false → Chain n (q ++ [y]) b true
  | [], n, h => by
    obtain ⟨h, _⟩ := h
    exact ⟨h.symm, .inr ⟨hz, rfl, rfl⟩⟩
  | x :: q, n, h => by
    obtain ⟨h, ⟨k, hq⟩ | ⟨_, _, hq⟩⟩ := h
    · exact ⟨h, .inl ⟨k, Chain.trap hz hq⟩⟩
    · cases hq
theorem can_stop {F : Fr} (h : canF F = true) : F.stop = false := by
  unfold canF at h
  simp at h
  exact h.1
theorem Chain.give {F : Fr} {c : St} {n : Nat} {k : Int} (h : Chain k F.q F.at_ F.stop) : Chain k (giveF F c n).q (giveF F c n).at_ (giveF F c n).stop := by
  unfold giveF
  cases hc : canF F
  · exact h
  have hs := can_stop hc
  rw [hs] at h
  have hw : ∀ b i s, Chain k (wholeF F c b i s).q (wholeF F c b i s).at_ (wholeF F c b i s).stop := fun b i s => by
    show Chain k (F.q ++ [wItem F c b i s]) (wItem F c b i s).nxt F.stop
    rw [hs]
    exact Chain.snoc rfl rfl h
  cases F.some
  · cases and16 n 3 == 3
    · cases exN n == 0
      · exact hw _ _ _
      · exact Chain.trap (y := ⟨F.at_, n, 0, 2, 2, n, 0, Z0⟩) two_ne h
    · show Chain k F.q F.at_ F.stop
      rw [hs]; exact h
  · exact hw _ _ _
theorem giveC_dull {F : Fr} {c : St} (hd : Dull c) (n : Nat) : giveC F c n = c := by
  unfold giveC
  cases canF F
  · rfl
  cases F.some
  · cases and16 n 3 == 3
    · cases exN n == 0
      · exact (dull_next hd F.at_ 2).2
      · rfl
    · rfl
  · exact (dull_next hd F.at_ 4).2
theorem evn_behind {a s : Int} (he : a % 2 = 0) (hs : s = 2 ∨ s = 4) : evn (behind a s) = w64 (a + s) := by
  rw [behind_w]
  unfold evn w64
  rcases hs with rfl | rfl
  · rw [if_pos rfl]; omega
  · rw [if_neg (by decide)]; omega
/-- The state at the head of a round of FetchRow: t halves are taken, i are given. -/
structure RowI (l : List Nat) (a : Int) (F : Fr) (c : St) (t i : Nat) : Prop where
  I : FI F
  gi : GI c
  q : F.q = []
  stop : F.stop = false
  dull : Dull c
  at_ : F.at_ = w64 (a + 2 * t)
  none : F.some = false → i = t
  one : F.some = true → i = t + 1 ∧ ∃ h : Nat, l[t]? = some h ∧ F.first = h
theorem RowI.can {l : List Nat} {a : Int} {F : Fr} {c : St} {t i : Nat} (h : RowI l a F c t i) : canF F = true := by
  unfold canF; rw [h.stop, h.q]; rfl
theorem RowI.want {l : List Nat} {a : Int} {F : Fr} {c : St} {t i : Nat} (h : RowI l a F c t i) : atF F = w64 (a + 2 * i) := by
  unfold atF
  rw [h.at_]
  cases hs : F.some
  · rw [h.none hs]; rfl
  · rw [(h.one hs).1]
    simp only [if_true]
    unfold w64; omega
theorem RowI.new (l : List Nat) {pc : Int} (h : 0 ≤ pc ∧ pc < 18446744073709551616) {c : St} (hg : GI c) (hd : Dull c) : RowI l (evn pc) (newF pc) c 0 0 where
  I := FI.new h
  gi := hg
  q := rfl
  stop := rfl
  dull := hd
  at_ := by have := evn_bd h; unfold w64 newF; simp only; omega
  none _ := rfl
  one e := by cases e
/-- What a round of FetchRow brings. -/
inductive RowStep (l : List Nat) (a : Int) (F : Fr) (c : St) (t i h : Nat) : Prop
  | first (q : (giveF F c h).q = []) (next : RowI l a (giveF F c h) c t (i + 1))
  | trap (x : It) (q : (giveF F c h).q = [x]) (stop : (giveF F c h).stop = true) (pc : x.pc = w64 (a + 2 * t)) (cause : x.cause = 2) (tval : x.tval = h) (short : and16 h 3 ≠ 3) (none : exN h = 0) (ti : t = i)
  | short (x : It) (q : (giveF F c h).q = [x]) (pc : x.pc = w64 (a + 2 * t)) (cause : x.cause = 0) (size : x.size = 2) (nxt : x.nxt = w64 (x.pc + 2)) (bits : x.bits = h) (inst : x.inst = exN h) (some_ : exN h ≠ 0) (ti : t = i) (next : RowI l a (takeF (giveF F c h)) c (t + 1) (i + 1))
  | long (x : It) (f : Nat) (q : (giveF F c h).q = [x]) (pc : x.pc = w64 (a + 2 * t)) (cause : x.cause = 0) (size : x.size = 4) (nxt : x.nxt = w64 (x.pc + 4)) (bits : x.bits = h * 65536 + f) (inst : x.inst = h * 65536 + f) (low : and16 f 3 = 3) (fst_ : l[t]? = some f) (ti : i = t + 1) (next : RowI l a (takeF (giveF F c h)) c (t + 2) (i + 1))
theorem RowI.step {l : List Nat} {a : Int} {F : Fr} {c : St} {t i h : Nat} (H : RowI l a F c t i) (hh : h < 65536) (hl : l[i]? = some h) : RowStep l a F c t i h := by
  have hI := H.I.give H.gi hh
  have hc := H.can
  have hq := H.q
  have ha := H.at_
  cases hs : F.some
  · have ti := H.none hs
    cases h3 : and16 h 3 == 3
    · have h3' : and16 h 3 ≠ 3 := by simpa using h3
      cases hx : exN h == 0
      · have e : giveF F c h = wholeF F c h (exN h) 2 := by unfold giveF; rw [hc, hs, h3, hx]; rfl
        have en : evn (nOut c F.at_ 2) = w64 (F.at_ + 2) := by rw [(dull_next H.dull _ _).1]; exact evn_behind H.I.evn (.inl rfl)
        rw [e] at hI
        refine .short (wItem F c h (exN h) 2) (by rw [e]; unfold wholeF; rw [hq]; rfl) ha rfl rfl en rfl rfl (by simpa using hx) ti.symm ?_
        rw [e]
        exact ⟨hI.take, H.gi, by unfold takeF wholeF; rw [hq]; rfl, H.stop, H.dull, by show evn _ = _; rw [en, ha]; unfold w64; omega, fun _ => by omega, fun e => by cases e⟩
      · have e : giveF F c h = trapF F h 2 2 h := by unfold giveF; rw [hc, hs, h3, hx]; rfl
        refine .trap ⟨F.at_, h, 0, 2, 2, h, 0, Z0⟩ (by rw [e]; unfold trapF; rw [hq]; rfl) (by rw [e]; rfl) ha rfl rfl h3' (by simpa using hx) ti.symm
    · have e : giveF F c h = { F with first := h, some := true } := by unfold giveF; rw [hc, hs, h3]; rfl
      rw [e] at hI
      refine .first (by rw [e]; exact hq) ?_
      rw [e]
      exact ⟨hI, H.gi, hq, H.stop, H.dull, ha, fun e => (by cases e), fun _ => ⟨by omega, h, by rw [← ti]; exact hl, rfl⟩⟩
  · obtain ⟨ti, f, hf, ef⟩ := H.one hs
    have e : giveF F c h = wholeF F c (h * 65536 + F.first) (h * 65536 + F.first) 4 := by unfold giveF; rw [hc, hs]; rfl
    have en : evn (nOut c F.at_ 4) = w64 (F.at_ + 4) := by rw [(dull_next H.dull _ _).1]; exact evn_behind H.I.evn (.inr rfl)
    have lw := H.I.low hs
    rw [ef] at lw
    rw [e] at hI
    refine .long (wItem F c (h * 65536 + F.first) (h * 65536 + F.first) 4) f (by rw [e]; unfold wholeF; rw [hq]; rfl) ha rfl rfl en (by show _ * _ + F.first = _; rw [ef]) (by show _ * _ + F.first = _; rw [ef]) lw hf ti ?_
    rw [e]
    exact ⟨hI.take, H.gi, by unfold takeF wholeF; rw [hq]; rfl, H.stop, H.dull, by show evn _ = _; rw [en, ha]; unfold w64; omega, fun _ => by omega, fun e => by cases e⟩
/-- The halves that items have. -/
theorem take_one {l : List Nat} {t h : Nat} (hl : l[t]? = some h) : l.take (t + 1) = l.take t ++ [h] := by
  rw [List.take_add_one, hl]; rfl
theorem take_two {l : List Nat} {t f h : Nat} (hf : l[t]? = some f) (hh : l[t + 1]? = some h) : l.take (t + 2) = l.take t ++ [f, h] := by
  rw [take_one (t := t + 1) hh, take_one hf, List.append_assoc]; rfl
/-- Many halves given. -/
def givesF (F : Fr) (c : St) : List Nat → Fr × St
  | [] => (F, c)
  | h :: l => givesF (giveF F c h) (giveC F c h) l
theorem givesF_snoc (F : Fr) (c : St) (l : List Nat) (h : Nat) : givesF F c (l ++ [h]) = (giveF (givesF F c l).1 (givesF F c l).2 h, giveC (givesF F c l).1 (givesF F c l).2 h) := by
  induction l generalizing F c with
  | nil => rfl
  | cons x l ih => exact ih _ _
end Go.Proofs.YtblbgalpkodibaaDoor
