/- Layer 15: the eight places; the two tables as assertions. -/
import Derived.Test.YtlkkmpfhhfaioaaT1
import Derived.Deep.MidRow
namespace Go.Proofs.Ytlkkmpfhhfaioaa
open Go.RowKit

/-- The places: what is kept at each. -/
def Slots := Nat → Option E
def ent (S : Slots) (n : Nat) : E := (S n).getD E.zero
def put (S : Slots) (n : Nat) (o : Option E) : Slots := fun i => if i = n then o else S i
structure Inv (S : Slots) : Prop where
  ok : ∀ n e, S n = some e → e.ok
  uniq : ∀ n m e f, S n = some e → S m = some f → n < 8 → m < 8 → e.key = f.key → n = m
theorem Inv.ent {S : Slots} (h : Inv S) (n : Nat) : (ent S n).ok := by
  unfold Go.Proofs.Ytlkkmpfhhfaioaa.ent
  cases hs : S n with
  | none => exact E.zero_ok
  | some e => exact h.ok n e hs
def L40 (S : Slots) : List Value := (List.range 40).map fun i => (ent S (i / 5)).cs.getD (i % 5) undef
def L8 (S : Slots) : List Value := (List.range 8).map fun i => .bool (S i).isSome
def tcs (seed : Int) (bm : Nat) (S : Slots) : List Value := (List.range 50).map fun i => if i = 0 then .int .u64 seed else if i = 1 then .map (some bm) else if i < 42 then (ent S ((i - 2) / 5)).cs.getD ((i - 2) % 5) undef else .bool (S (i - 42)).isSome
theorem L40_get (S : Slots) (i : Nat) : (L40 S)[i]? = if i < 40 then some ((ent S (i / 5)).cs.getD (i % 5) undef) else none := by
  unfold L40; rw [List.getElem?_map]; by_cases h : i < 40 <;> simp [h]
theorem L8_get (S : Slots) (i : Nat) : (L8 S)[i]? = if i < 8 then some (.bool (S i).isSome) else none := by
  unfold L8; rw [List.getElem?_map]; by_cases h : i < 8 <;> simp [h]
theorem tcs_get (seed : Int) (bm : Nat) (S : Slots) (i : Nat) : (tcs seed bm S)[i]? = if i < 50 then some (if i = 0 then .int .u64 seed else if i = 1 then .map (some bm) else if i < 42 then (ent S ((i - 2) / 5)).cs.getD ((i - 2) % 5) undef else .bool (S (i - 42)).isSome) else none := by
  unfold tcs; rw [List.getElem?_map]; by_cases h : i < 50 <;> simp [h]

theorem e_cs_get (e : E) (j : Nat) (h : j < 5) : e.cs[j]? = some (e.cs.getD j undef) := by
  rw [List.getD_eq_getElem?_getD, List.getElem?_eq_getElem (by simpa [E.cs] using h)]; rfl
theorem ent_put (S : Slots) (n : Nat) (o : Option E) (i : Nat) : ent (put S n o) i = if i = n then o.getD E.zero else ent S i := by
  unfold ent put; split <;> rfl
theorem L40_put (S : Slots) (n : Nat) (hn : n < 8) (o : Option E) : setL (L40 S) (n * 5) (o.getD E.zero).cs = L40 (put S n o) := by
  apply List.ext_getElem?
  intro i
  rw [setL_get _ _ _ _ (by simp [L40, E.cs]; omega), L40_get, L40_get, ent_put]
  have hl : (o.getD E.zero).cs.length = 5 := rfl
  rw [hl]
  by_cases h : n * 5 ≤ i ∧ i < n * 5 + 5
  · rw [if_pos h, if_pos (by omega), if_pos (by omega), e_cs_get _ _ (by omega)]
    congr 2; omega
  · rw [if_neg h]
    by_cases h2 : i < 40
    · rw [if_pos h2, if_pos h2, if_neg (by omega)]
    · rw [if_neg h2, if_neg h2]
theorem L8_put (S : Slots) (n : Nat) (hn : n < 8) (o : Option E) : (L8 S).set n (.bool o.isSome) = L8 (put S n o) := by
  apply List.ext_getElem?
  intro i
  rw [List.getElem?_set, L8_get, L8_get]
  unfold put
  by_cases h : n = i
  · subst h
    simp [L8, hn]
  · have h' : ¬ i = n := fun e => h e.symm
    simp [h, h']
theorem tcs_put (seed : Int) (bm : Nat) (S : Slots) (n : Nat) (hn : n < 8) (o : Option E) : (setL (tcs seed bm S) (2 + n * 5) (o.getD E.zero).cs).set (42 + n) (.bool o.isSome) = tcs seed bm (put S n o) := by
  apply List.ext_getElem?
  intro i
  have hl : (o.getD E.zero).cs.length = 5 := rfl
  rw [List.getElem?_set, setL_get _ _ _ _ (by simp [tcs, hl]; omega), setL_len, tcs_get, tcs_get, ent_put, hl]
  have ht : (tcs seed bm S).length = 50 := by simp [tcs]
  rw [ht]
  by_cases h1 : 42 + n = i
  · rw [if_pos h1, if_pos (by omega), if_pos (by omega), if_neg (by omega), if_neg (by omega), if_neg (by omega)]
    unfold put
    rw [if_pos (by omega)]
  · rw [if_neg h1]
    by_cases h : 2 + n * 5 ≤ i ∧ i < 2 + n * 5 + 5
    · rw [if_pos h, if_pos (by omega), if_neg (by omega), if_neg (by omega), if_pos (by omega), if_pos (by omega), e_cs_get _ _ (by omega)]
      congr 2; omega
    · rw [if_neg h]
      by_cases h50 : i < 50
      · rw [if_pos h50, if_pos h50]
        by_cases h0 : i = 0
        · simp [h0]
        · by_cases h1' : i = 1
          · simp [h1']
          · by_cases h42 : i < 42
            · rw [if_neg h0, if_neg h1', if_pos h42, if_neg h0, if_neg h1', if_pos h42, if_neg (by omega)]
            · rw [if_neg h0, if_neg h1', if_neg h42, if_neg h0, if_neg h1', if_neg h42]
              unfold put
              rw [if_neg (by omega)]
      · rw [if_neg h50, if_neg h50]
theorem tcs_seed (seed seed' : Int) (bm : Nat) (S : Slots) : (tcs seed bm S).set 0 (.int .u64 seed') = tcs seed' bm S := by
  apply List.ext_getElem?
  intro i
  rw [List.getElem?_set, tcs_get, tcs_get]
  have ht : (tcs seed bm S).length = 50 := by simp [tcs]
  rw [ht]
  by_cases h : 0 = i
  · subst h; simp
  · rw [if_neg h]
    have h0 : ¬ i = 0 := fun e => h e.symm
    rw [if_neg h0, if_neg h0]
/-- The array of entries, within the table's block. -/
theorem tcs_range (seed : Int) (bm : Nat) (S : Slots) : ((tcs seed bm S).drop 2).take 40 = L40 S := by
  apply List.ext_getElem?
  intro i
  rw [List.getElem?_take, List.getElem?_drop, tcs_get, L40_get]
  by_cases h : i < 40
  · rw [if_pos h, if_pos (by omega), if_pos h, if_neg (by omega), if_neg (by omega), if_pos (by omega), show 2 + i - 2 = i by omega]
  · rw [if_neg h, if_neg h]
theorem tcs_full (seed : Int) (bm : Nat) (S : Slots) : ((tcs seed bm S).drop 42).take 8 = L8 S := by
  apply List.ext_getElem?
  intro i
  rw [List.getElem?_take, List.getElem?_drop, tcs_get, L8_get]
  by_cases h : i < 8
  · rw [if_pos h, if_pos (by omega), if_pos h, if_neg (by omega), if_neg (by omega), if_neg (by omega), show 42 + i - 42 = i by omega]
  · rw [if_neg h, if_neg h]

def place (S : Slots) (k : K) : Option Nat := (List.range 8).find? fun n => match S n with | some e => decide (e.key = k) | none => false
def plF (S : Slots) (k : K) : Option Value := (place S k).map fun n => .int .i64 (n : Int)
def HP.tl (b : Nat) (seed : Int) (S : Slots) : HP := HP.any fun bm => HP.und (Inv S ∧ 0 ≤ seed ∧ seed < 18446744073709551616) ((HP.blk b (tcs seed bm S).toArray 58).star (HP.mp K.enc K.ok bm (plF S)))
def HP.tr (b : Nat) (seed : Int) (S : Slots) : HP := HP.any fun v : Value × Value => HP.und (Inv S ∧ 0 ≤ seed ∧ seed < 18446744073709551616) ((HP.blk b #[v.1, v.2, .int .u64 seed] 61).star ((HP.slw v.1 5 8 (L40 S)).star (HP.slw v.2 1 8 (L8 S))))
section
variable {w0 w : World} {L : List HP} {b : Nat} {seed : Int} {S : Slots}
theorem Heap.tl : Heap w0 w (HP.tl b seed S :: L) ↔ ∃ bm, (Inv S ∧ 0 ≤ seed ∧ seed < 18446744073709551616) ∧ Heap w0 w (HP.blk b (tcs seed bm S).toArray 58 :: HP.mp K.enc K.ok bm (plF S) :: L) := by
  simp only [HP.tl, Heap.any, Heap.und, Heap.star]
theorem Heap.tr : Heap w0 w (HP.tr b seed S :: L) ↔ ∃ v : Value × Value, (Inv S ∧ 0 ≤ seed ∧ seed < 18446744073709551616) ∧ Heap w0 w (HP.blk b #[v.1, v.2, .int .u64 seed] 61 :: HP.slw v.1 5 8 (L40 S) :: HP.slw v.2 1 8 (L8 S) :: L) := by
  simp only [HP.tr, Heap.any, Heap.und, Heap.star]
  constructor
  · rintro ⟨v, h1, h2⟩
    refine ⟨v, h1, ?_⟩
    exact (Heap.star.1 h2.f2).f3
  · rintro ⟨v, h1, h2⟩
    refine ⟨v, h1, ?_⟩
    exact (Heap.star.2 h2.b3).f2
end
theorem GN.heap {w w' : World} {b : Nat} {o : Obj} (h : GN w w') (hb : w.heap[b]? = some o) : w'.heap[b]? = some o := (World.grownBy.block h b (lt_of_heap' hb) (by simp)).trans hb

/-! ### looking -/
def hit (S : Slots) (sp a : Int) (n : Nat) : Option E := match S n with
  | some e => if hasB e a && (e.gl || decide (e.sp = sp)) then some e else none
  | none => none
def findS (S : Slots) (sp a : Int) : Option E := (List.range 8).findSome? (hit S sp a)
theorem findS_at {S : Slots} {sp a : Int} {k : Nat} (hk : k < 8) (h : ∀ j, j < k → hit S sp a j = none) {e : E} (he : hit S sp a k = some e) : findS S sp a = some e := by
  unfold findS
  have hr : List.range 8 = List.range k ++ (k :: List.range' (k + 1) (8 - k - 1)) := by
    rw [List.range_eq_range', show (8 : Nat) = k + (1 + (8 - k - 1)) by omega, ← List.range'_append_1, List.range_eq_range']
    congr 1
    rw [Nat.add_comm 1, List.range'_succ, Nat.zero_add]
    congr 2
    omega
  rw [hr, List.findSome?_append, List.findSome?_eq_none_iff.2 (fun x hx => h x (List.mem_range.1 hx))]
  simp [he]
theorem findS_none {S : Slots} {sp a : Int} (h : ∀ j, j < 8 → hit S sp a j = none) : findS S sp a = none := by
  unfold findS
  exact List.findSome?_eq_none_iff.2 (fun x hx => h x (List.mem_range.1 hx))
end Go.Proofs.Ytlkkmpfhhfaioaa
