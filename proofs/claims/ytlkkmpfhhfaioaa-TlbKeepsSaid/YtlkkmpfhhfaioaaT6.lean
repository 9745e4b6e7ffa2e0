/- Layer 15: which place an entry gets: in plain Lean. -/
import Derived.Test.YtlkkmpfhhfaioaaT5
namespace Go.Proofs.Ytlkkmpfhhfaioaa
open Go.RowKit

theorem place_some {S : Slots} {k : K} {n : Nat} (h : place S k = some n) : n < 8 ∧ ∃ e, S n = some e ∧ e.key = k := by
  unfold place at h
  have h1 := List.find?_some h
  have h2 := List.mem_of_find?_eq_some h
  refine ⟨List.mem_range.1 h2, ?_⟩
  cases hs : S n with
  | none => rw [hs] at h1; cases h1
  | some e => rw [hs] at h1; exact ⟨e, rfl, of_decide_eq_true h1⟩
theorem place_none {S : Slots} {k : K} (h : place S k = none) : ∀ n e, n < 8 → S n = some e → e.key ≠ k := by
  intro n e hn hs hk
  unfold place at h
  have := List.find?_eq_none.1 h n (List.mem_range.2 hn)
  rw [hs] at this
  simp [hk] at this
theorem place_of {S : Slots} (hI : Inv S) {n : Nat} {e : E} (hn : n < 8) (hs : S n = some e) : place S e.key = some n := by
  cases hp : place S e.key with
  | none => exact absurd rfl (place_none hp n e hn hs)
  | some m =>
    obtain ⟨hm, f, hf, hk⟩ := place_some hp
    rw [hI.uniq m n f e hf hs hm hn hk]
theorem Inv.put_none {S : Slots} (h : Inv S) (n : Nat) : Inv (put S n none) := by
  refine ⟨fun m e hm => ?_, fun m l e f hm hl m8 l8 hk => ?_⟩
  · unfold put at hm
    split at hm
    · cases hm
    · exact h.ok m e hm
  · unfold put at hm hl
    split at hm
    · cases hm
    · split at hl
      · cases hl
      · exact h.uniq m l e f hm hl m8 l8 hk
theorem Inv.put_some {S : Slots} (h : Inv S) {n : Nat} {e : E} (he : e.ok) (hu : ∀ m f, m < 8 → m ≠ n → S m = some f → f.key ≠ e.key) : Inv (put S n (some e)) := by
  refine ⟨fun m f hm => ?_, fun m l f g hm hl m8 l8 hk => ?_⟩
  · unfold put at hm
    split at hm
    · cases hm; exact he
    · exact h.ok m f hm
  · unfold put at hm hl
    split at hm
    · rename_i h1
      split at hl
      · rename_i h2; rw [h1, h2]
      · rename_i h2
        cases hm
        exact absurd hk.symm (hu l g l8 h2 hl)
    · rename_i h1
      split at hl
      · cases hl
        exact absurd hk (hu m f m8 h1 hm)
      · exact h.uniq m l f g hm hl m8 l8 hk
theorem place_ext {S T : Slots} (hS : Inv S) (hT : Inv T) {k : K} (h : ∀ n, n < 8 → ((∃ e, S n = some e ∧ e.key = k) ↔ ∃ e, T n = some e ∧ e.key = k)) : place S k = place T k := by
  cases hp : place S k with
  | some n =>
    obtain ⟨hn, e, he, hk⟩ := place_some hp
    obtain ⟨f, hf, hk2⟩ := (h n hn).1 ⟨e, he, hk⟩
    rw [← hk2, place_of hT hn hf]
  | none =>
    cases hq : place T k with
    | none => rfl
    | some n =>
      obtain ⟨hn, e, he, hk⟩ := place_some hq
      obtain ⟨f, hf, hk2⟩ := (h n hn).2 ⟨e, he, hk⟩
      exact absurd hk2 (place_none hp n f hn hf)
theorem place_put_none {S : Slots} (hI : Inv S) {n : Nat} (hn : n < 8) {f : E} (hs : S n = some f) (k : K) : place (put S n none) k = if k = f.key then none else place S k := by
  split
  · rename_i hk
    subst hk
    cases hp : place (put S n none) f.key with
    | none => rfl
    | some m =>
      obtain ⟨hm, e, he, hk⟩ := place_some hp
      unfold put at he
      split at he
      · cases he
      · rename_i hne
        exact absurd (hI.uniq m n e f he hs hm hn hk) hne
  · rename_i hk
    refine place_ext (hI.put_none n) hI fun m hm => ?_
    unfold put
    by_cases hmn : m = n
    · subst hmn
      simp only [if_true, hs]
      constructor
      · rintro ⟨_, h, _⟩; cases h
      · rintro ⟨e, h, h2⟩; cases h; exact absurd h2.symm hk
    · simp [hmn]
theorem place_put_new {S : Slots} (hI : Inv S) {n : Nat} (hn : n < 8) {e : E} (he : e.ok) (hp : place S e.key = none) (k : K) : place (put S n (some e)) k = if k = e.key then some n else place (put S n none) k := by
  have hT : Inv (put S n (some e)) := hI.put_some he fun m f m8 _ hf => place_none hp m f m8 hf
  split
  · rename_i hk
    subst hk
    exact place_of hT hn (by simp [put])
  · rename_i hk
    refine place_ext hT (hI.put_none n) fun m hm => ?_
    unfold put
    by_cases hmn : m = n
    · subst hmn
      simp only [if_true]
      constructor
      · rintro ⟨_, h, h2⟩; cases h; exact absurd h2.symm hk
      · rintro ⟨e, h, h2⟩; cases h
    · simp [hmn]
theorem place_put_same {S : Slots} (hI : Inv S) {n : Nat} {e : E} (he : e.ok) (hp : place S e.key = some n) (k : K) : Inv (put S n (some e)) ∧ place (put S n (some e)) k = place S k := by
  obtain ⟨hn, f, hf, hk⟩ := place_some hp
  have hT : Inv (put S n (some e)) := hI.put_some he fun m g m8 hmn hg hk2 => hmn (hI.uniq m n g f hg hf m8 hn (hk2.trans hk.symm))
  refine ⟨hT, place_ext hT hI fun m hm => ?_⟩
  unfold put
  by_cases hmn : m = n
  · subst hmn
    simp only [if_true, hf]
    constructor
    · rintro ⟨g, h, h2⟩; cases h; exact ⟨f, rfl, hk.trans h2⟩
    · rintro ⟨g, h, h2⟩; cases h; exact ⟨e, rfl, hk.symm.trans h2⟩
  · simp [hmn]
theorem plF_put_none {S : Slots} (hI : Inv S) {n : Nat} (hn : n < 8) {f : E} (hs : S n = some f) : plF (put S n none) = fun k => if k = f.key then none else plF S k := by
  funext k
  unfold plF
  rw [place_put_none hI hn hs]
  split <;> rfl
theorem plF_put_new {S : Slots} (hI : Inv S) {n : Nat} (hn : n < 8) {e : E} (he : e.ok) (hp : place S e.key = none) : plF (put S n (some e)) = fun k => if k = e.key then some (.int .i64 (n : Int)) else plF (put S n none) k := by
  funext k
  unfold plF
  rw [place_put_new hI hn he hp]
  split <;> rfl
theorem plF_put_same {S : Slots} (hI : Inv S) {n : Nat} {e : E} (he : e.ok) (hp : place S e.key = some n) : plF (put S n (some e)) = plF S := by
  funext k
  unfold plF
  rw [(place_put_same hI he hp k).2]
theorem put_put (S : Slots) (n : Nat) (o p : Option E) : put (put S n o) n p = put S n p := by
  funext i
  unfold put
  split <;> rfl
theorem put_self {S : Slots} {n : Nat} {o : Option E} (h : S n = o) : put S n o = S := by
  funext i
  unfold put
  split
  · rename_i hi; rw [hi, h]
  · rfl

/-! ### a place for a new one -/
def freeN (S : Slots) : Option Nat := (List.range 8).find? fun n => (S n).isNone
def nxt (seed : Int) : Int := IntKind.u64.wrap (IntKind.u64.wrap (6364136223846793005 * seed) + 1442695040888963407)
def slot (S : Slots) (seed : Int) : Nat := match freeN S with | some n => n | none => (nxt seed / 2305843009213693952).toNat
def slotSeed (S : Slots) (seed : Int) : Int := match freeN S with | some _ => seed | none => nxt seed
theorem nxt_bd (seed : Int) : 0 ≤ nxt seed ∧ nxt seed < 18446744073709551616 := by
  unfold nxt; rw [IntKind.wrap_u64]; omega
theorem freeN_at {S : Slots} {k : Nat} (hk : k < 8) (h : ∀ j, j < k → (S j).isSome = true) (he : S k = none) : freeN S = some k := by
  unfold freeN
  have hr : List.range 8 = List.range k ++ (k :: List.range' (k + 1) (8 - k - 1)) := by
    rw [List.range_eq_range', show (8 : Nat) = k + (1 + (8 - k - 1)) by omega, ← List.range'_append_1, List.range_eq_range']
    congr 1
    rw [Nat.add_comm 1, List.range'_succ, Nat.zero_add]
    congr 2
    omega
  rw [hr, List.find?_append, List.find?_eq_none.2 (fun x hx => by have := h x (List.mem_range.1 hx); cases hs : S x <;> simp_all)]
  simp [he]
theorem freeN_none {S : Slots} (h : ∀ j, j < 8 → (S j).isSome = true) : freeN S = none := by
  unfold freeN
  exact List.find?_eq_none.2 (fun x hx => by have := h x (List.mem_range.1 hx); cases hs : S x <;> simp_all)
theorem freeN_spec {S : Slots} {n : Nat} (h : freeN S = some n) : n < 8 ∧ S n = none := by
  unfold freeN at h
  have h1 := List.find?_some h
  have h2 := List.mem_of_find?_eq_some h
  exact ⟨List.mem_range.1 h2, by simpa using h1⟩
theorem slot_lt (S : Slots) (seed : Int) : slot S seed < 8 := by
  unfold slot
  cases h : freeN S with
  | some n => exact (freeN_spec h).1
  | none => have := nxt_bd seed; simp only; omega
theorem slotSeed_bd (S : Slots) {seed : Int} (h0 : 0 ≤ seed) (h1 : seed < 18446744073709551616) : 0 ≤ slotSeed S seed ∧ slotSeed S seed < 18446744073709551616 := by
  unfold slotSeed
  cases freeN S with
  | some n => exact ⟨h0, h1⟩
  | none => exact nxt_bd seed
end Go.Proofs.Ytlkkmpfhhfaioaa
