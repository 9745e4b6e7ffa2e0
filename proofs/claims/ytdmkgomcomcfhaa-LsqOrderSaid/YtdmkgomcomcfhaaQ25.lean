/- Layer 23: LsqOrder: progress, what the pass does next, rows of numbers. -/
import Derived.Test.YtdmkgomcomcfhaaQ24
import Derived.Laws.MakeOwn
namespace Go.Proofs.Ytdmkgomcomcfhaa
open Go.RowKit

theorem i64_in {x : Int} (h0 : -9223372036854775808 ≤ x) (h1 : x < 9223372036854775808) : IntKind.i64.wrap x = x := by rw [wrap_i64]; split <;> omega
theorem Heap.qI {w0 w : World} {L : List HP} {b : Nat} {q : Qs} (h : Heap w0 w (HP.q b q :: L)) : QI q := by
  obtain ⟨_, ⟨hI, _⟩, _⟩ := Heap.qq.1 h
  exact hI
/-! ### progress -/
/-- How far the pass over the first one has come, in a window of six. -/
structure PF (r : Nat) (s : PS) : Prop where
  f1 : 1 ≤ r → s.first < s.next
  f2 : 2 ≤ r → ∀ e, s.q.l[0]? = some e → e.placed = true
  f3 : 3 ≤ r → ∀ e, s.q.l[0]? = some e → e.store = true → e.data = true
  f4 : 4 ≤ r → ∀ e, s.q.l[0]? = some e → e.store = false → e.read = true
  f5 : r ≠ 5
def PG (n p k : Nat) (s : PS) : Prop := 6 * ((p + 5) / 6) ≤ k → n ≤ s.first ∨ k / 6 + 1 ≤ s.first + (p + 5) / 6 ∨ (k / 6 ≤ s.first + (p + 5) / 6 ∧ PF (k % 6) s)
theorem PF.zero (s : PS) : PF 0 s := ⟨fun h => by omega, fun h => by omega, fun h => by omega, fun h => by omega, by decide⟩
theorem PG.start (n p : Nat) (s : PS) : PG n p 0 s := fun h => .inr (.inr ⟨by omega, PF.zero s⟩)
theorem PG.step {n p k : Nat} {s s' : PS} (h : PG n p k s) (hm : s.first ≤ s'.first) (hs : p ≤ k → s.first < n → PF (k % 6) s → s.first + 1 ≤ s'.first ∨ PF (k % 6 + 1) s') : PG n p (k + 1) s' := by
  intro hk
  by_cases h0 : 6 * ((p + 5) / 6) ≤ k
  · by_cases hn : n ≤ s.first
    · exact .inl (by omega)
    · rcases h h0 with h1 | h1 | ⟨h1, h2⟩
      · exact absurd h1 hn
      · by_cases h6 : (k + 1) / 6 = k / 6
        · exact .inr (.inl (by omega))
        · exact .inr (.inr ⟨by omega, by rw [show (k + 1) % 6 = 0 by omega]; exact PF.zero _⟩)
      · have h5 := h2.f5
        rcases hs (by omega) (by omega) h2 with h3 | h3
        · exact .inr (.inl (by omega))
        · exact .inr (.inr ⟨by omega, by rw [show (k + 1) % 6 = k % 6 + 1 by omega]; exact h3⟩)
  · exact .inr (.inr ⟨by omega, by rw [show (k + 1) % 6 = 0 by omega]; exact PF.zero _⟩)
theorem PG.done {n p : Nat} {s : PS} (h : PG n p (p + 12 * n) s) : n ≤ s.first := by
  by_cases h0 : n = 0
  · omega
  · rcases h (by omega) with h1 | h1 | ⟨h1, _⟩ <;> omega
/-! ### what the pass does next -/
def actN (P : Nat → Int) (p : Nat) (s : PS) (k : Nat) : Nat := if k < p then (P k % 6).toNat else if s.first = s.next then 0 else k % 6
def iN (P : Nat → Int) (p : Nat) (s : PS) (k : Nat) : Nat := if k < p ∧ s.first < s.next then s.first + (P k / 256 % ((s.next - s.first : Nat) : Int)).toNat else s.first
theorem actN_lt (P : Nat → Int) (p : Nat) (s : PS) (k : Nat) : actN P p s k < 6 := by unfold actN; split <;> (try split) <;> omega
theorem iN_ge (P : Nat → Int) (p : Nat) (s : PS) (k : Nat) : s.first ≤ iN P p s k := by unfold iN; split <;> omega
theorem iN_lt {P : Nat → Int} {p : Nat} {s : PS} {k : Nat} (h : s.first < s.next) : iN P p s k < s.next := by
  unfold iN
  split
  · have := Int.emod_lt_of_pos (P k / 256) (b := ((s.next - s.first : Nat) : Int)) (by omega)
    have := Int.emod_nonneg (P k / 256) (b := ((s.next - s.first : Nat) : Int)) (by omega)
    omega
  · exact h
/-- Behind the picks all is done to the first one. -/
theorem behind {P : Nat → Int} {p : Nat} {s : PS} {k : Nat} (h : p ≤ k) : iN P p s k = s.first ∧ (s.first < s.next → actN P p s k = k % 6) ∧ (s.first = s.next → actN P p s k = 0) := by
  refine ⟨by unfold iN; rw [if_neg (by omega)], fun h1 => ?_, fun h1 => ?_⟩
  · unfold actN; rw [if_neg (by omega), if_neg (by omega)]
  · unfold actN; rw [if_neg (by omega), if_pos h1]
section
variable {Y : Nat → OpS} {P : Nat → Int} {n p k : Nat} {s : PS}
/-- One may come in, or not. -/
theorem PG.come (h : PG n p k s) (hfn : s.first ≤ s.next ∧ s.next ≤ n) (ha : actN P p s k = 0) {s' : PS} (hf : s'.first = s.first) (hn : s.first < s'.next) : PG n p (k + 1) s' := by
  refine h.step (by omega) fun hk _ hp => ?_
  by_cases h1 : s.first < s.next
  · have := (behind (P := P) (s := s) hk).2.1 h1
    rw [ha] at this
    exact .inr ⟨fun _ => by omega, fun h => by omega, fun h => by omega, fun h => by omega, by omega⟩
  · by_cases hr : k % 6 = 0
    · exact .inr ⟨fun _ => by omega, fun h => by omega, fun h => by omega, fun h => by omega, by omega⟩
    · have := hp.f1 (by omega)
      omega
theorem PG.skip (h : PG n p k s) (hfn : s.first ≤ s.next ∧ s.next ≤ n) (hs : s.first = s.next) (ha : ¬ (actN P p s k = 0 ∧ s.next < n)) : PG n p (k + 1) s := by
  refine h.step (by omega) fun hk hlt hp => ?_
  have := (behind (P := P) (s := s) hk).2.2 hs
  exact absurd ⟨this, by omega⟩ ha
theorem PG.other (h : PG n p k s) {s' : PS} (hf : s'.first = s.first) (hnx : s'.next = s.next) (hlt : s.first < s.next)
    (hs : p ≤ k → iN P p s k = s.first → actN P p s k = k % 6 → PF (k % 6) s → PF (k % 6 + 1) s') : PG n p (k + 1) s' := by
  refine h.step (by omega) fun hk _ hp => ?_
  obtain ⟨h1, h2, _⟩ := behind (P := P) (s := s) hk
  exact .inr (hs hk h1 (h2 hlt) hp)
end
/-! ### rows -/
def u64s (n : Nat) (F : Nat → Int) : List Value := (List.range n).map fun i => .int .u64 (F i)
def bls (n : Nat) (F : Nat → Bool) : List Value := (List.range n).map fun i => .bool (F i)
def opsC (Y : Nat → OpS) (n : Nat) : List Value := (List.range n).flatMap fun i => (Y i).cs
theorem u64s_len (n : Nat) (F : Nat → Int) : (u64s n F).length = n := by simp [u64s]
theorem bls_len (n : Nat) (F : Nat → Bool) : (bls n F).length = n := by simp [bls]
theorem u64s_get (n : Nat) (F : Nat → Int) {i : Nat} (h : i < n) : (u64s n F)[i]? = some (.int .u64 (F i)) := by unfold u64s; rw [List.getElem?_map, List.getElem?_range h]; rfl
theorem bls_get (n : Nat) (F : Nat → Bool) {i : Nat} (h : i < n) : (bls n F)[i]? = some (.bool (F i)) := by unfold bls; rw [List.getElem?_map, List.getElem?_range h]; rfl
theorem u64s_set (n : Nat) (F : Nat → Int) {i : Nat} (h : i < n) (x : Int) : (u64s n F).set i (.int .u64 x) = u64s n fun j => if j = i then x else F j := by
  apply List.ext_getElem?
  intro j
  by_cases hj : j < n
  · rw [List.getElem?_set, u64s_len, u64s_get _ _ hj, u64s_get _ _ hj]
    by_cases e : i = j
    · subst e; rw [if_pos rfl, if_pos h, if_pos rfl]
    · rw [if_neg e, if_neg (fun h => e h.symm)]
  · rw [List.getElem?_eq_none (by rw [List.length_set, u64s_len]; omega), List.getElem?_eq_none (by rw [u64s_len]; omega)]
theorem bls_set (n : Nat) (F : Nat → Bool) {i : Nat} (h : i < n) (x : Bool) : (bls n F).set i (.bool x) = bls n fun j => if j = i then x else F j := by
  apply List.ext_getElem?
  intro j
  by_cases hj : j < n
  · rw [List.getElem?_set, bls_len, bls_get _ _ hj, bls_get _ _ hj]
    by_cases e : i = j
    · subst e; rw [if_pos rfl, if_pos h, if_pos rfl]
    · rw [if_neg e, if_neg (fun h => e h.symm)]
  · rw [List.getElem?_eq_none (by rw [List.length_set, bls_len]; omega), List.getElem?_eq_none (by rw [bls_len]; omega)]
theorem cs_len (x : OpS) : x.cs.length = 5 := rfl
theorem opsC_succ (Y : Nat → OpS) (n : Nat) : opsC Y (n + 1) = opsC Y n ++ (Y n).cs := by unfold opsC; rw [List.range_succ, List.flatMap_append]; simp
theorem opsC_len (Y : Nat → OpS) (n : Nat) : (opsC Y n).length = n * 5 := by
  induction n with
  | zero => rfl
  | succ n ih => rw [opsC_succ, List.length_append, ih, cs_len]; omega
theorem opsC_get (Y : Nat → OpS) {i j : Nat} (hj : j < 5) : ∀ {n : Nat}, i < n → (opsC Y n)[i * 5 + j]? = (Y i).cs[j]? := by
  intro n
  induction n with
  | zero => intro h; omega
  | succ n ih =>
    intro h
    rw [opsC_succ]
    by_cases e : i = n
    · subst e
      rw [List.getElem?_append_right (by rw [opsC_len]; omega), opsC_len, show i * 5 + j - i * 5 = j by omega]
    · rw [List.getElem?_append_left (by rw [opsC_len]; omega)]
      exact ih (by omega)
theorem u64s_ext {n : Nat} {F G : Nat → Int} (h : ∀ i, i < n → F i = G i) : u64s n F = u64s n G := by
  unfold u64s; exact List.map_congr_left fun i hi => by rw [h i (List.mem_range.1 hi)]
section
variable {w : World} {g o cap n : Nat}
theorem ops_cells {Y : Nat → OpS} (h : Sl w 5 (.slice (some ⟨g, o, none⟩) n cap) n (opsC Y n)) {i : Nat} (hi : i < n) : w.cell? ⟨g, o + i * 5, none⟩ = some (.bool (Y i).store) ∧ w.cell? ⟨g, o + i * 5 + 1, none⟩ = some (.int .i64 (Y i).at_) ∧
    w.cell? ⟨g, o + i * 5 + 2, none⟩ = some (.int .i64 (Y i).size) ∧ w.cell? ⟨g, o + i * 5 + 3, none⟩ = some (.int .u64 (Y i).v) ∧ w.cell? ⟨g, o + i * 5 + 4, none⟩ = some (.int .u64 (Y i).pc) ∧ g < w.heap.size := by
  have c : ∀ j, j < 5 → w.cell? ⟨g, o + i * 5 + j, none⟩ = (Y i).cs[j]? := fun j hj => by
    have := (h.at_ (j := i * 5 + j) (by omega)).2.1
    rw [opsC_get Y hj hi, ← Nat.add_assoc] at this
    exact this
  exact ⟨c 0 (by omega), c 1 (by omega), c 2 (by omega), c 3 (by omega), c 4 (by omega), (h.at_ (j := i * 5) (by omega)).1⟩
theorem u64_cell {F : Nat → Int} (h : Sl w 1 (.slice (some ⟨g, o, none⟩) n cap) n (u64s n F)) {i : Nat} (hi : i < n) : w.cell? ⟨g, o + i, none⟩ = some (.int .u64 (F i)) ∧ w.frozen? ⟨g, o + i, none⟩ = false ∧ g < w.heap.size := by
  obtain ⟨h1, h2, h3⟩ := h.at_ (j := i) (by omega)
  rw [u64s_get _ _ hi] at h2
  exact ⟨h2, h3, h1⟩
theorem bl_cell {F : Nat → Bool} (h : Sl w 1 (.slice (some ⟨g, o, none⟩) n cap) n (bls n F)) {i : Nat} (hi : i < n) : w.cell? ⟨g, o + i, none⟩ = some (.bool (F i)) ∧ w.frozen? ⟨g, o + i, none⟩ = false ∧ g < w.heap.size := by
  obtain ⟨h1, h2, h3⟩ := h.at_ (j := i) (by omega)
  rw [bls_get _ _ hi] at h2
  exact ⟨h2, h3, h1⟩
end
theorem madeCells_one (z : Value) (n : Nat) : madeCells #[z] n = ((List.range n).map fun _ => z).toArray := by
  apply Array.ext
  · simp [madeCells]
  · intro i h1 h2
    simp [madeCells, Nat.mod_one]
theorem mk51 (n : Nat) (hn : n ≤ 4398046511104) (w : World) : (Instr.makeSlice 51 (.int .i64 (n : Int)) (.int .i64 (n : Int))).run Try.prog w = .ok (.slice (some ⟨w.heap.size, 0, none⟩) n n) (w.alloc (.cells (u64s n fun _ => 0).toArray 28)) := by
  obtain ⟨i, hi, h1, h2, h3⟩ : ∃ i, Try.prog.info? 28 = some i ∧ i.zero = some (.int .u64 0) ∧ i.size = 1 ∧ i.bytes = 8 := ⟨_, rfl, by kernel_rfl, by kernel_rfl, by kernel_rfl⟩
  rw [run_make (P := Try.prog) w 51 28 i (.int .u64 0) Try.underlying51 hi h1 .i64 .i64 n n (by omega) (Int.le_refl _) (by rw [h3]; omega) (by omega)]
  rw [show (Value.int IntKind.u64 0).cells = #[.int .u64 0] from rfl, madeCells_one, h2, Int.toNat_natCast, Nat.mul_one]
  rfl
theorem mk58 (n : Nat) (hn : n ≤ 4398046511104) (w : World) : (Instr.makeSlice 58 (.int .i64 (n : Int)) (.int .i64 (n : Int))).run Try.prog w = .ok (.slice (some ⟨w.heap.size, 0, none⟩) n n) (w.alloc (.cells (bls n fun _ => false).toArray 4)) := by
  obtain ⟨i, hi, h1, h2, h3⟩ : ∃ i, Try.prog.info? 4 = some i ∧ i.zero = some (.bool false) ∧ i.size = 1 ∧ i.bytes = 1 := ⟨_, rfl, by kernel_rfl, by kernel_rfl, by kernel_rfl⟩
  rw [run_make (P := Try.prog) w 58 4 i (.bool false) Try.underlying58 hi h1 .i64 .i64 n n (by omega) (Int.le_refl _) (by rw [h3]; omega) (by omega)]
  rw [show (Value.bool false).cells = #[.bool false] from rfl, madeCells_one, h2, Int.toNat_natCast, Nat.mul_one]
  rfl
/-- The numbers of a row that is an argument, all at once. -/
theorem pk_fun {w : World} {A : Option Addr} {n : Nat} (hS : SlArg [some .u64] w A n) : ∃ P : Nat → Int, ∀ k, k < n → (0 ≤ P k ∧ P k < 18446744073709551616) ∧ ∀ wr, Below w.heap.size w wr → ∃ ab ao, A = some ⟨ab, ao, none⟩ ∧ wr.cell? ⟨ab, ao + k, none⟩ = some (.int .u64 (P k)) ∧ ab < wr.heap.size := by
  have h1 : ∀ k, ∃ x : Int, k < n → (0 ≤ x ∧ x < 18446744073709551616) ∧ ∀ wr, Below w.heap.size w wr → ∃ ab ao, A = some ⟨ab, ao, none⟩ ∧ wr.cell? ⟨ab, ao + k, none⟩ = some (.int .u64 x) ∧ ab < wr.heap.size := by
    intro k
    by_cases hk : k < n
    · obtain ⟨ab, ao, hA, hab, hX⟩ := hS (by omega)
      obtain ⟨cs, hf, hc⟩ := hX k hk
      have c0 := cell_int hf hc (j := 0) rfl
      simp only [List.length_cons, List.length_nil, Nat.zero_add, Nat.mul_one, Nat.add_zero] at c0
      exact ⟨_, fun _ => ⟨b64' c0.2, fun wr hb => ⟨ab, ao, hA, (hb.cell (p := ⟨ab, _, none⟩) hab).trans c0.1, Nat.lt_of_lt_of_le hab hb.size⟩⟩⟩
    · exact ⟨0, fun h => absurd h hk⟩
  exact ⟨fun k => (h1 k).choose, fun k hk => (h1 k).choose_spec hk⟩
end Go.Proofs.Ytdmkgomcomcfhaa
