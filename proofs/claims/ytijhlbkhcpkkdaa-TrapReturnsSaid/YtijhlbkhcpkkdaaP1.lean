/- Layer 13: the registers as a function of their places; modes; vectors. -/
import Derived.Test.YtijhlbkhcpkkdaaTools
namespace Go.Proofs.Ytijhlbkhcpkkdaa
open Go.RowKit

/-- The kind of a cell: 22 registers, eight bytes, eight addresses. -/
def gk (i : Nat) : IntKind := if 22 ≤ i ∧ i < 30 then .u8 else .u64
abbrev St := Nat → Int
def gv (c : St) (i : Nat) : Value := .int (gk i) (c i)
def gl (c : St) : List Value := (List.range 38).map (gv c)
def upd (c : St) (i : Nat) (x : Int) : St := fun j => if j = i then x else c j
theorem gl_get (c : St) (i : Nat) : (gl c)[i]? = if i < 38 then some (gv c i) else none := by
  unfold gl; rw [List.getElem?_map]; by_cases h : i < 38 <;> simp [h]
theorem gl_len (c : St) : (gl c).length = 38 := by simp [gl]
theorem gl_set (c : St) (i : Nat) (x : Int) : (gl c).set i (.int (gk i) x) = gl (upd c i x) := by
  apply List.ext_getElem?
  intro j
  rw [List.getElem?_set, gl_get, gl_get, gl_len]
  unfold gv upd
  by_cases h : i = j
  · subst h; simp
  · have h' : ¬ j = i := fun e => h e.symm
    simp [h, h']
theorem gl_one (c : St) : (gl c).toArray.all (·.oneCell') = true := by
  rw [List.all_toArray, List.all_eq_true]
  intro v hv
  unfold gl gv at hv
  obtain ⟨i, _, rfl⟩ := List.mem_map.1 hv
  rfl
/-- What holds of all registers. -/
structure GI (c : St) : Prop where
  r : ∀ i, ¬ (22 ≤ i ∧ i < 30) → 0 ≤ c i ∧ c i < 18446744073709551616
  b : ∀ i, 22 ≤ i → i < 30 → 0 ≤ c i ∧ c i < 256
theorem GI.upd {c : St} (h : GI c) (i : Nat) (hi : i < 22) {x : Int} (h0 : 0 ≤ x) (h1 : x < 18446744073709551616) : GI (upd c i x) := by
  refine ⟨fun j hj => ?_, fun j h2 h3 => ?_⟩
  · unfold Go.Proofs.Ytijhlbkhcpkkdaa.upd
    split
    · exact ⟨h0, h1⟩
    · exact h.r j hj
  · unfold Go.Proofs.Ytijhlbkhcpkkdaa.upd
    rw [if_neg (by omega)]
    exact h.b j h2 h3
section
variable {w0 w : World} {L : List HP} {b : Nat} {c : St}
theorem gcell {w : World} (h : w.heap[b]? = some (.cells (gl c).toArray 26 (0, 0))) {i : Nat} (hi : i < 38) : w.cell? ⟨b, i, none⟩ = some (.int (gk i) (c i)) ∧ w.frozen? ⟨b, i, none⟩ = false := by
  have := cell_blk h i
  rw [gl_get, if_pos hi] at this
  exact this
theorem Heap.gset (h : Heap w0 w (HP.blk b (gl c).toArray 26 :: L)) (i : Nat) (x : Int) {k : IntKind} (hk : gk i = k) : Heap w0 (w.setCell ⟨b, i, none⟩ (.int k x)) (HP.blk b (gl (upd c i x)).toArray 26 :: L) := by
  subst hk
  rw [← gl_set]
  exact h.setl i _
end
/-- A mode that is none is the user's. -/
def known (m : Int) : Int := if m = 3 ∨ m = 1 then m else 0
theorem known_any (m : Int) (w : World) : Calls Try.prog 15 #[.int .i64 m] w fun r w' => r = .returned (.int .i64 (known m)) ∧ w' = w := by
  go_enter Try.func15, Try.ntmps15
  by_cases h3 : m = 3
  · subst h3
    go_wp2
    go_ret
    exact ⟨rfl, rfl⟩
  · by_cases h1 : m = 1
    · subst h1
      go_wp2
      go_ret
      exact ⟨rfl, rfl⟩
    · have z3 : (m == 3) = false := beq_eq_false_iff_ne.2 h3
      have z1 : (m == 1) = false := beq_eq_false_iff_ne.2 h1
      go_wp2
      go_ret
      exact ⟨by unfold known; rw [if_neg (by omega)]; rfl, rfl⟩
theorem known_cases (m : Int) : known m = 0 ∨ known m = 1 ∨ known m = 3 := by unfold known; split <;> omega
theorem not3 (x : Int) (h0 : 0 ≤ x) (h1 : x < 18446744073709551616) : bits .andNot .u64 x 3 = x / 4 * 4 := by
  rw [u64_andNot x 3 h0 h1 (by omega) (by omega)]
  have : x.toNat &&& (18446744073709551615 - (3 : Int).toNat) = x.toNat / 4 * 4 := nat_and_high 2 62 x.toNat (by omega)
  rw [this]; omega
theorem and63 (x : Int) (h0 : 0 ≤ x) (h1 : x < 18446744073709551616) : bits .and .u64 x 63 = x % 64 := by
  rw [u64_and x 63 h0 h1 (by omega) (by omega)]
  have : x.toNat &&& (63 : Int).toNat = x.toNat % 64 := Nat.and_two_pow_sub_one_eq_mod x.toNat 6
  rw [this]; omega
theorem andTop (x : Int) (h0 : 0 ≤ x) (h1 : x < 18446744073709551616) : bits .and .u64 x 9223372036854775808 = x / 9223372036854775808 * 9223372036854775808 := by
  rw [u64_and x 9223372036854775808 h0 h1 (by omega) (by omega)]
  have : x.toNat &&& (9223372036854775808 : Int).toNat = x.toNat / 9223372036854775808 * 9223372036854775808 := nat_and_high 63 1 x.toNat (by omega)
  rw [this]; omega
/-- Where a trap leads. -/
def vector (t cause : Int) : Int := if t % 2 = 1 ∧ 9223372036854775808 ≤ cause then (t / 4 * 4 + cause * 4) % 18446744073709551616 else t / 4 * 4
theorem vector_any (t cause : Int) (t0 : 0 ≤ t) (t1 : t < 18446744073709551616) (c0 : 0 ≤ cause) (c1 : cause < 18446744073709551616) (w : World) : Calls Try.prog 16 #[.int .u64 t, .int .u64 cause] w fun r w' => r = .returned (.int .u64 (vector t cause)) ∧ w' = w := by
  have e1 := u64_mask1 t t0 t1
  have e2 := not3 t t0 t1
  have e3 := andTop cause c0 c1
  go_enter Try.func16, Try.ntmps16
  by_cases h1 : t % 2 = 1
  · by_cases h2 : 9223372036854775808 ≤ cause
    · have z2 : cause / 9223372036854775808 * 9223372036854775808 = 9223372036854775808 := by omega
      rw [z2] at e3
      rw [h1] at e1
      go_wp2
      go_ret
      refine ⟨?_, rfl⟩
      unfold vector
      rw [if_pos ⟨h1, h2⟩]
      have : IntKind.u64.wrap (t / 4 * 4 + IntKind.u64.wrap (cause * 4)) = (t / 4 * 4 + cause * 4) % 18446744073709551616 := by simp only [IntKind.wrap_u64]; omega
      show Ending.returned (.int .u64 _) = _
      rw [← this]
    · have z2 : cause / 9223372036854775808 * 9223372036854775808 = 0 := by omega
      rw [z2] at e3
      rw [h1] at e1
      go_wp2
      go_ret
      exact ⟨by unfold vector; rw [if_neg (by omega)]; rfl, rfl⟩
  · have z1 : t % 2 = 0 := by omega
    rw [z1] at e1
    go_wp2
    go_ret
    exact ⟨by unfold vector; rw [if_neg (by omega)]; rfl, rfl⟩
end Go.Proofs.Ytijhlbkhcpkkdaa
