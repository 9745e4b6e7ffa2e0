/- Layer 15: every call answers as the chapter says: the walk. -/
import Derived.Test.YtlkkmpfhhfaioaaT17
import Derived.Test.YtlkkmpfhhfaioaaOpen
namespace Go.Proofs.Ytlkkmpfhhfaioaa
open Go.RowKit

theorem b64' {n : Int} (h : (Lit.int .u64 n).wf = true) : 0 ≤ n ∧ n < 18446744073709551616 := by
  simp [Lit.wf, IntKind.min, IntKind.max, IntKind.signed, IntKind.bits] at h; omega
theorem i64' {n : Int} (h : (Lit.int .i64 n).wf = true) : -9223372036854775808 ≤ n ∧ n < 9223372036854775808 := by
  simp [Lit.wf, IntKind.min, IntKind.max, IntKind.signed, IntKind.bits] at h; omega
def fnd (S : Slots) (sp a : Int) : E := (findS S sp a).getD E.zero
theorem findS_ok {S : Slots} (hI : Inv S) {sp a : Int} {e : E} (h : findS S sp a = some e) : e.ok := by
  unfold findS at h
  obtain ⟨n, _, hn⟩ := List.exists_of_findSome?_eq_some h
  unfold hit at hn
  cases hs : S n with
  | none => rw [hs] at hn; cases hn
  | some f =>
    rw [hs] at hn
    simp only at hn
    split at hn
    · injection hn with hn; subst hn; exact hI.ok n f hs
    · cases hn
theorem fnd_ok {S : Slots} (hI : Inv S) (sp a : Int) : (fnd S sp a).ok := by
  unfold fnd
  cases h : findS S sp a with
  | none => exact E.zero_ok
  | some e => exact findS_ok hI h
theorem kept_ok {S : Slots} (hI : Inv S) (k : Nat) : ∀ e ∈ kept S k, e.ok := by
  intro e he
  unfold kept at he
  obtain ⟨n, _, hn⟩ := List.mem_filterMap.1 he
  exact hI.ok n e hn
section
variable {w0 w : World} {L : List HP} {seed : Int} {b : Nat} {S : Slots} {e : E}
theorem Heap.tlInv (h : Heap w0 w (HP.tl b seed S :: L)) : Inv S := by
  obtain ⟨bm, ⟨hI, _⟩, _⟩ := Heap.tl.1 h
  exact hI
theorem find_f (h : Heap w0 w (HP.tl b seed S :: L)) (sp a : Int) (a0 : 0 ≤ a) (a1 : a < 18446744073709551616) :
    Calls Try.prog 14 #[.pointer (some ⟨b, 0, none⟩), .int .u64 sp, .int .u64 a] w fun r w' => r = .returned (.tuple #[.agg #[.int .u64 (fnd S sp a).at_, .int .i64 (fnd S sp a).lv, .int .u64 (fnd S sp a).sp, .bool (fnd S sp a).gl, .int .u64 (fnd S sp a).lf], .bool (findS S sp a).isSome]) ∧ Heap w0 w' (HP.tl b seed S :: L) :=
  find_h h sp a a0 a1
theorem findR_f (h : Heap w0 w (HP.tr b seed S :: L)) (sp a : Int) (a0 : 0 ≤ a) (a1 : a < 18446744073709551616) :
    Calls Try.prog 15 #[.pointer (some ⟨b, 0, none⟩), .int .u64 sp, .int .u64 a] w fun r w' => r = .returned (.tuple #[.agg #[.int .u64 (fnd S sp a).at_, .int .i64 (fnd S sp a).lv, .int .u64 (fnd S sp a).sp, .bool (fnd S sp a).gl, .int .u64 (fnd S sp a).lf], .bool (findS S sp a).isSome]) ∧ Heap w0 w' (HP.tr b seed S :: L) :=
  findR_h h sp a a0 a1
theorem findR_f' (h : Heap w0 w (HP.tr b seed S :: L)) (sp a : Int) (a0 : 0 ≤ a) (a1 : a < 18446744073709551616) {f : E} {q : Bool} (hf : fnd S sp a = f) (hq : (findS S sp a).isSome = q) :
    Calls Try.prog 15 #[.pointer (some ⟨b, 0, none⟩), .int .u64 sp, .int .u64 a] w fun r w' => r = .returned (.tuple #[.agg #[.int .u64 f.at_, .int .i64 f.lv, .int .u64 f.sp, .bool f.gl, .int .u64 f.lf], .bool q]) ∧ Heap w0 w' (HP.tr b seed S :: L) := by
  subst hf hq
  exact findR_f h sp a a0 a1
end
theorem cells6 {w : World} {b : Nat} {a0 a1 a2 a3 a4 a5 : Value} {T : TypeId} (h : w.heap[b]? = some (.cells #[a0, a1, a2, a3, a4, a5] T (0, 0))) :
    w.cell? ⟨b, 0, none⟩ = some a0 ∧ w.cell? ⟨b, 1, none⟩ = some a1 ∧ w.cell? ⟨b, 2, none⟩ = some a2 ∧ w.cell? ⟨b, 3, none⟩ = some a3 ∧ w.cell? ⟨b, 4, none⟩ = some a4 ∧ w.cell? ⟨b, 5, none⟩ = some a5 := by
  simp [World.cell?, h]
/-- A step that came in, in a later world. -/
theorem step_at {w wr : World} {A : Option Addr} {n k : Nat} (hS : SlArg [some .i64, some .u64, some .i64, some .u64, none, some .u64] w A n) (hb : Below w.heap.size w wr) (hk : k < n) : ∃ ab ao, A = some ⟨ab, ao, none⟩ ∧ ∃ (kd at_ lv sp : Int) (gl : Bool) (lf : Int),
    (wr.cell? ⟨ab, ao + k * 6, none⟩ = some (.int .i64 kd) ∧ wr.cell? ⟨ab, ao + k * 6 + 1, none⟩ = some (.int .u64 at_) ∧ wr.cell? ⟨ab, ao + k * 6 + 2, none⟩ = some (.int .i64 lv) ∧ wr.cell? ⟨ab, ao + k * 6 + 3, none⟩ = some (.int .u64 sp) ∧
     wr.cell? ⟨ab, ao + k * 6 + 4, none⟩ = some (.bool gl) ∧ wr.cell? ⟨ab, ao + k * 6 + 5, none⟩ = some (.int .u64 lf)) ∧ (⟨at_, lv, sp, gl, lf⟩ : E).wf ∧ ab < wr.heap.size := by
  obtain ⟨ab, ao, hA, hab, hX⟩ := hS (by omega)
  obtain ⟨cs, hf, hc⟩ := hX k hk
  have c0 := cell_int hf hc (j := 0) rfl
  have c1 := cell_int hf hc (j := 1) rfl
  have c2 := cell_int hf hc (j := 2) rfl
  have c3 := cell_int hf hc (j := 3) rfl
  have c4 := cell_bool hf hc (j := 4) rfl
  have c5 := cell_int hf hc (j := 5) rfl
  simp only [List.length_cons, List.length_nil, Nat.zero_add, Nat.reduceAdd, Nat.add_zero] at c0 c1 c2 c3 c4 c5
  have up : ∀ {o : Nat} {v : Value}, w.cell? ⟨ab, o, none⟩ = some v → wr.cell? ⟨ab, o, none⟩ = some v := fun h => (hb.cell (p := ⟨ab, _, none⟩) hab).trans h
  exact ⟨ab, ao, hA, _, _, _, _, _, _, ⟨up c0.1, up c1.1, up c2.1, up c3.1, up c4, up c5.1⟩, ⟨(b64' c1.2).1, (b64' c1.2).2, (i64' c2.2).1, (i64' c2.2).2, (b64' c3.2).1, (b64' c3.2).2, (b64' c5.2).1, (b64' c5.2).2⟩, Nat.lt_of_lt_of_le hab hb.size⟩
end Go.Proofs.Ytlkkmpfhhfaioaa
