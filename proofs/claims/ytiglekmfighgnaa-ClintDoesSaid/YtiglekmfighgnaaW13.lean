/- Every call answers as the chapter says: the walk. -/
import Derived.Test.YtiglekmfighgnaaW9
namespace Go.Proofs.Ytiglekmfighgnaa
open Go.RowKit

/-- The Clint, the reference's, and the step's own copy. -/
structure DD (w0 w : World) (bm br bx : Nat) (s t a s' t' a' k at_ size v : Int) : Prop where
  one : St w0 w bm s t a
  ref : w.heap[br]? = some (RL s' t' a')
  x : w.heap[bx]? = some (.cells #[.int .i64 k, .int .u64 at_, .int .i64 size, .int .u64 v] 30 (0, 0))
  nmr : bm ≠ br
  nmx : bm ≠ bx
  nrx : br ≠ bx
  base_r : w0.heap.size ≤ br
  v0 : 0 ≤ v
  v1 : v < 18446744073709551616
theorem cells4 {w : World} {b : Nat} {x y z u : Value} {T : TypeId} (h : w.heap[b]? = some (.cells #[x, y, z, u] T (0, 0))) :
    w.cell? ⟨b, 0, none⟩ = some x ∧ w.cell? ⟨b, 1, none⟩ = some y ∧ w.cell? ⟨b, 2, none⟩ = some z ∧ w.cell? ⟨b, 3, none⟩ = some u := by
  simp [World.cell?, h]
theorem grown_other {w w' : World} {b c : Nat} {o : Obj} (h : w.heap[c]? = some o) (hg : w.grownBy w' (some b)) (hne : b ≠ c) : w'.heap[c]? = some o :=
  (hg.block c (lt_of_heap h) (fun e => hne (by injection e with e; exact e.symm))).trans h
theorem St.other {w0 w w' : World} {b c : Nat} {s t a : Int} (h : St w0 w c s t a) (hg : w.grownBy w' (some b)) (hB : w0.heap.size ≤ b) (hne : b ≠ c) : St w0 w' c s t a :=
  ⟨grown_other h.heap hg hne, h.below.grown hg h.below.size (fun k hk => by injection hk with hk; omega), h.base, h.hs, h.t0, h.t1, h.a0, h.a1⟩
section
variable {w0 w : World} {bm br bx bo : Nat} {s t a s' t' a' k at_ size v so to_ ao : Int}
theorem DD.cells (h : DD w0 w bm br bx s t a s' t' a' k at_ size v) : w.cell? ⟨bx, 0, none⟩ = some (.int .i64 k) ∧ w.cell? ⟨bx, 1, none⟩ = some (.int .u64 at_) ∧ w.cell? ⟨bx, 2, none⟩ = some (.int .i64 size) ∧ w.cell? ⟨bx, 3, none⟩ = some (.int .u64 v) ∧ w.cell? ⟨br, 1, none⟩ = some (.int .u64 t') :=
  ⟨(cells4 h.x).1, (cells4 h.x).2.1, (cells4 h.x).2.2.1, (cells4 h.x).2.2.2, (cells3 h.ref).2.1⟩
theorem DD.quiet {w' : World} (h : DD w0 w bm br bx s t a s' t' a' k at_ size v) (hg : w.grownBy w' none) : DD w0 w' bm br bx s t a s' t' a' k at_ size v :=
  ⟨h.one.quiet hg, grown_heap h.ref hg, grown_heap h.x hg, h.nmr, h.nmx, h.nrx, h.base_r, h.v0, h.v1⟩
theorem DD.other {w' : World} (h : DD w0 w bm br bx s t a s' t' a' k at_ size v) (hg : w.grownBy w' (some bo)) (hB : w0.heap.size ≤ bo) (h1 : bo ≠ bm) (h2 : bo ≠ br) (h3 : bo ≠ bx) : DD w0 w' bm br bx s t a s' t' a' k at_ size v :=
  ⟨h.one.other hg hB h1, grown_other h.ref hg h2, grown_other h.x hg h3, h.nmr, h.nmx, h.nrx, h.base_r, h.v0, h.v1⟩
theorem DD.onM {w' : World} (h : DD w0 w bm br bx s t a s' t' a' k at_ size v) (hg : w.grownBy w' (some bm)) (ho : St w0 w' bm so to_ ao) : DD w0 w' bm br bx so to_ ao s' t' a' k at_ size v :=
  ⟨ho, grown_other h.ref hg h.nmr, grown_other h.x hg h.nmx, h.nmr, h.nmx, h.nrx, h.base_r, h.v0, h.v1⟩
theorem DD.onR {w' : World} (h : DD w0 w bm br bx s t a s' t' a' k at_ size v) (hg : w.grownBy w' (some br)) (ho : w'.heap[br]? = some (RL so to_ ao)) : DD w0 w' bm br bx s t a so to_ ao k at_ size v :=
  ⟨h.one.other hg h.base_r (fun e => h.nmr e.symm), ho, grown_other h.x hg h.nrx, h.nmr, h.nmx, h.nrx, h.base_r, h.v0, h.v1⟩

theorem write_dd (h : DD w0 w bm br bx s t a s t a k at_ size v) :
    Calls Try.prog 11 #[.pointer (some ⟨bm, 0, none⟩), .int .u64 at_, .int .i64 size, .int .u64 v] w fun e w' => e = .returned (.bool (look at_ size).isSome) ∧
      DD w0 w' bm br bx (putAt 0 at_ size v s) (putAt 1 at_ size v t) (putAt 2 at_ size v a) s t a k at_ size v :=
  (write_any at_ size v s t a bm w h.one.heap h.one.range.1 h.one.range.2 h.one.t0 h.one.t1 h.one.a0 h.one.a1 h.v0 h.v1).mono fun _ _ ⟨he, hh, hg⟩ =>
    ⟨he, h.onM hg (h.one.grown hh hg (putAt_soft _ _ _ _ h.one.hs) (putAt_range _ _ _ _ _ h.one.t0 h.one.t1 h.v0 h.v1).1 (putAt_range _ _ _ _ _ h.one.t0 h.one.t1 h.v0 h.v1).2 (putAt_range _ _ _ _ _ h.one.a0 h.one.a1 h.v0 h.v1).1 (putAt_range _ _ _ _ _ h.one.a0 h.one.a1 h.v0 h.v1).2)⟩
theorem writeR_dd (h : DD w0 w bm br bx so to_ ao s t a k at_ size v) (hs : s = 0 ∨ s = 1) (t0 : 0 ≤ t) (t1 : t < 18446744073709551616) (a0 : 0 ≤ a) (a1 : a < 18446744073709551616) :
    Calls Try.prog 12 #[.pointer (some ⟨br, 0, none⟩), .int .u64 at_, .int .i64 size, .int .u64 v] w fun e w' => e = .returned (.bool (look at_ size).isSome) ∧
      DD w0 w' bm br bx so to_ ao (putAt 0 at_ size v s) (putAt 1 at_ size v t) (putAt 2 at_ size v a) k at_ size v :=
  (writeR_any at_ size v s t a br w h.ref hs t0 t1 a0 a1 h.v0 h.v1).mono fun _ _ ⟨he, hh, hg⟩ => ⟨he, h.onR hg hh⟩
theorem read_dd (h : DD w0 w bm br bx s t a s' t' a' k at_ size v) (p z : Int) :
    Calls Try.prog 13 #[.pointer (some ⟨bm, 0, none⟩), .int .u64 p, .int .i64 z] w fun e w' => e = .returned (.tuple #[.int .u64 (readC p z s t a).1, .bool (readC p z s t a).2]) ∧ DD w0 w' bm br bx s t a s' t' a' k at_ size v :=
  (read_any p z s t a bm w h.one.heap h.one.range.1 h.one.range.2 h.one.t0 h.one.t1 h.one.a0 h.one.a1).mono fun _ _ ⟨he, hg⟩ => ⟨he, h.quiet hg⟩
theorem readR_dd (h : DD w0 w bm br bx s t a s t a k at_ size v) (p z : Int) :
    Calls Try.prog 14 #[.pointer (some ⟨br, 0, none⟩), .int .u64 p, .int .i64 z] w fun e w' => e = .returned (.tuple #[.int .u64 (readC p z s t a).1, .bool (readC p z s t a).2]) ∧ DD w0 w' bm br bx s t a s t a k at_ size v :=
  (readR_any p z s t a br w h.ref h.one.hs h.one.t0 h.one.t1 h.one.a0 h.one.a1).mono fun _ _ ⟨he, hw⟩ => ⟨he, by rw [hw]; exact h⟩
theorem tick_dd (h : DD w0 w bm br bx s t a s' t' a' k at_ size v) :
    Calls Try.prog 17 #[.pointer (some ⟨bm, 0, none⟩)] w fun e w' => e = .returned (.tuple #[]) ∧ DD w0 w' bm br bx s ((t + 1) % 18446744073709551616) a s' t' a' k at_ size v :=
  (tick_any bm s t a w h.one.heap).mono fun _ _ ⟨he, hh, hg⟩ => by
    rw [IntKind.wrap_u64] at hh
    exact ⟨he, h.onM hg (h.one.grown hh hg h.one.hs (by omega) (by omega) h.one.a0 h.one.a1)⟩
theorem tickR_dd (h : DD w0 w bm br bx s' t' a' s t a k at_ size v) :
    Calls Try.prog 18 #[.pointer (some ⟨br, 0, none⟩)] w fun e w' => e = .returned (.tuple #[]) ∧ DD w0 w' bm br bx s' t' a' s ((t + 1) % 18446744073709551616) a k at_ size v :=
  (tickR_any br s t a w h.ref).mono fun _ _ ⟨he, hh, hg⟩ => by
    rw [IntKind.wrap_u64] at hh
    exact ⟨he, h.onR hg hh⟩
/-- Behind the copies: the new ones, and the old one. -/
structure DO (w0 w : World) (bo bm br bx : Nat) (s t a k at_ size v : Int) : Prop where
  dd : DD w0 w bm br bx s t a s t a k at_ size v
  old : ∃ so to_ ao, St w0 w bo so to_ ao
  nm : bo ≠ bm
  nr : bo ≠ br
  nx : bo ≠ bx
theorem copy_dd (h : DD w0 w bm br bx s t a s t a k at_ size v) :
    Calls Try.prog 15 #[.pointer (some ⟨bm, 0, none⟩)] w fun e w' => ∃ bn, e = .returned (.pointer (some ⟨bn, 0, none⟩)) ∧ DO w0 w' bm bn br bx s t a k at_ size v :=
  (copy_any bm s t a w h.one.heap).mono fun _ _ ⟨he, hh, hg, _⟩ => ⟨_, he, ⟨⟨hh, (h.one.quiet hg).below, h.one.below.size, h.one.hs, h.one.t0, h.one.t1, h.one.a0, h.one.a1⟩, grown_heap h.ref hg, grown_heap h.x hg,
    Nat.ne_of_gt (lt_of_heap h.ref), Nat.ne_of_gt (lt_of_heap h.x), h.nrx, h.base_r, h.v0, h.v1⟩, ⟨s, t, a, h.one.quiet hg⟩, Nat.ne_of_lt (lt_of_heap h.one.heap), h.nmr, h.nmx⟩
theorem copyR_do (h : DO w0 w bo bm br bx s t a k at_ size v) :
    Calls Try.prog 16 #[.pointer (some ⟨br, 0, none⟩)] w fun e w' => ∃ bn, e = .returned (.pointer (some ⟨bn, 0, none⟩)) ∧ DO w0 w' bo bm bn bx s t a k at_ size v :=
  (copyR_any br s t a w h.dd.ref).mono fun _ _ ⟨he, hh, hg, _⟩ => by
    obtain ⟨so, to_, ao, ho⟩ := h.old
    exact ⟨_, he, ⟨h.dd.one.quiet hg, hh, grown_heap h.dd.x hg, Nat.ne_of_lt (lt_of_heap h.dd.one.heap), h.dd.nmx, Nat.ne_of_gt (lt_of_heap h.dd.x), h.dd.one.below.size, h.dd.v0, h.dd.v1⟩, ⟨so, to_, ao, ho.quiet hg⟩, h.nm, Nat.ne_of_lt (lt_of_heap ho.heap), h.nx⟩
theorem write_do (h : DO w0 w bo bm br bx s t a k at_ size v) :
    Calls Try.prog 11 #[.pointer (some ⟨bo, 0, none⟩), .int .u64 at_, .int .i64 size, .int .u64 v] w fun e w' => e = .returned (.bool (look at_ size).isSome) ∧ DO w0 w' bo bm br bx s t a k at_ size v := by
  obtain ⟨so, to_, ao, ho⟩ := h.old
  exact (write_any at_ size v so to_ ao bo w ho.heap ho.range.1 ho.range.2 ho.t0 ho.t1 ho.a0 ho.a1 h.dd.v0 h.dd.v1).mono fun _ _ ⟨he, hh, hg⟩ =>
    ⟨he, h.dd.other hg ho.base h.nm h.nr h.nx, ⟨_, _, _, ho.grown hh hg (putAt_soft _ _ _ _ ho.hs) (putAt_range _ _ _ _ _ ho.t0 ho.t1 h.dd.v0 h.dd.v1).1 (putAt_range _ _ _ _ _ ho.t0 ho.t1 h.dd.v0 h.dd.v1).2 (putAt_range _ _ _ _ _ ho.a0 ho.a1 h.dd.v0 h.dd.v1).1 (putAt_range _ _ _ _ _ ho.a0 ho.a1 h.dd.v0 h.dd.v1).2⟩, h.nm, h.nr, h.nx⟩
theorem read_do (h : DO w0 w bo bm br bx s t a k at_ size v) :
    Calls Try.prog 13 #[.pointer (some ⟨bo, 0, none⟩), .int .u64 at_, .int .i64 size] w fun e w' => ∃ x y, e = .returned (.tuple #[.int .u64 x, .bool y]) ∧ DO w0 w' bo bm br bx s t a k at_ size v := by
  obtain ⟨so, to_, ao, ho⟩ := h.old
  exact (read_any at_ size so to_ ao bo w ho.heap ho.range.1 ho.range.2 ho.t0 ho.t1 ho.a0 ho.a1).mono fun _ _ ⟨he, hg⟩ => ⟨_, _, he, h.dd.quiet hg, ⟨_, _, _, ho.quiet hg⟩, h.nm, h.nr, h.nx⟩
theorem tick_do (h : DO w0 w bo bm br bx s t a k at_ size v) :
    Calls Try.prog 17 #[.pointer (some ⟨bo, 0, none⟩)] w fun e w' => e = .returned (.tuple #[]) ∧ DO w0 w' bo bm br bx s t a k at_ size v := by
  obtain ⟨so, to_, ao, ho⟩ := h.old
  exact (tick_any bo so to_ ao w ho.heap).mono fun _ _ ⟨he, hh, hg⟩ => by
    rw [IntKind.wrap_u64] at hh
    exact ⟨he, h.dd.other hg ho.base h.nm h.nr h.nx, ⟨_, _, _, ho.grown hh hg ho.hs (by omega) (by omega) ho.a0 ho.a1⟩, h.nm, h.nr, h.nx⟩
end

/-- A slice of steps, as it lies in memory. -/
def SL (w : World) (v : Value) (n : Nat) (X : Nat → Int × Int × Int × Int) : Prop :=
  (n = 0 ∧ ∃ A cap, v = .slice A 0 cap) ∨ ∃ (ab ao cap : Nat), v = .slice (some ⟨ab, ao, none⟩) n cap ∧ (0 < n → ab < w.heap.size) ∧ n ≤ 9223372036854775807 ∧
    ∀ i, i < n → w.cell? ⟨ab, ao + i * 4, none⟩ = some (.int .i64 (X i).1) ∧ w.cell? ⟨ab, ao + i * 4 + 1, none⟩ = some (.int .u64 (X i).2.1) ∧ w.cell? ⟨ab, ao + i * 4 + 2, none⟩ = some (.int .i64 (X i).2.2.1) ∧
      w.cell? ⟨ab, ao + i * 4 + 3, none⟩ = some (.int .u64 (X i).2.2.2) ∧ 0 ≤ (X i).2.2.2 ∧ (X i).2.2.2 < 18446744073709551616
end Go.Proofs.Ytiglekmfighgnaa
