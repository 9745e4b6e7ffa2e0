/- Layer 20: helpers of the laws: an argument's halves, equality of items, makers. -/
import Derived.Test.YtblbgalpkodibaaDoorF7
import Derived.Test.YtblbgalpkodibaaDoorOpenL
namespace Go.Proofs.YtblbgalpkodibaaDoor
open Go.RowKit Go.Shelf
theorem b16' {n : Int} (h : (Lit.int .u16 n).wf = true) : 0 ≤ n ∧ n < 65536 := by
  simp [Lit.wf, IntKind.min, IntKind.max, IntKind.signed, IntKind.bits] at h; omega
/-- The halves of a row that is an argument, all at once. -/
theorem half_fun {w : World} {A : Option Addr} {n : Nat} (hS : SlArg [some .u16] w A n) : ∃ X : Nat → Nat, ∀ k, k < n → X k < 65536 ∧ ∀ wr, Below w.heap.size w wr → ∃ ab ao, A = some ⟨ab, ao, none⟩ ∧ wr.cell? ⟨ab, ao + k, none⟩ = some (.int .u16 (X k : Nat)) ∧ ab < wr.heap.size := by
  have h1 : ∀ k, ∃ x : Nat, k < n → x < 65536 ∧ ∀ wr, Below w.heap.size w wr → ∃ ab ao, A = some ⟨ab, ao, none⟩ ∧ wr.cell? ⟨ab, ao + k, none⟩ = some (.int .u16 (x : Nat)) ∧ ab < wr.heap.size := by
    intro k
    by_cases hk : k < n
    · obtain ⟨ab, ao, hA, hab, hX⟩ := hS (by omega)
      obtain ⟨cs, hf, hc⟩ := hX k hk
      have c0 := cell_int hf hc (j := 0) rfl
      simp only [List.length_cons, List.length_nil, Nat.zero_add, Nat.mul_one, Nat.add_zero] at c0
      obtain ⟨b0, b1⟩ := b16' c0.2
      refine ⟨Int.toNat _, fun _ => ⟨(Int.toNat_lt b0).2 b1, fun wr hb => ⟨ab, ao, hA, (hb.cell (p := ⟨ab, _, none⟩) hab).trans ?_, Nat.lt_of_lt_of_le hab hb.size⟩⟩⟩
      rw [Int.toNat_of_nonneg b0]
      exact c0.1
    · exact ⟨0, fun h => absurd h hk⟩
  exact ⟨fun k => (h1 k).choose, fun k hk => (h1 k).choose_spec hk⟩
def ksI : List (Option IntKind) := [some .u64, some .u32, some .u32, some .i64, some .u64, some .u64, some .u64, some .u64, some .u64, some .u64, some .u64, some .i64, some .u64]
theorem flat38 : flat Tryd.prog 8 38 = some ksI := by kernel_rfl
theorem named38 : named Tryd.prog 8 38 = true := by kernel_rfl
theorem kt38 : Tryd.prog.keyTypeAt 8 38 = true := by kernel_rfl
theorem formed38 (x : It) : (Value.agg (itl x).toArray).formed Tryd.prog 38 = true := by kernel_rfl
theorem wf_u64 {x : Int} (h : 0 ≤ x ∧ x < 18446744073709551616) : (Lit.int .u64 x).wf = true := by
  simp [Lit.wf, IntKind.min, IntKind.max, IntKind.signed, IntKind.bits]; omega
theorem wf_u32 {x : Int} (h : 0 ≤ x ∧ x < 4294967296) : (Lit.int .u32 x).wf = true := by
  simp [Lit.wf, IntKind.min, IntKind.max, IntKind.signed, IntKind.bits]; omega
theorem wf_i64 {x : Int} (h : -9223372036854775808 ≤ x ∧ x < 9223372036854775808) : (Lit.int .i64 x).wf = true := by
  simp [Lit.wf, IntKind.min, IntKind.max, IntKind.signed, IntKind.bits]; omega
theorem fits_it {x : It} (h : II x) : Fits ksI (itl x) := by
  have hs := h.size
  have hk := h.mrk.size
  have hh := h.mrk.hist
  exact ⟨⟨_, rfl, wf_u64 h.pc⟩, ⟨_, rfl, wf_u32 h.bits⟩, ⟨_, rfl, wf_u32 h.inst⟩, ⟨_, rfl, wf_i64 (by omega)⟩, ⟨_, rfl, wf_u64 h.cause⟩, ⟨_, rfl, wf_u64 h.tval⟩, ⟨_, rfl, wf_u64 h.nxt⟩,
    ⟨_, rfl, wf_u64 (h.mrk.stk 0 (by omega))⟩, ⟨_, rfl, wf_u64 (h.mrk.stk 1 (by omega))⟩, ⟨_, rfl, wf_u64 (h.mrk.stk 2 (by omega))⟩, ⟨_, rfl, wf_u64 (h.mrk.stk 3 (by omega))⟩, ⟨_, rfl, wf_i64 (by omega)⟩, ⟨_, rfl, wf_u64 (by omega)⟩, trivial⟩
theorem neql38 {x : It} (h : II x) (w : World) : (binOp .neq 38 (.agg (itl x).toArray) (.agg (itl x).toArray)).run Tryd.prog w = .ok (.bool false) w :=
  run_neq_same flat38 named38 kt38 (formed38 x) (fits_it h)
theorem eqg38 {op : BinOp} {x y : Operand} {A B : Array Value} {v : Value} {w : World} (h : (binOp op 38 (.agg A) (.agg B)).run Tryd.prog w = .ok v w) : (do eqGuard op 38 x y (.agg A) (.agg B); binOp op 38 (.agg A) (.agg B) : Sem Value).run Tryd.prog w = .ok v w := by
  simp only [Sem.run_bind, run_eqGuard_agg (P := Tryd.prog) w op 38 x y A B (by kernel_rfl), Result.andThen_ok, h]
theorem item_at {w : World} {g o n cap k : Nat} {q : List It} {x : It} (h : Sl w 13 (.slice (some ⟨g, o, none⟩) n cap) n (itsC q)) (hq : q[k]? = some x) : w.rangeAt g (o + k * 13) (itl x) := fun j u hj => by
  have hj13 : j < 13 := by
    have := (List.getElem?_eq_some_iff.1 hj).1
    simpa [itl_len] using this
  have h1 := (h.cells_at rfl (k * 13 + j) u (by rw [itsC_get hj13 hq]; exact hj))
  rw [Addr.add_mid] at h1
  rw [show o + k * 13 + j = o + (k * 13 + j) by omega]
  exact h1
/-- At a function's end: the marks of many ranges over a function are taken, the last one first. -/
theorem leaves_marks {w0 : World} {L : List HP} {f : Func} {tmps : Array Value} {R : Ending → World → Prop} (k : ∀ w', Heap w0 w' L → ∃ v, (results f tmps).run Tryd.prog w' = .ok v w' ∧ R (.returned v) w') :
    ∀ (Ds : List Nat) {w : World}, Heap w0 w (Ds.map (fun D => HP.obj D (.deferred (some []))) ++ L) → LeavesInM Fence.wide 6 Tryd.prog f tmps R (Ds.map fun D => { target := .collected D, args := #[] }) .returning w
  | [], w, h => by
    obtain ⟨v, h1, h2⟩ := k w h
    exact ⟨v, h1, h2⟩
  | D :: Ds, w, h => ⟨by simp, .inl ⟨_, _, rfl, run_takeDeferred (Heap.obj h), leaves_marks k Ds (Heap.putObj h (.deferred none)).tail⟩⟩
/-- A box with a slice of items. -/
def HP.ah (k : Nat) (l : List It) : HP := HP.any fun v : Value => (HP.blk k ([v] : List Value).toArray 45).star (HP.slw v 13 l.length (itsC l))
theorem Heap.ah {w0 w : World} {L : List HP} {k : Nat} {l : List It} : Heap w0 w (HP.ah k l :: L) ↔ ∃ v, Heap w0 w (HP.blk k ([v] : List Value).toArray 45 :: HP.slw v 13 l.length (itsC l) :: L) := by
  simp only [HP.ah, Heap.any, Heap.star]
theorem HP.ah_co (k : Nat) (l : List It) : (HP.ah k l).co := HP.any_co fun _ => HP.star_co (HP.blk_co _ _ _) (HP.slw_co _ _ _ _)
theorem CoB.ah {B k : Nat} {l : List It} {L : List HP} (h : CoB B L) : CoB B (HP.ah k l :: L) := .cons (co_b (HP.ah_co _ _) B) h
theorem ii_zero : II zeroI := ⟨z64, z32, z32, z4, z64, z64, z64, ⟨rfl, rfl⟩, mb_zero⟩
theorem II.head {F : Fr} (h : FI F) : II (headI F) := by
  unfold headI
  cases hq : F.q with
  | nil => exact ii_zero
  | cons x q => exact h.all x (by rw [hq]; simp)
theorem can_fail {F : Fr} (cause : Int) : canF (failF F cause) = false := by
  unfold failF
  cases hc : canF F
  · simp [hc]
  · rfl
end Go.Proofs.YtblbgalpkodibaaDoor
