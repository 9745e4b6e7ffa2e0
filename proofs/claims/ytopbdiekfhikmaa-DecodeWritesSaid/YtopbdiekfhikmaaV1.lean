/- A call that is not the event of a region. / Layer 3, the document's side: has, op, op3, op7, sized, worded. / Layer 3, the document's side: letter, pieces. -/
import Derived.Test.YtopbdiekfhikmaaRegionX
import Derived.Test.YtopbdiekfhikmaaD10
namespace Go.Proofs.Ytopbdiekfhikmaa
open Go.RowKit
section
variable {P : Program} {ops : Array Oper}
theorem xcallm {J : Bool → World → Prop} {M : Nat → World → World → Prop} {Φ : Nat → Value → World → Prop} {e : Nat} {vals : Nat → Value} {i : Nat} {o : Oper} {a : Act} (hie : i ≠ e) (f : FuncId) (args : Array Value)
    (h : ∀ fl w, J fl w → (∀ k, k < ops.size → waitsOn o k = true → Φ k (vals k) w) → Region.wanted o (yielded ops a.tmps) = true ∧ (execOp a.eval o).run P w = .ok (.enter f args) w ∧
      Calls P f args w fun e w'' => ∃ u, e = .returned u ∧ J fl w'' ∧ M i w w'' ∧ Φ i u w'') : XStep P ops e J M Φ vals i o a := by
  refine ⟨fun fl w _ _ hJ hd => ?_⟩
  obtain ⟨h1, h2, h3⟩ := h fl w hJ hd
  rw [if_pos h1, h2]
  refine h3.mono fun e' w'' ⟨u, he, h4, h5⟩ => ⟨u, he, by simpa [hie] using h4, h5⟩
end
end Go.Proofs.Ytopbdiekfhikmaa
namespace Go.Proofs.Ytopbdiekfhikmaa
open Go.RowKit

def hasF (F : ByteArray) (c : Int) : Bool := F.data.toList.any fun x => decide ((x.toNat : Int) = c)
theorem bget {F : ByteArray} {k : Nat} (h : k < F.size) : F.data.toList[k]? = some F[k] := by
  rw [List.getElem?_eq_getElem (by simpa using h)]
  rfl
set_option maxRecDepth 100000 in
theorem has_any (F : ByteArray) (hF : F.size ≤ 1000) (c : Int) (w : World) : Calls Try.prog 44 #[.string F, .int .u8 c] w fun r w' => r = .returned (.bool (hasF F c)) ∧ w' = w := by
  go_enter Try.func44, Try.ntmps44
  go_wp2
  go_loopw [5] (fun i wr => ∃ k : Nat, i = .int .i64 k ∧ k ≤ F.size ∧ (∀ j x, j < k → F.data.toList[j]? = some x → (x.toNat : Int) ≠ c) ∧ wr = w) (fun i _ => F.size - (intOf i).toNat)
  case atStart => exact ⟨0, rfl, Nat.zero_le _, fun j x h => by omega, rfl⟩
  case round =>
    obtain ⟨k, rfl, hk, hno, rfl⟩ := hrel
    have HN := hide hno
    clear hno
    by_cases hlt : k < F.size
    · by_cases hq : (F[k].toNat : Int) = c
      · have hz : ((F[k].toNat : Int) == c) = true := beq_iff_eq.2 hq
        have HQ := hide hq
        clear hq
        go_wp2
        go_ret
        have h9 : hasF F c = true := List.any_eq_true.2 ⟨F[k], List.mem_of_getElem? (bget hlt), decide_eq_true (unhide HQ)⟩
        exact ⟨by rw [h9]; rfl, rfl⟩
      · have hz : ((F[k].toNat : Int) == c) = false := beq_eq_false_iff_ne.2 hq
        have HQ := hide hq
        clear hq
        go_wp2
        refine ⟨⟨k + 1, by go_num, by omega, fun j x hj hx => ?_, trivial⟩, by simp [intOf]; omega⟩
        by_cases hjk : j = k
        · subst hjk
          rw [bget hlt] at hx
          injection hx with hx
          rw [← hx]
          exact unhide HQ
        · exact unhide HN j x (by omega) hx
    · obtain rfl : k = F.size := by omega
      go_wp2
      go_ret
      have h9 : hasF F c = false := List.any_eq_false.2 fun x hx => by
        obtain ⟨j, hj⟩ := List.getElem?_of_mem hx
        have hjl := (List.getElem?_eq_some_iff.1 hj).1
        have := unhide HN j x hjl hj
        simpa using this
      exact ⟨by rw [h9]; rfl, rfl⟩
structure RowS where
  mask : Int
  bits : Int
  kind : Int
  form : ByteArray
  size : Int
  word : Bool
  uns : Bool
def RowS.cs (r : RowS) : List Value := [.int .u32 r.mask, .int .u32 r.bits, .int .i64 r.kind, .string r.form, .int .i64 r.size, .bool r.word, .bool r.uns]
theorem op_any (o kind : Int) (F : ByteArray) (w : World) : Calls Try.prog 58 #[.int .u32 o, .int .i64 kind, .string F] w fun r w' => r = .returned (.agg (RowS.mk 127 o kind F 0 false false).cs.toArray) ∧ GN w w' := by
  go_enter Try.func58, Try.ntmps58
  go_wp2
  exact bodyPost_ret (v := .agg (RowS.mk 127 o kind F 0 false false).cs.toArray) (results_cell_row rfl _ _ w.heap.size 49 (RowS.mk 127 o kind F 0 false false).cs.toArray (0, 0) _ rfl (heap_new' w _) Try.underlying49 rfl (by kernel_rfl)) rfl ⟨rfl, (GN.refl w).alloc _⟩
theorem or_u32 (n : Nat) (x y : Int) (hx0 : 0 ≤ x) (hx : x < 2 ^ n) (hy0 : 0 ≤ y) (hy : y < 4294967296) (hm : y.toNat % 2 ^ n = 0) (hn : n ≤ 32) : Go.bits .or .u32 x y = x + y := by
  have p : (2 : Int) ^ n = ((2 ^ n : Nat) : Int) := by simp
  have p2 : 2 ^ n ≤ 2 ^ 32 := Nat.pow_le_pow_right (by decide) hn
  rw [u32_or x y hx0 (by omega) hy0 hy, Nat.or_comm, nat_or_parts n _ _ hm (by omega)]
  omega
theorem op3_any (o f3 kind : Int) (F : ByteArray) (w : World) (o0 : 0 ≤ o) (o1 : o < 4096) (f0 : 0 ≤ f3) (f1 : f3 < 8) : Calls Try.prog 59 #[.int .u32 o, .int .u32 f3, .int .i64 kind, .string F] w fun r w' => r = .returned (.agg (RowS.mk 28799 (o + f3 * 4096) kind F 0 false false).cs.toArray) ∧ GN w w' := by
  have hs : IntKind.u32.wrap (f3 * 4096) = f3 * 4096 := by rw [IntKind.wrap_u32]; omega
  have ho : Go.bits .or .u32 o (f3 * 4096) = o + f3 * 4096 := or_u32 12 o (f3 * 4096) o0 o1 (by omega) (by omega) (by omega) (by decide)
  go_enter Try.func59, Try.ntmps59
  go_wp2
  exact bodyPost_ret (v := .agg (RowS.mk 28799 (o + f3 * 4096) kind F 0 false false).cs.toArray) (results_cell_row rfl _ _ w.heap.size 49 (RowS.mk 28799 (o + f3 * 4096) kind F 0 false false).cs.toArray (0, 0) _ rfl (heap_new' w _) Try.underlying49 rfl (by kernel_rfl)) rfl ⟨rfl, (GN.refl w).alloc _⟩
theorem op7_any (o f3 f7 kind : Int) (F : ByteArray) (w : World) (o0 : 0 ≤ o) (o1 : o < 4096) (f0 : 0 ≤ f3) (f1 : f3 < 8) (g0 : 0 ≤ f7) (g1 : f7 < 128) :
    Calls Try.prog 62 #[.int .u32 o, .int .u32 f3, .int .u32 f7, .int .i64 kind, .string F] w fun r w' => r = .returned (.agg (RowS.mk 4261441663 (o + f3 * 4096 + f7 * 33554432) kind F 0 false false).cs.toArray) ∧ GN w w' := by
  have hs : IntKind.u32.wrap (f3 * 4096) = f3 * 4096 := by rw [IntKind.wrap_u32]; omega
  have ho : Go.bits .or .u32 o (f3 * 4096) = o + f3 * 4096 := or_u32 12 o (f3 * 4096) o0 o1 (by omega) (by omega) (by omega) (by decide)
  have hs2 : IntKind.u32.wrap (f7 * 33554432) = f7 * 33554432 := by rw [IntKind.wrap_u32]; omega
  have ho2 : Go.bits .or .u32 (o + f3 * 4096) (f7 * 33554432) = o + f3 * 4096 + f7 * 33554432 := or_u32 25 (o + f3 * 4096) (f7 * 33554432) (by omega) (by omega) (by omega) (by omega) (by omega) (by decide)
  go_enter Try.func62, Try.ntmps62
  go_wp2
  exact bodyPost_ret (v := .agg (RowS.mk 4261441663 (o + f3 * 4096 + f7 * 33554432) kind F 0 false false).cs.toArray) (results_cell_row rfl _ _ w.heap.size 49 (RowS.mk 4261441663 (o + f3 * 4096 + f7 * 33554432) kind F 0 false false).cs.toArray (0, 0) _ rfl (heap_new' w _) Try.underlying49 rfl (by kernel_rfl)) rfl ⟨rfl, (GN.refl w).alloc _⟩
theorem heap_new2 (w : World) (A B : Obj) : ((w.alloc A).alloc B).heap[w.heap.size + 1]? = some B := by
  have := heap_new' (w.alloc A) B
  simpa using this
theorem sized_any (r : RowS) (z : Int) (w : World) : Calls Try.prog 60 #[.agg r.cs.toArray, .int .i64 z] w fun e w' => e = .returned (.agg ({ r with size := z } : RowS).cs.toArray) ∧ GN w w' := by
  unfold RowS.cs
  go_enter Try.func60, Try.ntmps60
  go_wp2
  exact bodyPost_ret (v := .agg ({ r with size := z } : RowS).cs.toArray) (results_cell_row rfl _ _ (w.heap.size + 1) 49 ({ r with size := z } : RowS).cs.toArray (0, 0) _ rfl (heap_new2 w _ _) Try.underlying49 rfl (by kernel_rfl)) rfl ⟨rfl, ((GN.refl w).alloc _).alloc _⟩
theorem worded_any (r : RowS) (a b : Bool) (w : World) : Calls Try.prog 61 #[.agg r.cs.toArray, .bool a, .bool b] w fun e w' => e = .returned (.agg ({ r with word := a, uns := b } : RowS).cs.toArray) ∧ GN w w' := by
  unfold RowS.cs
  go_enter Try.func61, Try.ntmps61
  go_wp2
  exact bodyPost_ret (v := .agg ({ r with word := a, uns := b } : RowS).cs.toArray) (results_cell_row rfl _ _ (w.heap.size + 1) 49 ({ r with word := a, uns := b } : RowS).cs.toArray (0, 0) _ rfl (heap_new2 w _ _) Try.underlying49 rfl (by kernel_rfl)) rfl ⟨rfl, ((GN.refl w).alloc _).alloc _⟩
/-- The letter of a form's immediate. -/
def letF (F : ByteArray) : Int := if hasF F 73 then 73 else if hasF F 83 then 83 else if hasF F 66 then 66 else if hasF F 85 then 85 else if hasF F 74 then 74 else 0
end Go.Proofs.Ytopbdiekfhikmaa
namespace Go.Proofs.Ytopbdiekfhikmaa
open Go.RowKit

/-- A slice of a block of its own. -/
theorem Heap.newS {w0 w : World} {L : List HP} (h : Heap w0 w L) (xs : List Value) (T : TypeId) (n sz : Nat) (hl : xs.length = n * sz) : Heap w0 (w.alloc (.cells xs.toArray T)) (HP.slw (.slice (some ⟨w.heap.size, 0, none⟩) n n) sz n xs :: L) :=
  h.make (w' := w.alloc (.cells xs.toArray T)) (As := [HP.slw (.slice (some ⟨w.heap.size, 0, none⟩) n n) sz n xs]) (ds := [_]) ⟨rfl, rfl, rfl, by simp, fun k hk _ => Below.heap_alloc w _ k hk⟩
    (.cons ⟨sl_blk (heap_new' w _) hl, rfl⟩ .nil) (List.pairwise_singleton _ _) (fun c hc x hx => by
    simp only [List.mem_cons, List.mem_nil_iff, or_false] at hc
    subst hc
    rcases hx with hx | hx <;> (injection hx with hx; exact hx ▸ Nat.le_refl _))
/-- The pieces of an immediate: lowest place in the instruction, how many, lowest place in the number. -/
def pcs (c : Int) : List (Int × Int × Int) :=
  if c = 73 then [(20, 12, 0)] else if c = 83 then [(7, 5, 0), (25, 7, 5)] else if c = 66 then [(8, 4, 1), (25, 6, 5), (7, 1, 11), (31, 1, 12)] else if c = 85 then [(12, 20, 12)] else if c = 74 then [(21, 10, 1), (20, 1, 11), (12, 8, 12), (31, 1, 20)] else []
def pcsC (l : List (Int × Int × Int)) : List Value := l.flatMap fun p => [.int .i64 p.1, .int .i64 p.2.1, .int .i64 p.2.2]
section
variable {w0 w : World} {L : List HP}
end
set_option maxRecDepth 100000 in
theorem letter_any (F : ByteArray) (hF : F.size ≤ 1000) (w : World) : Calls Try.prog 56 #[.string F] w fun r w' => r = .returned (.int .u8 (letF F)) ∧ w' = w := by
  go_enter Try.func56, Try.ntmps56
  go_wp2
  go_loopw [4] (fun i wr => ∃ k : Nat, i = .int .i64 k ∧ k ≤ 5 ∧ (0 < k → hasF F 73 = false) ∧ (1 < k → hasF F 83 = false) ∧ (2 < k → hasF F 66 = false) ∧ (3 < k → hasF F 85 = false) ∧ (4 < k → hasF F 74 = false) ∧ wr = w) (fun i _ => 5 - (intOf i).toNat)
  case atStart => exact ⟨0, rfl, by omega, by omega, by omega, by omega, by omega, by omega, rfl⟩
  case round =>
    obtain ⟨k, rfl, hk, a1, a2, a3, a4, a5, rfl⟩ := hrel
    have HA := hide (And.intro a1 (And.intro a2 (And.intro a3 (And.intro a4 a5))))
    clear a1 a2 a3 a4 a5
    have hc : k = 0 ∨ k = 1 ∨ k = 2 ∨ k = 3 ∨ k = 4 ∨ k = 5 := by omega
    rcases hc with rfl | rfl | rfl | rfl | rfl | rfl
    · go_wp2_with fail
      refine (has_any F hF 73 _).mono ?_
      rintro r w2 ⟨rfl, rfl⟩
      cases hh : hasF F 73 with
      | true =>
        have HL := hide (show letF F = 73 by
          obtain ⟨a1, a2, a3, a4, a5⟩ := unhide HA
          unfold letF
          rw [hh]; rfl)
        clear HA
        go_wp2
        go_ret
        exact ⟨by rw [unhide HL]; rfl, rfl⟩
      | false =>
        have HH := hide hh
        clear hh
        go_wp2
        obtain ⟨a1, a2, a3, a4, a5⟩ := unhide HA
        have hh := unhide HH
        exact ⟨⟨1, by go_num, by omega, fun _ => hh, by omega, by omega, by omega, by omega, trivial⟩, by simp [intOf]⟩
    · go_wp2_with fail
      refine (has_any F hF 83 _).mono ?_
      rintro r w2 ⟨rfl, rfl⟩
      cases hh : hasF F 83 with
      | true =>
        have HL := hide (show letF F = 83 by
          obtain ⟨a1, a2, a3, a4, a5⟩ := unhide HA
          unfold letF
          simp only [hh, a1 (by omega), if_true, if_false, Bool.false_eq_true])
        clear HA
        go_wp2
        go_ret
        exact ⟨by rw [unhide HL]; rfl, rfl⟩
      | false =>
        have HH := hide hh
        clear hh
        go_wp2
        obtain ⟨a1, a2, a3, a4, a5⟩ := unhide HA
        have hh := unhide HH
        exact ⟨⟨2, by go_num, by omega, fun _ => a1 (by omega), fun _ => hh, by omega, by omega, by omega, trivial⟩, by simp [intOf]⟩
    · go_wp2_with fail
      refine (has_any F hF 66 _).mono ?_
      rintro r w2 ⟨rfl, rfl⟩
      cases hh : hasF F 66 with
      | true =>
        have HL := hide (show letF F = 66 by
          obtain ⟨a1, a2, a3, a4, a5⟩ := unhide HA
          unfold letF
          simp only [hh, a1 (by omega), a2 (by omega), if_true, if_false, Bool.false_eq_true])
        clear HA
        go_wp2
        go_ret
        exact ⟨by rw [unhide HL]; rfl, rfl⟩
      | false =>
        have HH := hide hh
        clear hh
        go_wp2
        obtain ⟨a1, a2, a3, a4, a5⟩ := unhide HA
        have hh := unhide HH
        exact ⟨⟨3, by go_num, by omega, fun _ => a1 (by omega), fun _ => a2 (by omega), fun _ => hh, by omega, by omega, trivial⟩, by simp [intOf]⟩
    · go_wp2_with fail
      refine (has_any F hF 85 _).mono ?_
      rintro r w2 ⟨rfl, rfl⟩
      cases hh : hasF F 85 with
      | true =>
        have HL := hide (show letF F = 85 by
          obtain ⟨a1, a2, a3, a4, a5⟩ := unhide HA
          unfold letF
          simp only [hh, a1 (by omega), a2 (by omega), a3 (by omega), if_true, if_false, Bool.false_eq_true])
        clear HA
        go_wp2
        go_ret
        exact ⟨by rw [unhide HL]; rfl, rfl⟩
      | false =>
        have HH := hide hh
        clear hh
        go_wp2
        obtain ⟨a1, a2, a3, a4, a5⟩ := unhide HA
        have hh := unhide HH
        exact ⟨⟨4, by go_num, by omega, fun _ => a1 (by omega), fun _ => a2 (by omega), fun _ => a3 (by omega), fun _ => hh, by omega, trivial⟩, by simp [intOf]⟩
    · go_wp2_with fail
      refine (has_any F hF 74 _).mono ?_
      rintro r w2 ⟨rfl, rfl⟩
      cases hh : hasF F 74 with
      | true =>
        have HL := hide (show letF F = 74 by
          obtain ⟨a1, a2, a3, a4, a5⟩ := unhide HA
          unfold letF
          simp only [hh, a1 (by omega), a2 (by omega), a3 (by omega), a4 (by omega), if_true, if_false, Bool.false_eq_true])
        clear HA
        go_wp2
        go_ret
        exact ⟨by rw [unhide HL]; rfl, rfl⟩
      | false =>
        have HH := hide hh
        clear hh
        go_wp2
        obtain ⟨a1, a2, a3, a4, a5⟩ := unhide HA
        have hh := unhide HH
        exact ⟨⟨5, by go_num, by omega, fun _ => a1 (by omega), fun _ => a2 (by omega), fun _ => a3 (by omega), fun _ => a4 (by omega), fun _ => hh, trivial⟩, by simp [intOf]⟩
    · have HL := hide (show letF F = 0 by
        obtain ⟨a1, a2, a3, a4, a5⟩ := unhide HA
        unfold letF
        simp only [a1 (by omega), a2 (by omega), a3 (by omega), a4 (by omega), a5 (by omega), if_false, Bool.false_eq_true])
      clear HA
      go_wp2
      go_ret
      exact ⟨by rw [unhide HL]; rfl, rfl⟩
end Go.Proofs.Ytopbdiekfhikmaa
