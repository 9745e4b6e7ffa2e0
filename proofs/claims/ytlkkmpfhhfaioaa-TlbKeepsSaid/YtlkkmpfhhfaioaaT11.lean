/- Layer 15, the reference: cells; place. -/
import Derived.Test.YtlkkmpfhhfaioaaT10
namespace Go.Proofs.Ytlkkmpfhhfaioaa
open Go.RowKit

theorem Sl.addr {w : World} {sz n : Nat} {v : Value} {xs : List Value} (h : Sl w sz v n xs) (hn : 0 < n) : ∃ g o cap, v = .slice (some ⟨g, o, none⟩) n cap ∧ n ≤ cap := by
  rcases h.form with ⟨_, h0⟩ | ⟨g, o, cap, cur, T, hv, _, hc, _⟩
  · omega
  · exact ⟨g, o, cap, hv, hc⟩
theorem Sl.at_ {w : World} {sz n g o cap : Nat} {xs : List Value} (h : Sl w sz (.slice (some ⟨g, o, none⟩) n cap) n xs) {j : Nat} (hj : j < n * sz) : g < w.heap.size ∧ w.cell? ⟨g, o + j, none⟩ = xs[j]? ∧ w.frozen? ⟨g, o + j, none⟩ = false := by
  obtain ⟨g', o', cap', hv, _, hg, _, hc, hf⟩ := h.cell hj
  injection hv with h1
  injection h1 with h1
  injection h1 with e1 e2
  subst e1; subst e2
  exact ⟨hg, hc, hf⟩
theorem entCells {w : World} {g o cap : Nat} {S : Slots} (h : Sl w 5 (.slice (some ⟨g, o, none⟩) 8 cap) 8 (L40 S)) {k : Nat} (hk : k < 8) : g < w.heap.size ∧
    w.cell? ⟨g, o + k * 5, none⟩ = some (.int .u64 (ent S k).at_) ∧ w.cell? ⟨g, o + k * 5 + 1, none⟩ = some (.int .i64 (ent S k).lv) ∧ w.cell? ⟨g, o + k * 5 + 2, none⟩ = some (.int .u64 (ent S k).sp) ∧ w.cell? ⟨g, o + k * 5 + 3, none⟩ = some (.bool (ent S k).gl) ∧ w.cell? ⟨g, o + k * 5 + 4, none⟩ = some (.int .u64 (ent S k).lf) := by
  have key : ∀ j, j < 5 → w.cell? ⟨g, o + k * 5 + j, none⟩ = some ((ent S k).cs.getD j undef) := by
    intro j hj
    rw [Nat.add_assoc, (h.at_ (j := k * 5 + j) (by omega)).2.1, L40_get, if_pos (by omega), show (k * 5 + j) / 5 = k by omega, show (k * 5 + j) % 5 = j by omega]
  exact ⟨(h.at_ (j := 0) (by omega)).1, key 0 (by omega), key 1 (by omega), key 2 (by omega), key 3 (by omega), key 4 (by omega)⟩
theorem fullCell {w : World} {g o cap : Nat} {S : Slots} (h : Sl w 1 (.slice (some ⟨g, o, none⟩) 8 cap) 8 (L8 S)) {k : Nat} (hk : k < 8) : g < w.heap.size ∧ w.cell? ⟨g, o + k, none⟩ = some (.bool (S k).isSome) ∧ w.frozen? ⟨g, o + k, none⟩ = false := by
  obtain ⟨h1, h2, h3⟩ := h.at_ (j := k) (by omega)
  rw [L8_get, if_pos hk] at h2
  exact ⟨h1, h2, h3⟩
theorem cells3 {w : World} {b : Nat} {a0 a1 a2 : Value} {T : TypeId} (h : w.heap[b]? = some (.cells #[a0, a1, a2] T (0, 0))) :
    w.cell? ⟨b, 0, none⟩ = some a0 ∧ w.cell? ⟨b, 1, none⟩ = some a1 ∧ w.cell? ⟨b, 2, none⟩ = some a2 ∧ w.frozen? ⟨b, 0, none⟩ = false ∧ w.frozen? ⟨b, 1, none⟩ = false ∧ w.frozen? ⟨b, 2, none⟩ = false := by
  simp [World.cell?, World.frozen?, h]
def eqk (f e : E) : Bool := (f.at_ == e.at_) && (f.lv == e.lv) && (f.gl == e.gl) && (e.gl || (f.sp == e.sp))
theorem eqk_key (f e : E) : eqk f e = true ↔ f.key = e.key := by
  obtain ⟨a, b, c, g, d⟩ := f
  obtain ⟨a', b', c', g', d'⟩ := e
  unfold eqk E.key
  cases g <;> cases g' <;> simp [and_assoc]
def pseed (S : Slots) (seed : Int) (k : K) : Int := match place S k with | some _ => seed | none => slotSeed S seed
theorem pseed_some {S : Slots} {seed : Int} {k : K} {n : Nat} (h : place S k = some n) : pseed S seed k = seed := by unfold pseed; rw [h]
theorem pseed_none {S : Slots} {seed : Int} {k : K} (h : place S k = none) : pseed S seed k = slotSeed S seed := by unfold pseed; rw [h]
theorem slot_free {S : Slots} {seed : Int} {n : Nat} (h : freeN S = some n) : slot S seed = n ∧ slotSeed S seed = seed := by unfold slot slotSeed; rw [h]; exact ⟨rfl, rfl⟩
theorem slot_full {S : Slots} {seed : Int} (h : freeN S = none) : slot S seed = (nxt seed / 2305843009213693952).toNat ∧ slotSeed S seed = nxt seed := by unfold slot slotSeed; rw [h]; exact ⟨rfl, rfl⟩
section
variable {w0 w : World} {L : List HP} {seed : Int} {b g1 o1 c1 g2 o2 c2 : Nat} {S : Slots} {e : E}
set_option maxRecDepth 100000 in
set_option maxHeartbeats 4000000 in
theorem place_h (h : Heap w0 w (HP.blk b #[.slice (some ⟨g1, o1, none⟩) 8 c1, .slice (some ⟨g2, o2, none⟩) 8 c2, .int .u64 seed] 61 :: HP.slw (.slice (some ⟨g1, o1, none⟩) 8 c1) 5 8 (L40 S) :: HP.slw (.slice (some ⟨g2, o2, none⟩) 8 c2) 1 8 (L8 S) :: L)) (hI : Inv S) (he : e.ok) :
    Calls Try.prog 27 #[.pointer (some ⟨b, 0, none⟩), .agg #[.int .u64 e.at_, .int .i64 e.lv, .int .u64 e.sp, .bool e.gl, .int .u64 e.lf]] w fun r w' => r = .returned (.int .i64 (((place S e.key).getD (slot S seed) : Nat) : Int)) ∧
      Heap w0 w' (HP.blk b #[.slice (some ⟨g1, o1, none⟩) 8 c1, .slice (some ⟨g2, o2, none⟩) 8 c2, .int .u64 (pseed S seed e.key)] 61 :: HP.slw (.slice (some ⟨g1, o1, none⟩) 8 c1) 5 8 (L40 S) :: HP.slw (.slice (some ⟨g2, o2, none⟩) 8 c2) 1 8 (L8 S) :: L) := by
  have hx0 := hide (h.alloc (.cells #[.int .u64 e.at_, .int .i64 e.lv, .int .u64 e.sp, .bool e.gl, .int .u64 e.lf] 36))
  obtain ⟨ex, elv, esp, egl, elf⟩ := e
  have hG0 := (GN.refl w).alloc (.cells #[.int .u64 ex, .int .i64 elv, .int .u64 esp, .bool egl, .int .u64 elf] 36)
  have hE0 := heap_new' w (.cells #[.int .u64 ex, .int .i64 elv, .int .u64 esp, .bool egl, .int .u64 elf] 36)
  clear h
  go_enter Try.func27, Try.ntmps27
  go_wp2
  go_loopw [5] (fun i wr => ∃ k : Nat, i = .int .i64 k ∧ k ≤ 8 ∧ (∀ j f, j < k → S j = some f → f.key ≠ (⟨ex, elv, esp, egl, elf⟩ : E).key) ∧ wr.heap[w.heap.size]? = some (.cells #[.int .u64 ex, .int .i64 elv, .int .u64 esp, .bool egl, .int .u64 elf] 36 (0, 0)) ∧ Heap w0 wr (HP.blk b #[.slice (some ⟨g1, o1, none⟩) 8 c1, .slice (some ⟨g2, o2, none⟩) 8 c2, .int .u64 seed] 61 :: HP.slw (.slice (some ⟨g1, o1, none⟩) 8 c1) 5 8 (L40 S) :: HP.slw (.slice (some ⟨g2, o2, none⟩) 8 c2) 1 8 (L8 S) :: L)) (fun i _ => 8 - (intOf i).toNat)
  case atStart => exact ⟨0, rfl, Nat.zero_le _, fun j f h => by omega, hE0, unhide hx0⟩
  case round =>
    obtain ⟨k, rfl, hk, hno, hE, hJ⟩ := hrel
    clear hE0 hG0 hx0
    by_cases hlt8 : k < 8
    · have hNo := hide hno
      clear hno
      have hb3 := cells3 hJ.heap
      have hbl := lt_of_heap' hJ.heap
      obtain ⟨hgl1, d0, d1, d2, d3, d4⟩ := entCells hJ.f2.slw hlt8
      obtain ⟨hgl2, df, _⟩ := fullCell hJ.f3.slw hlt8
      have hEl := lt_of_heap' hE
      have hE5 := cells5 hE
      have stay : ∀ f, eqk f ⟨ex, elv, esp, egl, elf⟩ = false → S k = some f → ∀ j f, j < k + 1 → S j = some f → f.key ≠ (⟨ex, elv, esp, egl, elf⟩ : E).key := by
        intro f hf hs j f' hj hs' hk'
        by_cases hjk : j = k
        · subst hjk
          rw [hs] at hs'; injection hs' with hs'; subst hs'
          rw [(eqk_key f _).2 hk'] at hf; cases hf
        · exact unhide hNo j f' (by omega) hs' hk'
      cases hS : S k with
      | none =>
        rw [hS] at df
        simp only [Option.isSome_none] at df
        have hS := hide hS
        generalize ent S k = f at *
        clear stay
        go_wp2
        refine ⟨⟨k + 1, by go_num, by omega, fun j f' hj hs' => by
            by_cases hjk : j = k
            · subst hjk; rw [unhide hS] at hs'; cases hs'
            · exact unhide hNo j f' (by omega) hs', (Below.heap_alloc wr _ _ hEl).trans hE, hJ.alloc _⟩, by simp [intOf]; omega⟩
      | some f =>
        have hen : ent S k = f := by unfold ent; rw [hS]; rfl
        rw [hen] at d0 d1 d2 d3 d4
        rw [hS] at df
        simp only [Option.isSome_some] at df
        have stay := fun hf => hide (stay f hf hS)
        have found : eqk f ⟨ex, elv, esp, egl, elf⟩ = true → Hid (place S (⟨ex, elv, esp, egl, elf⟩ : E).key = some k) := fun hf => hide ((eqk_key f _).1 hf ▸ place_of hI hlt8 hS)
        clear hS hen
        obtain ⟨fx, flv, fsp, fgl, flf⟩ := f
        by_cases q1 : fx = ex
        · subst q1
          by_cases q2 : flv = elv
          · subst q2
            by_cases q3 : fgl = egl
            · subst q3
              cases fgl with
              | true =>
                have hpl := found (by simp [eqk])
                clear stay found
                go_wp2
                go_ret
                rw [unhide hpl, pseed_some (unhide hpl)]
                exact ⟨rfl, hJ.alloc _⟩
              | false =>
                by_cases q4 : fsp = esp
                · subst q4
                  have hpl := found (by simp [eqk])
                  clear stay found
                  go_wp2
                  go_ret
                  rw [unhide hpl, pseed_some (unhide hpl)]
                  exact ⟨rfl, hJ.alloc _⟩
                · have hst := stay (by simp [eqk, q4])
                  have z : (fsp == esp) = false := beq_eq_false_iff_ne.2 q4
                  clear stay found
                  go_wp2
                  refine ⟨⟨k + 1, by go_num, by omega, unhide hst, (Below.heap_alloc wr _ _ hEl).trans hE, hJ.alloc _⟩, by simp [intOf]; omega⟩
            · have hst := stay (by simp [eqk, q3])
              have z : (fgl == egl) = false := beq_eq_false_iff_ne.2 q3
              clear stay found
              go_wp2
              refine ⟨⟨k + 1, by go_num, by omega, unhide hst, (Below.heap_alloc wr _ _ hEl).trans hE, hJ.alloc _⟩, by simp [intOf]; omega⟩
          · have hst := stay (by simp [eqk, q2])
            have z : (flv == elv) = false := beq_eq_false_iff_ne.2 q2
            clear stay found
            go_wp2
            refine ⟨⟨k + 1, by go_num, by omega, unhide hst, (Below.heap_alloc wr _ _ hEl).trans hE, hJ.alloc _⟩, by simp [intOf]; omega⟩
        · have hst := stay (by simp [eqk, q1])
          have z : (fx == ex) = false := beq_eq_false_iff_ne.2 q1
          clear stay found
          go_wp2
          refine ⟨⟨k + 1, by go_num, by omega, unhide hst, (Below.heap_alloc wr _ _ hEl).trans hE, hJ.alloc _⟩, by simp [intOf]; omega⟩
    · obtain rfl : k = 8 := by omega
      have hpn : place S (⟨ex, elv, esp, egl, elf⟩ : E).key = none := by
        cases hp : place S (⟨ex, elv, esp, egl, elf⟩ : E).key with
        | none => rfl
        | some n => obtain ⟨hn, f, hf, hk⟩ := place_some hp; exact absurd hk (hno n f hn hf)
      have hpl := hide hpn
      clear hno hpn hE
      go_wp2
      have hj0 := hide hJ
      clear hJ
      go_loopw [7] (fun i wr => ∃ k : Nat, i = .int .i64 k ∧ k ≤ 8 ∧ (∀ j, j < k → (S j).isSome = true) ∧ Heap w0 wr (HP.blk b #[.slice (some ⟨g1, o1, none⟩) 8 c1, .slice (some ⟨g2, o2, none⟩) 8 c2, .int .u64 seed] 61 :: HP.slw (.slice (some ⟨g1, o1, none⟩) 8 c1) 5 8 (L40 S) :: HP.slw (.slice (some ⟨g2, o2, none⟩) 8 c2) 1 8 (L8 S) :: L)) (fun i _ => 8 - (intOf i).toNat)
      case atStart => exact ⟨0, rfl, Nat.zero_le _, fun j h => by omega, unhide hj0⟩
      case round =>
        rename_i wr2 _
        obtain ⟨k, rfl, hk, hall, hJ⟩ := hrel
        clear hj0
        by_cases hlt8 : k < 8
        · have hA := hide hall
          clear hall
          have hb3 := cells3 hJ.heap
          have hbl := lt_of_heap' hJ.heap
          obtain ⟨hgl2, df, _⟩ := fullCell hJ.f3.slw hlt8
          cases hS : S k with
          | none =>
            have hf := hide (freeN_at hlt8 (unhide hA) hS)
            rw [hS] at df
            simp only [Option.isSome_none] at df
            clear hS
            go_wp2
            go_ret
            rw [unhide hpl, pseed_none (unhide hpl), Option.getD_none, (slot_free (unhide hf)).1, (slot_free (unhide hf)).2]
            exact ⟨rfl, hJ⟩
          | some f =>
            rw [hS] at df
            simp only [Option.isSome_some] at df
            have hS := hide hS
            go_wp2
            refine ⟨⟨k + 1, by go_num, by omega, fun j hj => ?_, hJ⟩, by simp [intOf]; omega⟩
            by_cases hjk : j = k
            · subst hjk; rw [unhide hS]; rfl
            · exact unhide hA j (by omega)
        · obtain rfl : k = 8 := by omega
          have hf := freeN_none hall
          have hb3 := cells3 hJ.heap
          have hbl := lt_of_heap' hJ.heap
          have hn : wrap64 (IntKind.u64.wrap (IntKind.u64.wrap (6364136223846793005 * seed) + 1442695040888963407) / 2305843009213693952) = ((slot S seed : Nat) : Int) := by
            have := nxt_bd seed
            rw [(slot_full hf).1]
            show wrap64 (nxt seed / 2305843009213693952) = _
            unfold wrap64; omega
          have HN := hide hn
          have hJ2 := hJ.setl (xs := [_, _, _]) 2 (.int .u64 (nxt seed))
          have hf := hide hf
          clear hall hn
          go_wp2
          go_ret
          rw [unhide hpl, pseed_none (unhide hpl), Option.getD_none, (slot_full (unhide hf)).2, ← unhide HN]
          exact ⟨rfl, hJ2⟩
end
end Go.Proofs.Ytlkkmpfhhfaioaa
