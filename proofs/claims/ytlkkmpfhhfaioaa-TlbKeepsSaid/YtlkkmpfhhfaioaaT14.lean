/- Layer 15, the reference: Fence. -/
import Derived.Test.YtlkkmpfhhfaioaaT13
namespace Go.Proofs.Ytlkkmpfhhfaioaa
open Go.RowKit

theorem fenK_stay' {S : Slots} {p : Fn} {k : Nat} (h : goes p (ent S k) = false) : fenK S p (k + 1) = fenK S p k := by
  apply fenK_stay
  cases hs : S k with
  | none => rfl
  | some e =>
    have : ent S k = e := by unfold ent; rw [hs]; rfl
    rw [this] at h
    simp [fen1, h]
theorem fenK_go' {S : Slots} {p : Fn} {k : Nat} (h : goes p (ent S k) = true) : fenK S p (k + 1) = put (fenK S p k) k none := by
  cases hs : S k with
  | none =>
    rw [put_self (by rw [fenK_at]; exact hs)]
    exact fenK_stay (by rw [hs]; rfl)
  | some e =>
    have : ent S k = e := by unfold ent; rw [hs]; rfl
    rw [this] at h
    exact fenK_go hs (by rw [hs]; simp [fen1, h])
theorem L8_put0 (S : Slots) (k : Nat) (h : k < 8) : (L8 S).set k (.bool false) = L8 (put S k none) := L8_put S k h none
theorem ent_fenK (S : Slots) (p : Fn) (k : Nat) : ent (fenK S p k) k = ent S k := by unfold ent; rw [fenK_at]
section
variable {w0 w : World} {L : List HP} {seed : Int} {b g1 o1 c1 g2 o2 c2 : Nat} {S : Slots} {e : E}
set_option maxRecDepth 100000 in
set_option maxHeartbeats 1000000 in
theorem fenceR_k (h : Heap w0 w (HP.blk b #[.slice (some ⟨g1, o1, none⟩) 8 c1, .slice (some ⟨g2, o2, none⟩) 8 c2, .int .u64 seed] 61 :: HP.slw (.slice (some ⟨g1, o1, none⟩) 8 c1) 5 8 (L40 (S)) :: HP.slw (.slice (some ⟨g2, o2, none⟩) 8 c2) 1 8 (L8 (S)) :: L)) (hI : Inv S) (bA : Bool) (a : Int) (bS : Bool) (sp : Int) (a0 : 0 ≤ a) (a1 : a < 18446744073709551616) :
    Calls Try.prog 17 #[.pointer (some ⟨b, 0, none⟩), .bool bA, .int .u64 a, .bool bS, .int .u64 sp] w fun r w' => r = .returned (.tuple #[]) ∧ Heap w0 w' (HP.blk b #[.slice (some ⟨g1, o1, none⟩) 8 c1, .slice (some ⟨g2, o2, none⟩) 8 c2, .int .u64 seed] 61 :: HP.slw (.slice (some ⟨g1, o1, none⟩) 8 c1) 5 8 (L40 (fenK S ⟨bA, a, bS, sp⟩ 8)) :: HP.slw (.slice (some ⟨g2, o2, none⟩) 8 c2) 1 8 (L8 (fenK S ⟨bA, a, bS, sp⟩ 8)) :: L) := by
  obtain ⟨p, hp⟩ : ∃ p : Fn, p = ⟨bA, a, bS, sp⟩ := ⟨_, rfl⟩
  have h' := h
  rw [← fenK_0 S p] at h'
  rw [← hp]
  clear h
  go_enter Try.func17, Try.ntmps17
  go_wp2
  go_loopw [10] (fun i wr => ∃ k : Nat, i = .int .i64 k ∧ k ≤ 8 ∧ Heap w0 wr (HP.blk b #[.slice (some ⟨g1, o1, none⟩) 8 c1, .slice (some ⟨g2, o2, none⟩) 8 c2, .int .u64 seed] 61 :: HP.slw (.slice (some ⟨g1, o1, none⟩) 8 c1) 5 8 (L40 (fenK S p k)) :: HP.slw (.slice (some ⟨g2, o2, none⟩) 8 c2) 1 8 (L8 (fenK S p k)) :: L)) (fun i _ => 8 - (intOf i).toNat)
  case atStart => exact ⟨0, rfl, Nat.zero_le _, h'⟩
  case round =>
    obtain ⟨k, rfl, hk, hJ⟩ := hrel
    clear h'
    by_cases hlt : k < 8
    · have hb3 := cells3 hJ.heap
      have hbl := lt_of_heap' hJ.heap
      obtain ⟨hgl1, d0, d1, d2, d3, d4⟩ := entCells hJ.f2.slw hlt
      rw [ent_fenK] at d0 d1 d2 d3 d4
      have HH := hide (hasR_any (ent S k) (hI.ent k) a a0 a1)
      generalize hf : ent S k = f at *
      go_wp2_with fail
      refine (unhide HH _).mono ?_
      rintro r w4 ⟨rfl, hg4⟩
      have hJ4 := hJ.grown hg4
      clear hb3 hbl hgl1 d0 d1 d2 d3 d4
      have hb3 := cells3 hJ4.heap
      have hbl := lt_of_heap' hJ4.heap
      obtain ⟨hgl1, d0, d1, d2, d3, d4⟩ := entCells hJ4.f2.slw hlt
      rw [ent_fenK, hf] at d0 d1 d2 d3 d4
      clear HH hJ hg4
      have fenK_stay' := fun h => fenK_stay' (S := S) (p := p) (k := k) (by rw [hf]; exact h)
      have fenK_go' := fun h => fenK_go' (S := S) (p := p) (k := k) (by rw [hf]; exact h)
      have Fs := hide fenK_stay'
      have Fg := hide fenK_go'
      clear hf fenK_stay' fenK_go'
      cases bA with
      | false =>
        cases hh : hasB f a
        all_goals
          cases bS with
          | false =>
            have hgo : Hid (goes p f = true) := hide (by simp [goes, *])
            have hth : w4.there g1 (o1 + k * 5) 5 := fun j hj => by
              obtain ⟨_, q1, q2⟩ := hJ4.f2.slw.at_ (j := k * 5 + j) (by omega)
              rw [← Nat.add_assoc] at q1 q2
              exact ⟨by rw [q1, L40_get, if_pos (by omega)]; rfl, q2⟩
            have hW := (hJ4.f2.writes E.zero.cs (j := k * 5) (by show k * 5 + 5 ≤ 8 * 5; omega)).f2
            have h40 := L40_put (fenK S p k) k hlt none
            simp only [Option.getD_none] at h40
            rw [h40] at hW
            have Hth := hide hth
            clear h40 hth
            go_wp2_with (refine wpList_store_mid rfl 36 _ _ rfl g1 (o1 + k * 5) #[.int .u64 0, .int .i64 0, .int .u64 0, .bool false, .int .u64 0] rfl rfl ?_ (by kernel_rfl) (by kernel_rfl) ?_
                         · exact unhide Hth
                         change wpList _ _ _ _ _ (w4.setCells g1 (o1 + k * 5) E.zero.cs)
                         clear Hth hb3 hbl hgl1 d0 d1 d2 d3 d4
                         generalize w4.setCells g1 (o1 + k * 5) E.zero.cs = w5 at *
                         have hb3 := cells3 hW.heap
                         obtain ⟨hgl2, df, dfz⟩ := fullCell hW.f3.slw hlt
                         have hW2 := (hW.f3.write (j := k) (by omega) (.bool false)).b3
                         rw [L8_put0 _ k hlt] at hW2
                         clear hW)
            refine ⟨⟨k + 1, by go_num, by omega, ?_⟩, by simp [intOf]; omega⟩
            rw [unhide Fg (unhide hgo)]
            exact hW2
          | true =>
            cases hgl : f.gl with
            | true =>
              rw [hgl] at d3
              have hgo : Hid (goes p f = false) := hide (by simp [goes, *])
              go_wp2
              refine ⟨⟨k + 1, by go_num, by omega, ?_⟩, by simp [intOf]; omega⟩
              rw [unhide Fs (unhide hgo)]
              exact hJ4
            | false =>
              rw [hgl] at d3
              by_cases hsp : f.sp = sp
              · have z : (f.sp == sp) = true := beq_iff_eq.2 hsp
                have hgo : Hid (goes p f = true) := hide (by simp [goes, *])
                have hth : w4.there g1 (o1 + k * 5) 5 := fun j hj => by
                  obtain ⟨_, q1, q2⟩ := hJ4.f2.slw.at_ (j := k * 5 + j) (by omega)
                  rw [← Nat.add_assoc] at q1 q2
                  exact ⟨by rw [q1, L40_get, if_pos (by omega)]; rfl, q2⟩
                have hW := (hJ4.f2.writes E.zero.cs (j := k * 5) (by show k * 5 + 5 ≤ 8 * 5; omega)).f2
                have h40 := L40_put (fenK S p k) k hlt none
                simp only [Option.getD_none] at h40
                rw [h40] at hW
                have Hth := hide hth
                clear h40 hth
                go_wp2_with (refine wpList_store_mid rfl 36 _ _ rfl g1 (o1 + k * 5) #[.int .u64 0, .int .i64 0, .int .u64 0, .bool false, .int .u64 0] rfl rfl ?_ (by kernel_rfl) (by kernel_rfl) ?_
                             · exact unhide Hth
                             change wpList _ _ _ _ _ (w4.setCells g1 (o1 + k * 5) E.zero.cs)
                             clear Hth hb3 hbl hgl1 d0 d1 d2 d3 d4
                             generalize w4.setCells g1 (o1 + k * 5) E.zero.cs = w5 at *
                             have hb3 := cells3 hW.heap
                             obtain ⟨hgl2, df, dfz⟩ := fullCell hW.f3.slw hlt
                             have hW2 := (hW.f3.write (j := k) (by omega) (.bool false)).b3
                             rw [L8_put0 _ k hlt] at hW2
                             clear hW)
                refine ⟨⟨k + 1, by go_num, by omega, ?_⟩, by simp [intOf]; omega⟩
                rw [unhide Fg (unhide hgo)]
                exact hW2
              · have z : (f.sp == sp) = false := beq_eq_false_iff_ne.2 hsp
                have hgo : Hid (goes p f = false) := hide (by simp [goes, *])
                go_wp2
                refine ⟨⟨k + 1, by go_num, by omega, ?_⟩, by simp [intOf]; omega⟩
                rw [unhide Fs (unhide hgo)]
                exact hJ4
      | true =>
        cases hh : hasB f a with
        | false =>
          have hgo : Hid (goes p f = false) := hide (by simp [goes, *])
          go_wp2
          refine ⟨⟨k + 1, by go_num, by omega, ?_⟩, by simp [intOf]; omega⟩
          rw [unhide Fs (unhide hgo)]
          exact hJ4
        | true =>
          cases bS with
          | false =>
            have hgo : Hid (goes p f = true) := hide (by simp [goes, *])
            have hth : w4.there g1 (o1 + k * 5) 5 := fun j hj => by
              obtain ⟨_, q1, q2⟩ := hJ4.f2.slw.at_ (j := k * 5 + j) (by omega)
              rw [← Nat.add_assoc] at q1 q2
              exact ⟨by rw [q1, L40_get, if_pos (by omega)]; rfl, q2⟩
            have hW := (hJ4.f2.writes E.zero.cs (j := k * 5) (by show k * 5 + 5 ≤ 8 * 5; omega)).f2
            have h40 := L40_put (fenK S p k) k hlt none
            simp only [Option.getD_none] at h40
            rw [h40] at hW
            have Hth := hide hth
            clear h40 hth
            go_wp2_with (refine wpList_store_mid rfl 36 _ _ rfl g1 (o1 + k * 5) #[.int .u64 0, .int .i64 0, .int .u64 0, .bool false, .int .u64 0] rfl rfl ?_ (by kernel_rfl) (by kernel_rfl) ?_
                         · exact unhide Hth
                         change wpList _ _ _ _ _ (w4.setCells g1 (o1 + k * 5) E.zero.cs)
                         clear Hth hb3 hbl hgl1 d0 d1 d2 d3 d4
                         generalize w4.setCells g1 (o1 + k * 5) E.zero.cs = w5 at *
                         have hb3 := cells3 hW.heap
                         obtain ⟨hgl2, df, dfz⟩ := fullCell hW.f3.slw hlt
                         have hW2 := (hW.f3.write (j := k) (by omega) (.bool false)).b3
                         rw [L8_put0 _ k hlt] at hW2
                         clear hW)
            refine ⟨⟨k + 1, by go_num, by omega, ?_⟩, by simp [intOf]; omega⟩
            rw [unhide Fg (unhide hgo)]
            exact hW2
          | true =>
            cases hgl : f.gl with
            | true =>
              rw [hgl] at d3
              have hgo : Hid (goes p f = false) := hide (by simp [goes, *])
              go_wp2
              refine ⟨⟨k + 1, by go_num, by omega, ?_⟩, by simp [intOf]; omega⟩
              rw [unhide Fs (unhide hgo)]
              exact hJ4
            | false =>
              rw [hgl] at d3
              by_cases hsp : f.sp = sp
              · have z : (f.sp == sp) = true := beq_iff_eq.2 hsp
                have hgo : Hid (goes p f = true) := hide (by simp [goes, *])
                have hth : w4.there g1 (o1 + k * 5) 5 := fun j hj => by
                  obtain ⟨_, q1, q2⟩ := hJ4.f2.slw.at_ (j := k * 5 + j) (by omega)
                  rw [← Nat.add_assoc] at q1 q2
                  exact ⟨by rw [q1, L40_get, if_pos (by omega)]; rfl, q2⟩
                have hW := (hJ4.f2.writes E.zero.cs (j := k * 5) (by show k * 5 + 5 ≤ 8 * 5; omega)).f2
                have h40 := L40_put (fenK S p k) k hlt none
                simp only [Option.getD_none] at h40
                rw [h40] at hW
                have Hth := hide hth
                clear h40 hth
                go_wp2_with (refine wpList_store_mid rfl 36 _ _ rfl g1 (o1 + k * 5) #[.int .u64 0, .int .i64 0, .int .u64 0, .bool false, .int .u64 0] rfl rfl ?_ (by kernel_rfl) (by kernel_rfl) ?_
                             · exact unhide Hth
                             change wpList _ _ _ _ _ (w4.setCells g1 (o1 + k * 5) E.zero.cs)
                             clear Hth hb3 hbl hgl1 d0 d1 d2 d3 d4
                             generalize w4.setCells g1 (o1 + k * 5) E.zero.cs = w5 at *
                             have hb3 := cells3 hW.heap
                             obtain ⟨hgl2, df, dfz⟩ := fullCell hW.f3.slw hlt
                             have hW2 := (hW.f3.write (j := k) (by omega) (.bool false)).b3
                             rw [L8_put0 _ k hlt] at hW2
                             clear hW)
                refine ⟨⟨k + 1, by go_num, by omega, ?_⟩, by simp [intOf]; omega⟩
                rw [unhide Fg (unhide hgo)]
                exact hW2
              · have z : (f.sp == sp) = false := beq_eq_false_iff_ne.2 hsp
                have hgo : Hid (goes p f = false) := hide (by simp [goes, *])
                go_wp2
                refine ⟨⟨k + 1, by go_num, by omega, ?_⟩, by simp [intOf]; omega⟩
                rw [unhide Fs (unhide hgo)]
                exact hJ4
    · obtain rfl : k = 8 := by omega
      go_wp2
      exact bodyPost_end (v := .tuple #[]) (by simp [results, Try.results17, go_sem]) rfl ⟨rfl, hJ⟩
theorem fenceR_h (h : Heap w0 w (HP.tr b seed S :: L)) (bA : Bool) (a : Int) (bS : Bool) (sp : Int) (a0 : 0 ≤ a) (a1 : a < 18446744073709551616) :
    Calls Try.prog 17 #[.pointer (some ⟨b, 0, none⟩), .bool bA, .int .u64 a, .bool bS, .int .u64 sp] w fun r w' => r = .returned (.tuple #[]) ∧ Heap w0 w' (HP.tr b seed (fenK S ⟨bA, a, bS, sp⟩ 8) :: L) := by
  obtain ⟨⟨v1, v2⟩, ⟨hI, hsd⟩, hh⟩ := Heap.tr.1 h
  obtain ⟨g1, o1, c1, rfl, _⟩ := Sl.addr hh.f2.slw (by omega)
  obtain ⟨g2, o2, c2, rfl, _⟩ := Sl.addr hh.f3.slw (by omega)
  exact (fenceR_k hh hI bA a bS sp a0 a1).mono fun r w' ⟨hr, hg⟩ => ⟨hr, Heap.tr.2 ⟨(_, _), ⟨fenK_inv hI _ _, hsd⟩, hg⟩⟩
end
end Go.Proofs.Ytlkkmpfhhfaioaa
