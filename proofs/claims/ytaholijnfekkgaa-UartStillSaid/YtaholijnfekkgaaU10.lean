/- Every call answers as the chapter says: the walk. -/
import Derived.Test.YtaholijnfekkgaaU9
import Derived.Test.YtaholijnfekkgaaOpen
namespace Go.Proofs.Ytaholijnfekkgaa
open Go.RowKit

def gC (came : List Int) (rd : Nat) (x : Int) : List Int := if 16 ≤ came.length - rd then came else came ++ [x]
def gL (came : List Int) (rd : Nat) (lo : Bool) : Bool := if 16 ≤ came.length - rd then true else lo
theorem gC_len (came : List Int) (rd : Nat) (x : Int) : (gC came rd x).length ≤ came.length + 1 := by unfold gC; split <;> simp
theorem wS_len (s : List Int) (a z v : Int) : (wS s a z v).length ≤ s.length + 1 := by unfold wS; split <;> simp
theorem gC_drop (came : List Int) (rd : Nat) (x : Int) (h : rd ≤ came.length) : (if 16 ≤ (came.drop rd).length then came.drop rd else came.drop rd ++ [x]) = (gC came rd x).drop rd := by
  unfold gC
  rw [List.length_drop]
  split
  · rfl
  · rw [List.drop_append_of_le_length h]
theorem gL_drop (came : List Int) (rd : Nat) (lo : Bool) : (if 16 ≤ (came.drop rd).length then true else lo) = gL came rd lo := by
  unfold gL
  rw [List.length_drop]
section
variable {w0 w w' : World} {L : List HP} {b br : Nat} {q s came : List Int} {rd : Nat} {wa lo : Bool} {sc : Int}
theorem giveD (h : Heap w0 w (HP.uu b (came.drop rd) s wa lo sc :: L)) (hr : rd ≤ came.length) (x : Int) (hx0 : 0 ≤ x) (hx1 : x < 256) : Calls Try.prog 16 #[.pointer (some ⟨b, 0, none⟩), .int .u8 x] w fun e w' =>
    e = .returned (.tuple #[]) ∧ Heap w0 w' (HP.uu b ((gC came rd x).drop rd) s wa (gL came rd lo) sc :: L) := by
  have := give_h h x hx0 hx1
  rw [gC_drop _ _ _ hr, gL_drop] at this
  exact this
theorem readD (h : Heap w0 w (HP.uu b (came.drop rd) s wa lo sc :: L)) (hr : rd ≤ came.length) (at_ size : Int) (a0 : 0 ≤ at_) : Calls Try.prog 12 #[.pointer (some ⟨b, 0, none⟩), .int .u64 at_, .int .i64 size] w fun e w' =>
    e = .returned (.tuple #[.int .u64 (rV (came.drop rd) wa lo sc at_ size), .bool (rOk at_ size)]) ∧ Heap w0 w' (HP.uu b (came.drop (rRd came rd at_ size)) s wa (rLo lo at_ size) sc :: L) := by
  have := read_h h at_ size a0
  rw [rQ_drop _ _ _ _ hr] at this
  exact this
end
theorem cells4 {w : World} {b : Nat} {x y z u : Value} {T : TypeId} (h : w.heap[b]? = some (.cells #[x, y, z, u] T (0, 0))) :
    w.cell? ⟨b, 0, none⟩ = some x ∧ w.cell? ⟨b, 1, none⟩ = some y ∧ w.cell? ⟨b, 2, none⟩ = some z ∧ w.cell? ⟨b, 3, none⟩ = some u := by
  simp [World.cell?, h]
theorem b64' {n : Int} (h : (Lit.int .u64 n).wf = true) : 0 ≤ n ∧ n < 18446744073709551616 := by
  have := bounds_u64 h
  omega
theorem u64b (x : Int) : 0 ≤ IntKind.u64.wrap x ∧ IntKind.u64.wrap x < 18446744073709551616 := by
  rw [IntKind.wrap_u64]; omega
/-- A step that came in, in a later world. -/
theorem step_at {w wr : World} {A : Option Addr} {n k : Nat} (hS : SlArg [some .i64, some .u64, some .i64, some .u64] w A n) (hb : Below w.heap.size w wr) (hk : k < n) : ∃ ab ao, A = some ⟨ab, ao, none⟩ ∧ ∃ kd at_ size v : Int,
    (wr.cell? ⟨ab, ao + k * 4, none⟩ = some (.int .i64 kd) ∧ wr.cell? ⟨ab, ao + k * 4 + 1, none⟩ = some (.int .u64 at_) ∧ wr.cell? ⟨ab, ao + k * 4 + 2, none⟩ = some (.int .i64 size) ∧ wr.cell? ⟨ab, ao + k * 4 + 3, none⟩ = some (.int .u64 v)) ∧ 0 ≤ at_ ∧ 0 ≤ v ∧ v < 18446744073709551616 := by
  obtain ⟨ab, ao, hA, hab, hX⟩ := hS (by omega)
  obtain ⟨cs, hf, hc⟩ := hX k hk
  have c0 := cell_int hf hc (j := 0) rfl
  have c1 := cell_int hf hc (j := 1) rfl
  have c2 := cell_int hf hc (j := 2) rfl
  have c3 := cell_int hf hc (j := 3) rfl
  simp only [List.length_cons, List.length_nil, Nat.zero_add, Nat.reduceAdd, Nat.add_zero] at c0 c1 c2 c3
  exact ⟨ab, ao, hA, _, _, _, _, ⟨(hb.cell (p := ⟨ab, _, none⟩) hab).trans c0.1, (hb.cell (p := ⟨ab, _, none⟩) hab).trans c1.1, (hb.cell (p := ⟨ab, _, none⟩) hab).trans c2.1, (hb.cell (p := ⟨ab, _, none⟩) hab).trans c3.1⟩, (b64' c1.2).1, b64' c3.2⟩

set_option maxRecDepth 100000 in
set_option maxHeartbeats 4000000 in
theorem does_walk (A : Option Addr) (n cap : Nat) (w : World) (hS : SlArg [some .i64, some .u64, some .i64, some .u64] w A n) (hn : n ≤ 4398046511104) :
    Calls Try.prog 3 #[.slice A n cap] w fun e w' => e = .returned (.bool true) ∧ Below w.heap.size w w' := by
  have HS := hide hS
  clear hS
  go_enter Try.func3, Try.ntmps3
  go_wp2_with (first
      | (go_at_call 7; refine (fixed_any w).mono ?_; rintro e w1 ⟨rfl, b1⟩)
      | (go_at_call 8; refine (new_h (Heap.of_grown b1)).mono ?_; rintro e w2 ⟨b, rfl, hJ⟩)
      | (go_at_call 9; refine (newR_h hJ).mono ?_; rintro e w3 ⟨br, rfl, hJ3⟩))
  have hJ4 := hJ3.f2
  clear hJ3 hJ b1
  go_loopw [3, 4, 5] (fun m r i wr => ∃ (k b br : Nat) (came s : List Int) (rd : Nat) (wa lo : Bool) (sc : Int), i = .int .i64 k ∧ m = .pointer (some ⟨b, 0, none⟩) ∧ r = .pointer (some ⟨br, 0, none⟩) ∧ k ≤ n ∧ came.length ≤ k ∧ s.length ≤ k ∧
    Heap w wr [HP.uu b (came.drop rd) s wa lo sc, HP.ru br came s rd wa lo sc]) (fun _ _ i _ => n - (intOf i).toNat)
  case atStart => exact ⟨0, _, _, [], [], 0, false, false, 0, rfl, rfl, rfl, Nat.zero_le _, Nat.le_refl _, Nat.le_refl _, hJ4⟩
  case round =>
    clear hJ4
    obtain ⟨k, b, br, came, s, rd, wa, lo, sc, rfl, rfl, rfl, hk, hcl, hsl, hJ⟩ := hrel
    by_cases hlt : k < n
    · obtain ⟨ab, ao, hA, kd, at_, size, v, hcell, ha0, hv0, hv1⟩ := step_at (unhide HS) hJ.below hlt
      subst hA
      have hrd := rd_le hJ.f2
      by_cases k0 : kd = 0
      · subst k0
        have hJ := hJ.new #[.int .i64 0, .int .u64 at_, .int .i64 size, .int .u64 v] 30
        have hcs := cells4 hJ.heap
        go_wp2_with (first
          | (go_at_call 10; refine (write_h hJ.f2 (by omega) _ _ _ ha0 hv0 hv1).mono ?_; rintro e w4 ⟨rfl, hJ⟩; have hJ := hJ.f2; have hcs := cells4 hJ.heap)
          | (go_at_call 11; refine (writeR_h hJ.f3 (by omega) _ _ _ ha0 hv0 hv1).mono ?_; rintro e w4 ⟨rfl, hJ⟩; have hJ := hJ.b3; have hcs := cells4 hJ.heap))
        have hl := wS_len s at_ size v
        go_roundw
        case rel => exact ⟨k + 1, b, br, _, _, _, _, _, _, by go_num, rfl, rfl, by omega, by omega, by omega, hJ.tail⟩
        case measure => simp [intOf]; omega
      · have q0 : (kd == 0) = false := beq_eq_false_iff_ne.2 k0
        by_cases k1 : kd = 1
        · subst k1
          have hJ := hJ.new #[.int .i64 1, .int .u64 at_, .int .i64 size, .int .u64 v] 30
          have hcs := cells4 hJ.heap
          go_wp2_with (first
            | (go_at_call 12; refine (readD hJ.f2 hrd _ _ ha0).mono ?_; rintro e w4 ⟨rfl, hJ⟩; have hJ := hJ.f2; have hcs := cells4 hJ.heap)
            | (go_at_call 13; refine (readR_h hJ.f3 (by omega) _ _ ha0).mono ?_; rintro e w4 ⟨rfl, hJ⟩; have hJ := hJ.b3; have hcs := cells4 hJ.heap))
          go_roundw
          case rel => exact ⟨k + 1, b, br, _, _, _, _, _, _, by go_num, rfl, rfl, by omega, by omega, by omega, hJ.tail⟩
          case measure => simp [intOf]; omega
        · have q1 : (kd == 1) = false := beq_eq_false_iff_ne.2 k1
          by_cases k2 : kd = 2
          · subst k2
            have hJ := hJ.new #[.int .i64 2, .int .u64 at_, .int .i64 size, .int .u64 v] 30
            have hcs := cells4 hJ.heap
            go_wp2_with fail
            refine (copy_h hJ.f2).mono ?_
            rintro e w4 ⟨b', rfl, hJ⟩
            have hJ := hJ.f3
            have hcs := cells4 hJ.heap
            go_wp2_with fail
            refine (copyR_h hJ.f4 (by omega) (by omega)).mono ?_
            rintro e w5 ⟨br', rfl, hJ⟩
            have hJ := hJ.f2.tail.f2
            have hcs := cells4 hJ.heap
            go_wp2_with fail
            refine (write_h hJ.f4 (by omega) _ _ _ ha0 hv0 hv1).mono ?_
            rintro e w6 ⟨rfl, hJ⟩
            have hJ := hJ.b4
            have hcs := cells4 hJ.heap
            go_wp2_with fail
            refine (read_h hJ.f4 _ _ ha0).mono ?_
            rintro e w7 ⟨rfl, hJ⟩
            have hJ := hJ.b4
            have hcs := cells4 hJ.heap
            go_wp2_with fail
            refine (giveD hJ.f3 hrd _ (by omega) (by omega)).mono ?_
            rintro e w8 ⟨rfl, hJ⟩
            have hJ := hJ.b3
            have hcs := cells4 hJ.heap
            go_wp2_with fail
            refine (giveR_h hJ.f2 (by omega) _ (by omega) (by omega)).mono ?_
            rintro e w9 ⟨rfl, hJ⟩
            have hJ := hJ.f2
            have hcs := cells4 hJ.heap
            go_wp2_with fail
            refine (write_h hJ.f3 (by omega) _ _ _ (by omega) (u64b _).1 (u64b _).2).mono ?_
            rintro e w10 ⟨rfl, hJ⟩
            have hJ := hJ.b3
            have hcs := cells4 hJ.heap
            go_wp2_with fail
            refine (writeR_h hJ.f2 (by omega) _ _ _ (by omega) (u64b _).1 (u64b _).2).mono ?_
            rintro e w11 ⟨rfl, hJ⟩
            have hJ := hJ.f2
            have hcs := cells4 hJ.heap
            go_wp2_with fail
            refine (give_h hJ.f4 _ (by omega) (by omega)).mono ?_
            rintro e w12 ⟨rfl, hJ⟩
            have hJ := hJ.b4
            have hcs := cells4 hJ.heap
            have hl3 := wS_len s at_ size v
            go_wp2_with fail
            refine (write_h hJ.f4 (by omega) _ _ _ (by omega) hv0 hv1).mono ?_
            rintro e w13 ⟨rfl, hJ⟩
            have hJ := hJ.b4.tail
            go_wp2_with fail
            go_roundw
            case rel => exact ⟨k + 1, b', br', _, _, _, _, _, _, by go_num, rfl, rfl, by omega, Nat.le_trans (gC_len _ _ _) (by omega), Nat.le_trans (wS_len _ _ _ _) (by omega), hJ.f3.tail.f2⟩
            case measure => simp [intOf]; omega
          · have q2 : (kd == 2) = false := beq_eq_false_iff_ne.2 k2
            by_cases k3 : kd = 3
            · subst k3
              have hJ := hJ.new #[.int .i64 3, .int .u64 at_, .int .i64 size, .int .u64 v] 30
              have hcs := cells4 hJ.heap
              go_wp2_with (first
                | (go_at_call 16; refine (giveD hJ.f2 hrd _ (by omega) (by omega)).mono ?_; rintro e w4 ⟨rfl, hJ⟩; have hJ := hJ.f2; have hcs := cells4 hJ.heap)
                | (go_at_call 17; refine (giveR_h hJ.f3 (by omega) _ (by omega) (by omega)).mono ?_; rintro e w4 ⟨rfl, hJ⟩; have hJ := hJ.b3; have hcs := cells4 hJ.heap))
              have hl := gC_len came rd (v % 256)
              go_roundw
              case rel => exact ⟨k + 1, b, br, _, _, _, _, _, _, by go_num, rfl, rfl, by omega, by omega, by omega, hJ.tail⟩
              case measure => simp [intOf]; omega
            · have q3 : (kd == 3) = false := beq_eq_false_iff_ne.2 k3
              have hup : (wa && decide (rd < came.length)) = (wa && decide (0 < (came.drop rd).length)) := by
                rw [List.length_drop]; congr 1; exact decide_eq_decide.2 (by omega)
              have hup' := hide hup
              have hJ := hJ.new #[.int .i64 kd, .int .u64 at_, .int .i64 size, .int .u64 v] 30
              have hcs := cells4 hJ.heap
              clear k0 k1 k2 k3 hup
              go_wp2_with fail
              refine wp_region_F (fun w1 => Heap w w1 (HP.blk wr.heap.size #[.int .i64 kd, .int .u64 at_, .int .i64 size, .int .u64 v] 30 :: HP.uu b (came.drop rd) s wa lo sc :: HP.ru br came s rd wa lo sc :: [])) GN (fun k v w => match k with
                  | 0 => v = .pointer (some ⟨b, 0, none⟩)
                  | 1 => v = .bool (wa && decide (0 < (came.drop rd).length))
                  | 2 => v = .pointer (some ⟨br, 0, none⟩)
                  | 3 => v = .bool (wa && decide (0 < (came.drop rd).length))
                  | 4 => v = .bool false
                  | 5 => v = .bool false
                  | 6 => v = .pointer (some ⟨b, 0, none⟩)
                  | 7 => Sl w 1 v s.length (s.map bv)
                  | 8 => v = .string (strOf s)
                  | 9 => v = .pointer (some ⟨br, 0, none⟩)
                  | 10 => Sl w 1 v s.length (s.map bv)
                  | 11 => v = .string (strOf s)
                  | 12 => v = .bool false
                  | _ => v = .bool false) fol (by kernel_rfl) ?_ ?_ ?_ ?_
              · exact hJ.drew
              · intro k v w w' h1 hg
                split at h1 <;> first | exact h1 | exact h1.kept (row := none) hg (fun _ _ h => by cases h)
              · intro vals
                show wpG _ _ _ _ _ _ 0 (_ :: _) _
                refine wpG_cons (gval (.pointer (some ⟨b, 0, none⟩)) GN.refl fun w hJ hd => ?_) ?_
                · exact ⟨by kernel_rfl, by kernel_rfl, rfl⟩
                refine wpG_cons (gcall 18 #[.pointer (some ⟨b, 0, none⟩)] fun w hJ hd => ?_) ?_
                · have e0 : vals 0 = _ := hd 0 (by decide) (by kernel_rfl)
                  rw [e0]
                  exact ⟨by kernel_rfl, by kernel_rfl, (up_h hJ.f2).mono fun e w' ⟨he, hw⟩ => ⟨_, he, by rw [hw]; exact hJ, by rw [hw]; exact GN.refl _, rfl⟩⟩
                refine wpG_cons (gval (.pointer (some ⟨br, 0, none⟩)) GN.refl fun w hJ hd => ?_) ?_
                · exact ⟨by kernel_rfl, by kernel_rfl, rfl⟩
                refine wpG_cons (gcall 19 #[.pointer (some ⟨br, 0, none⟩)] fun w hJ hd => ?_) ?_
                · have e2 : vals 2 = _ := hd 2 (by decide) (by kernel_rfl)
                  rw [e2]
                  exact ⟨by kernel_rfl, by kernel_rfl, (upR_h hJ.f3).mono fun e w' ⟨he, n, hw⟩ => ⟨_, he, by rw [hw]; exact hJ.drewN n, by rw [hw]; exact grown_drewN (grown_self _ _) _, by rw [unhide hup']; rfl⟩⟩
                refine wpG_cons (gval (.bool false) GN.refl fun w hJ hd => ?_) ?_
                · have e1 : vals 1 = _ := hd 1 (by decide) (by kernel_rfl)
                  have e3 : vals 3 = _ := hd 3 (by decide) (by kernel_rfl)
                  rw [e1, e3]
                  generalize (wa && decide (0 < (came.drop rd).length)) = u
                  cases u <;> exact ⟨by kernel_rfl, by kernel_rfl, rfl⟩
                refine wpG_cons (gval (.bool false) GN.refl fun w hJ hd => ?_) ?_
                · have e4 : vals 4 = _ := hd 4 (by decide) (by kernel_rfl)
                  rw [e4]
                  exact ⟨by kernel_rfl, by kernel_rfl, rfl⟩
                refine wpG_cons (gval (.pointer (some ⟨b, 0, none⟩)) GN.refl fun w hJ hd => ?_) ?_
                · have e5 : vals 5 = _ := hd 5 (by decide) (by kernel_rfl)
                  rw [e5]
                  exact ⟨by kernel_rfl, by kernel_rfl, rfl⟩
                refine wpG_cons (gcall 20 #[.pointer (some ⟨b, 0, none⟩)] fun w hJ hd => ?_) ?_
                · have e5 : vals 5 = _ := hd 5 (by decide) (by kernel_rfl)
                  have e6 : vals 6 = _ := hd 6 (by decide) (by kernel_rfl)
                  rw [e5, e6]
                  exact ⟨by kernel_rfl, by kernel_rfl, (sent_q hJ.f2 (by omega)).mono fun e w' ⟨v, he, hsl, hg⟩ => ⟨_, he, hJ.grown hg, hg, hsl⟩⟩
                refine wpG_cons (gop (convert 35 9 (vals 7)) (.string (strOf s)) GN.refl fun w hJ hd => ?_) ?_
                · have e5 : vals 5 = _ := hd 5 (by decide) (by kernel_rfl)
                  have e7 : Sl w 1 (vals 7) s.length (s.map bv) := hd 7 (by decide) (by kernel_rfl)
                  rw [e5]
                  exact ⟨by kernel_rfl, by kernel_rfl, conv_sl e7, rfl⟩
                refine wpG_cons (gval (.pointer (some ⟨br, 0, none⟩)) GN.refl fun w hJ hd => ?_) ?_
                · have e5 : vals 5 = _ := hd 5 (by decide) (by kernel_rfl)
                  rw [e5]
                  exact ⟨by kernel_rfl, by kernel_rfl, rfl⟩
                refine wpG_cons (gcall 21 #[.pointer (some ⟨br, 0, none⟩)] fun w hJ hd => ?_) ?_
                · have e5 : vals 5 = _ := hd 5 (by decide) (by kernel_rfl)
                  have e9 : vals 9 = _ := hd 9 (by decide) (by kernel_rfl)
                  rw [e5, e9]
                  exact ⟨by kernel_rfl, by kernel_rfl, (sentR_q hJ.f3 (by omega)).mono fun e w' ⟨v, he, hsl, hg⟩ => ⟨_, he, hJ.grown hg, hg, hsl⟩⟩
                refine wpG_cons (gop (convert 35 9 (vals 10)) (.string (strOf s)) GN.refl fun w hJ hd => ?_) ?_
                · have e5 : vals 5 = _ := hd 5 (by decide) (by kernel_rfl)
                  have e10 : Sl w 1 (vals 10) s.length (s.map bv) := hd 10 (by decide) (by kernel_rfl)
                  rw [e5]
                  exact ⟨by kernel_rfl, by kernel_rfl, conv_sl e10, rfl⟩
                refine wpG_cons (gop (binOp .neq 9 (.string (strOf s)) (.string (strOf s))) (.bool false) GN.refl fun w hJ hd => ?_) ?_
                · have e5 : vals 5 = _ := hd 5 (by decide) (by kernel_rfl)
                  have e8 : vals 8 = _ := hd 8 (by decide) (by kernel_rfl)
                  have e11 : vals 11 = _ := hd 11 (by decide) (by kernel_rfl)
                  rw [e5, e8, e11]
                  exact ⟨by kernel_rfl, by kernel_rfl, str_neq_same _ _ _, rfl⟩
                refine wpG_cons (gval (.bool false) GN.refl fun w hJ hd => ?_) wpG_nil
                · have e5 : vals 5 = _ := hd 5 (by decide) (by kernel_rfl)
                  have e12 : vals 12 = _ := hd 12 (by decide) (by kernel_rfl)
                  rw [e5, e12]
                  exact ⟨by kernel_rfl, by kernel_rfl, rfl⟩
              · intro vals w hJ hf
                have e0 : vals 0 = _ := hf 0 (by decide)
                have e1 : vals 1 = _ := hf 1 (by decide)
                have e2 : vals 2 = _ := hf 2 (by decide)
                have e3 : vals 3 = _ := hf 3 (by decide)
                have e4 : vals 4 = _ := hf 4 (by decide)
                have e5 : vals 5 = _ := hf 5 (by decide)
                have e6 : vals 6 = _ := hf 6 (by decide)
                have e8 : vals 8 = _ := hf 8 (by decide)
                have e9 : vals 9 = _ := hf 9 (by decide)
                have e11 : vals 11 = _ := hf 11 (by decide)
                have e12 : vals 12 = _ := hf 12 (by decide)
                have e13 : vals 13 = _ := hf 13 (by decide)
                simp only [fillG, Nat.zero_add, Nat.reduceAdd, e0, e1, e2, e3, e4, e5, e6, e8, e9, e11, e12, e13, Act.put, List.setIfInBounds_toArray, List.set_cons_succ, List.set_cons_zero]
                clear e0 e1 e2 e3 e4 e5 e6 e8 e9 e11 e12 e13 hf
                generalize vals 7 = v7
                generalize vals 10 = v10
                go_wp2_with fail
                go_roundw
                case rel => exact ⟨k + 1, b, br, _, _, _, _, _, _, by go_num, rfl, rfl, by omega, by omega, by omega, hJ.tail⟩
                case measure => simp [intOf]; omega
    · obtain rfl : n = k := by omega
      go_wp2_with fail
      refine (ends_h hJ rfl (by omega) (by omega)).mono ?_
      rintro e w5 ⟨rfl, hJ⟩
      go_wp2_with fail
      go_ret
      exact ⟨rfl, hJ.below⟩
end Go.Proofs.Ytaholijnfekkgaa
