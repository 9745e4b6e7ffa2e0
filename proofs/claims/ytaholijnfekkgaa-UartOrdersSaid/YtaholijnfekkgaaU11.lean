/- UartOrders: the walk. -/
import Derived.Test.YtaholijnfekkgaaU10
namespace Go.Proofs.Ytaholijnfekkgaa
open Go.RowKit

theorem conv_sl2 {w : World} {v : Value} {n : Nat} {s : List Int} (h : Sl w 1 v n (s.map bv)) : (convert 35 9 v).run Try.prog w = .ok (.string (strOf s)) w := by
  have := h.len
  simp at this
  subst this
  exact conv_sl h
theorem cut_spare {A : Option Addr} {n cap k : Nat} {A' : Option Addr} (hA : A' = A ∨ A' = A.map (·.add k)) (hn : k ≤ n) :
    (sblk (.slice A' (n - k) (cap - k)) = sblk (.slice A n cap) ∨ sblk (.slice A' (n - k) (cap - k)) = none) ∧ (spare (.slice A' (n - k) (cap - k)) = none ∨ spare (.slice A' (n - k) (cap - k)) = spare (.slice A n cap)) := by
  cases A with
  | none =>
    have : A' = none := by rcases hA with h | h <;> simpa using h
    subst this
    exact ⟨.inr rfl, .inl rfl⟩
  | some a =>
    have : ∃ a', A' = some a' ∧ a'.block = a.block := by
      rcases hA with h | h
      · exact ⟨a, h, rfl⟩
      · exact ⟨_, h, by unfold Addr.add; split <;> rfl⟩
    obtain ⟨a', rfl, hb⟩ := this
    refine ⟨.inl (by simp [sblk, hb]), ?_⟩
    unfold spare
    dsimp only
    by_cases h : n - k < cap - k
    · rw [if_pos h, if_pos (by omega), hb]; exact .inr rfl
    · rw [if_neg h]; exact .inl rfl
/-- s[k:]. -/
theorem Heap.tailed {w0 w : World} {L : List HP} {A : Option Addr} {n cap k : Nat} {xs : List Value} (h : Heap w0 w (HP.sl (.slice A n cap) 1 n xs :: L)) (hk : k ≤ n) :
    Heap w0 w (HP.sl (.slice (if cap = k then A else A.map (·.add k)) (n - k) (cap - k)) 1 (n - k) (xs.drop k) :: L) := by
  have h1 := h.sl.tail hk
  simp only [Nat.mul_one] at h1
  have h2 := cut_spare (A := A) (n := n) (cap := cap) (k := k) (A' := if cap = k then A else A.map (·.add k)) (by split <;> simp) hk
  exact h.cut h1 h2.1 h2.2
/-- append of one byte. -/
theorem app_map {w : World} {v : Value} {n : Nat} {q : List Int} {x : Int} (h : Sl w 1 v (n + 1) (q.map bv ++ [bv x])) : Sl w 1 v (n + 1) ((q ++ [x]).map bv) := by
  rw [List.map_append]; exact h

set_option maxRecDepth 100000 in
set_option maxHeartbeats 8000000 in
theorem orders_walk (A : Option Addr) (n cap : Nat) (w : World) (hS : SlArg [some .i64, some .u64, some .i64, some .u64] w A n) (hn : n ≤ 4398046511104) :
    Calls Try.prog 4 #[.slice A n cap] w fun e w' => e = .returned (.bool true) ∧ Below w.heap.size w w' := by
  obtain ⟨i0, hi, hz0, hz1, hz2⟩ := info_parts info5
  have HS := hide hS
  clear hS
  go_enter Try.func4, Try.ntmps4
  go_wp2_with (first
      | (go_at_call 7; refine (fixed_any w).mono ?_; rintro e w1 ⟨rfl, b1⟩)
      | (go_at_call 8; refine (new_h (Heap.of_grown b1)).mono ?_; rintro e w2 ⟨b, rfl, hJ⟩))
  have hJ4 : Heap w ((w2.alloc (.cells #[] 5)).alloc (.cells #[] 5)) [HP.uu b [] [] false false 0, HP.sl (.slice (some ⟨w2.heap.size, 0, none⟩) 0 0) 1 0 (([] : List Int).map bv), HP.sl (.slice (some ⟨w2.heap.size + 1, 0, none⟩) 0 0) 1 0 (([] : List Int).map bv)] := by
    have h1 := ((Heap.emptyS (sz := 1) hJ 5).f2).emptyS (sz := 1) 5
    simp only [World.size_alloc] at h1
    exact h1.b3
  clear hJ b1
  go_loopw [4, 5, 6, 7] (fun m r lv i wr => ∃ (k : Nat) (q s : List Int) (lo : Bool) (A4 : Option Addr) (n4 cap4 : Nat) (A5 : Option Addr) (n5 cap5 : Nat), i = .int .i64 k ∧ m = .slice A4 n4 cap4 ∧ r = .slice A5 n5 cap5 ∧ lv = .bool lo ∧ k ≤ n ∧ q.length = n4 ∧ n4 ≤ cap4 ∧ n4 ≤ 16 ∧ s.length = n5 ∧ n5 ≤ k ∧
    Heap w wr [HP.uu b q s false lo 0, HP.sl (.slice A4 n4 cap4) 1 n4 (q.map bv), HP.sl (.slice A5 n5 cap5) 1 n5 (s.map bv)]) (fun _ _ _ i _ => n - (intOf i).toNat)
  case atStart => exact ⟨0, [], [], false, _, 0, 0, _, 0, 0, rfl, rfl, rfl, rfl, Nat.zero_le _, rfl, Nat.le_refl _, Nat.zero_le _, rfl, Nat.le_refl _, hJ4⟩
  case round =>
    clear hJ4
    obtain ⟨k, q, s, lo, A4, n4, cap4, A5, n5, cap5, rfl, rfl, rfl, rfl, hk, hq4, hc4, hq16, hs5, hsk, hJ⟩ := hrel
    by_cases hlt : k < n
    · obtain ⟨ab, ao, hA, kd, at_, size, v, hcell, ha0, hv0, hv1⟩ := step_at (unhide HS) hJ.below hlt
      subst hA
      have hone := bv_one [v % 256]
      by_cases k0 : kd = 0
      · subst k0
        have hJ := hJ.new #[.int .i64 0, .int .u64 at_, .int .i64 size, .int .u64 v] 30
        have hcs := cells4 hJ.heap
        go_wp2_with fail
        refine (write_h hJ.f2 (by omega) _ _ _ (by omega) hv0 hv1).mono ?_
        rintro e w4 ⟨rfl, hJ⟩
        have hJ := hJ.f2
        have hcs := cells4 hJ.heap
        rw [show wS s 0 1 v = s ++ [v % 256] from rfl, show wWa false 0 1 v = false from rfl, show wSc 0 0 1 v = 0 from rfl] at hJ
        go_wp2_with (at_builtin; refine wpList_append_sl rfl _ _ 35 rfl 5 i0 _ 1 1 Try.underlying35 hi hz0 hz1 hz2 rfl rfl rfl (hJ.f4.sl.alloc _) (Sl.one _ 5 (.int .u8 (v % 256))) hone (by omega) (by omega) ?_; intro v' w' hsl hgr hblk hsp; obtain ⟨A5', cap5', rfl, _⟩ := hsl.parts)
        have hJ : Heap w w' [HP.blk wr.heap.size #[.int .i64 0, .int .u64 at_, .int .i64 size, .int .u64 v] 30, HP.uu b (q) (s ++ [v % 256]) false lo 0, HP.sl (.slice A4 n4 cap4) 1 n4 ((q).map bv), HP.sl (.slice A5' (n5 + 1) cap5') 1 (n5 + 1) ((s ++ [v % 256]).map bv)] := ((hJ.f4.alloc _).append (app_map hsl) hgr hblk hsp).b4
        have hcs := cells4 hJ.heap
        clear hsl hgr hblk hsp

        refine wp_region_F (fun w1 => Heap w w1 ([HP.blk wr.heap.size #[.int .i64 0, .int .u64 at_, .int .i64 size, .int .u64 v] 30, HP.uu b (q) (s ++ [v % 256]) false lo 0, HP.sl (.slice A4 n4 cap4) 1 n4 ((q).map bv), HP.sl (.slice A5' (n5 + 1) cap5') 1 (n5 + 1) ((s ++ [v % 256]).map bv)])) GN (fun k_ v_ w_ => match k_ with
            | 0 => v_ = .pointer (some ⟨b, 0, none⟩)
            | 1 => v_ = .bool false
            | 2 => v_ = .bool false
            | 3 => v_ = .pointer (some ⟨b, 0, none⟩)
            | 4 => Sl w_ 1 v_ (s ++ [v % 256]).length ((s ++ [v % 256]).map bv)
            | 5 => v_ = .string (strOf (s ++ [v % 256]))
            | 6 => v_ = .slice A5' (n5 + 1) cap5'
            | 7 => v_ = .string (strOf (s ++ [v % 256]))
            | 8 => v_ = .bool false
            | _ => v_ = .bool false) fol (by kernel_rfl) ?_ ?_ ?_ ?_
        · exact hJ.drew
        · intro k_ v_ w_ w2_ h1 hg
          split at h1 <;> first | exact h1 | exact h1.kept (row := none) hg (fun _ _ h => by cases h)
        · intro vals
          show wpG _ _ _ _ _ _ 0 (_ :: _) _
          refine wpG_cons (gval (.pointer (some ⟨b, 0, none⟩)) GN.refl fun w_ hJ hd => ?_) ?_
          · exact ⟨by kernel_rfl, by kernel_rfl, rfl⟩
          refine wpG_cons (gcall 18 #[.pointer (some ⟨b, 0, none⟩)] fun w_ hJ hd => ?_) ?_
          · have e0 : vals 0 = _ := hd 0 (by decide) (by kernel_rfl)
            rw [e0]
            exact ⟨by kernel_rfl, by kernel_rfl, (up_h (b := b) hJ.f2).mono fun e w' ⟨he, hw⟩ => ⟨_, he, by rw [hw]; exact hJ, by rw [hw]; exact GN.refl _, rfl⟩⟩
          refine wpG_cons (gval (.bool false) GN.refl fun w_ hJ hd => ?_) ?_
          · have e1 : vals 1 = _ := hd 1 (by decide) (by kernel_rfl)
            rw [e1]
            exact ⟨by kernel_rfl, by kernel_rfl, rfl⟩
          refine wpG_cons (gval (.pointer (some ⟨b, 0, none⟩)) GN.refl fun w_ hJ hd => ?_) ?_
          · have e2 : vals 2 = _ := hd 2 (by decide) (by kernel_rfl)
            rw [e2]
            exact ⟨by kernel_rfl, by kernel_rfl, rfl⟩
          refine wpG_cons (gcall 20 #[.pointer (some ⟨b, 0, none⟩)] fun w_ hJ hd => ?_) ?_
          · have e2 : vals 2 = _ := hd 2 (by decide) (by kernel_rfl)
            have e3 : vals 3 = _ := hd 3 (by decide) (by kernel_rfl)
            rw [e2, e3]
            exact ⟨by kernel_rfl, by kernel_rfl, (sent_q hJ.f2 (by first | omega | (simp; omega))).mono fun e w' ⟨v, he, hsl, hg⟩ => ⟨_, he, hJ.grown hg, hg, hsl⟩⟩
          refine wpG_cons (gop (convert 35 9 (vals 4)) (.string (strOf (s ++ [v % 256]))) GN.refl fun w_ hJ hd => ?_) ?_
          · have e2 : vals 2 = _ := hd 2 (by decide) (by kernel_rfl)
            have e4 : Sl w_ 1 (vals 4) (s ++ [v % 256]).length ((s ++ [v % 256]).map bv) := hd 4 (by decide) (by kernel_rfl)
            rw [e2]
            exact ⟨by kernel_rfl, by kernel_rfl, conv_sl e4, rfl⟩
          refine wpG_cons (gval (.slice A5' (n5 + 1) cap5') GN.refl fun w_ hJ hd => ?_) ?_
          · have e2 : vals 2 = _ := hd 2 (by decide) (by kernel_rfl)
            rw [e2]
            exact ⟨by kernel_rfl, by kernel_rfl, rfl⟩
          refine wpG_cons (gop (convert 35 9 (.slice A5' (n5 + 1) cap5')) (.string (strOf (s ++ [v % 256]))) GN.refl fun w_ hJ hd => ?_) ?_
          · have e2 : vals 2 = _ := hd 2 (by decide) (by kernel_rfl)
            have e6 : vals 6 = _ := hd 6 (by decide) (by kernel_rfl)
            rw [e2, e6]
            exact ⟨by kernel_rfl, by kernel_rfl, conv_sl2 hJ.f4.sl, rfl⟩
          refine wpG_cons (gop (binOp .neq 9 (.string (strOf (s ++ [v % 256]))) (.string (strOf (s ++ [v % 256])))) (.bool false) GN.refl fun w_ hJ hd => ?_) ?_
          · have e2 : vals 2 = _ := hd 2 (by decide) (by kernel_rfl)
            have e5 : vals 5 = _ := hd 5 (by decide) (by kernel_rfl)
            have e7 : vals 7 = _ := hd 7 (by decide) (by kernel_rfl)
            rw [e2, e5, e7]
            exact ⟨by kernel_rfl, by kernel_rfl, str_neq_same _ _ _, rfl⟩
          refine wpG_cons (gval (.bool false) GN.refl fun w_ hJ hd => ?_) wpG_nil
          · have e2 : vals 2 = _ := hd 2 (by decide) (by kernel_rfl)
            have e8 : vals 8 = _ := hd 8 (by decide) (by kernel_rfl)
            rw [e2, e8]
            exact ⟨by kernel_rfl, by kernel_rfl, rfl⟩
        · intro vals w_ hJ hf
          have e0 : vals 0 = _ := hf 0 (by decide)
          have e1 : vals 1 = _ := hf 1 (by decide)
          have e2 : vals 2 = _ := hf 2 (by decide)
          have e3 : vals 3 = _ := hf 3 (by decide)
          have e5 : vals 5 = _ := hf 5 (by decide)
          have e6 : vals 6 = _ := hf 6 (by decide)
          have e7 : vals 7 = _ := hf 7 (by decide)
          have e8 : vals 8 = _ := hf 8 (by decide)
          have e9 : vals 9 = _ := hf 9 (by decide)
          simp only [fillG, Nat.zero_add, Nat.reduceAdd, e0, e1, e2, e3, e5, e6, e7, e8, e9, Act.put, List.setIfInBounds_toArray, List.set_cons_succ, List.set_cons_zero]
          clear e0 e1 e2 e3 e5 e6 e7 e8 e9 hf
          generalize vals 4 = v4
          go_wp2_with fail
          go_roundw
          case rel => exact ⟨k + 1, q, _, lo, _, n4, cap4, _, n5 + 1, _, by go_num, rfl, rfl, rfl, by omega, hq4, hc4, hq16, by simp [hs5], by omega, hJ.tail⟩
          case measure => simp [intOf]; omega
      · have q0 : (kd == 0) = false := beq_eq_false_iff_ne.2 k0
        by_cases k1 : kd = 1
        · subst k1
          have hJ := hJ.new #[.int .i64 1, .int .u64 at_, .int .i64 size, .int .u64 v] 30
          have hcs := cells4 hJ.heap
          rcases q with _ | ⟨x, t⟩
          · simp only [List.length_nil] at hq4
            subst hq4
            go_wp2_with fail
            refine (read_h hJ.f2 _ _ (by omega)).mono ?_
            rintro e w4 ⟨rfl, hJ⟩
            have hJ := hJ.f2
            rw [show rQ [] 0 1 = [] from rfl, show rLo lo 0 1 = lo from rfl] at hJ
            rw [show rV [] false lo 0 0 1 = 0 from rfl, show rOk 0 1 = true from rfl]
            have hcs := cells4 hJ.heap
            go_wp2_with fail
            refine wp_region_F (fun w1 => Heap w w1 ([HP.blk wr.heap.size #[.int .i64 1, .int .u64 at_, .int .i64 size, .int .u64 v] 30, HP.uu b ([]) (s) false lo 0, HP.sl (.slice A4 0 cap4) 1 0 (([]).map bv), HP.sl (.slice A5 n5 cap5) 1 n5 ((s).map bv)])) GN (fun k_ v_ w_ => match k_ with
                | 0 => v_ = .pointer (some ⟨b, 0, none⟩)
                | 1 => v_ = .bool false
                | 2 => v_ = .bool false
                | 3 => v_ = .pointer (some ⟨b, 0, none⟩)
                | 4 => Sl w_ 1 v_ (s).length ((s).map bv)
                | 5 => v_ = .string (strOf (s))
                | 6 => v_ = .slice A5 n5 cap5
                | 7 => v_ = .string (strOf (s))
                | 8 => v_ = .bool false
                | _ => v_ = .bool false) fol (by kernel_rfl) ?_ ?_ ?_ ?_
            · exact hJ.drew
            · intro k_ v_ w_ w2_ h1 hg
              split at h1 <;> first | exact h1 | exact h1.kept (row := none) hg (fun _ _ h => by cases h)
            · intro vals
              show wpG _ _ _ _ _ _ 0 (_ :: _) _
              refine wpG_cons (gval (.pointer (some ⟨b, 0, none⟩)) GN.refl fun w_ hJ hd => ?_) ?_
              · exact ⟨by kernel_rfl, by kernel_rfl, rfl⟩
              refine wpG_cons (gcall 18 #[.pointer (some ⟨b, 0, none⟩)] fun w_ hJ hd => ?_) ?_
              · have e0 : vals 0 = _ := hd 0 (by decide) (by kernel_rfl)
                rw [e0]
                exact ⟨by kernel_rfl, by kernel_rfl, (up_h (b := b) hJ.f2).mono fun e w' ⟨he, hw⟩ => ⟨_, he, by rw [hw]; exact hJ, by rw [hw]; exact GN.refl _, rfl⟩⟩
              refine wpG_cons (gval (.bool false) GN.refl fun w_ hJ hd => ?_) ?_
              · have e1 : vals 1 = _ := hd 1 (by decide) (by kernel_rfl)
                rw [e1]
                exact ⟨by kernel_rfl, by kernel_rfl, rfl⟩
              refine wpG_cons (gval (.pointer (some ⟨b, 0, none⟩)) GN.refl fun w_ hJ hd => ?_) ?_
              · have e2 : vals 2 = _ := hd 2 (by decide) (by kernel_rfl)
                rw [e2]
                exact ⟨by kernel_rfl, by kernel_rfl, rfl⟩
              refine wpG_cons (gcall 20 #[.pointer (some ⟨b, 0, none⟩)] fun w_ hJ hd => ?_) ?_
              · have e2 : vals 2 = _ := hd 2 (by decide) (by kernel_rfl)
                have e3 : vals 3 = _ := hd 3 (by decide) (by kernel_rfl)
                rw [e2, e3]
                exact ⟨by kernel_rfl, by kernel_rfl, (sent_q hJ.f2 (by first | omega | (simp; omega))).mono fun e w' ⟨v, he, hsl, hg⟩ => ⟨_, he, hJ.grown hg, hg, hsl⟩⟩
              refine wpG_cons (gop (convert 35 9 (vals 4)) (.string (strOf (s))) GN.refl fun w_ hJ hd => ?_) ?_
              · have e2 : vals 2 = _ := hd 2 (by decide) (by kernel_rfl)
                have e4 : Sl w_ 1 (vals 4) (s).length ((s).map bv) := hd 4 (by decide) (by kernel_rfl)
                rw [e2]
                exact ⟨by kernel_rfl, by kernel_rfl, conv_sl e4, rfl⟩
              refine wpG_cons (gval (.slice A5 n5 cap5) GN.refl fun w_ hJ hd => ?_) ?_
              · have e2 : vals 2 = _ := hd 2 (by decide) (by kernel_rfl)
                rw [e2]
                exact ⟨by kernel_rfl, by kernel_rfl, rfl⟩
              refine wpG_cons (gop (convert 35 9 (.slice A5 n5 cap5)) (.string (strOf (s))) GN.refl fun w_ hJ hd => ?_) ?_
              · have e2 : vals 2 = _ := hd 2 (by decide) (by kernel_rfl)
                have e6 : vals 6 = _ := hd 6 (by decide) (by kernel_rfl)
                rw [e2, e6]
                exact ⟨by kernel_rfl, by kernel_rfl, conv_sl2 hJ.f4.sl, rfl⟩
              refine wpG_cons (gop (binOp .neq 9 (.string (strOf (s))) (.string (strOf (s)))) (.bool false) GN.refl fun w_ hJ hd => ?_) ?_
              · have e2 : vals 2 = _ := hd 2 (by decide) (by kernel_rfl)
                have e5 : vals 5 = _ := hd 5 (by decide) (by kernel_rfl)
                have e7 : vals 7 = _ := hd 7 (by decide) (by kernel_rfl)
                rw [e2, e5, e7]
                exact ⟨by kernel_rfl, by kernel_rfl, str_neq_same _ _ _, rfl⟩
              refine wpG_cons (gval (.bool false) GN.refl fun w_ hJ hd => ?_) wpG_nil
              · have e2 : vals 2 = _ := hd 2 (by decide) (by kernel_rfl)
                have e8 : vals 8 = _ := hd 8 (by decide) (by kernel_rfl)
                rw [e2, e8]
                exact ⟨by kernel_rfl, by kernel_rfl, rfl⟩
            · intro vals w_ hJ hf
              have e0 : vals 0 = _ := hf 0 (by decide)
              have e1 : vals 1 = _ := hf 1 (by decide)
              have e2 : vals 2 = _ := hf 2 (by decide)
              have e3 : vals 3 = _ := hf 3 (by decide)
              have e5 : vals 5 = _ := hf 5 (by decide)
              have e6 : vals 6 = _ := hf 6 (by decide)
              have e7 : vals 7 = _ := hf 7 (by decide)
              have e8 : vals 8 = _ := hf 8 (by decide)
              have e9 : vals 9 = _ := hf 9 (by decide)
              simp only [fillG, Nat.zero_add, Nat.reduceAdd, e0, e1, e2, e3, e5, e6, e7, e8, e9, Act.put, List.setIfInBounds_toArray, List.set_cons_succ, List.set_cons_zero]
              clear e0 e1 e2 e3 e5 e6 e7 e8 e9 hf
              generalize vals 4 = v4
              go_wp2_with fail
              go_roundw
              case rel => exact ⟨k + 1, [], s, lo, _, 0, cap4, _, n5, _, by go_num, rfl, rfl, rfl, by omega, rfl, by omega, by omega, hs5, by omega, hJ.tail⟩
              case measure => simp [intOf]; omega
          · simp only [List.length_cons] at hq4
            obtain ⟨g, o, cap4', hv4, _, hglt, hgb, hg, hgf⟩ := hJ.f3.sl.cell (j := 0) (by omega)
            injection hv4 with hv41 hv42 hv43
            subst hv41; subst hv43
            clear hv42
            simp only [List.map_cons, List.getElem?_cons_zero, Nat.add_zero] at hg
            unfold bv at hg
            have hqb := uu_qb hJ.f2
            have hx := hqb x (by simp)
            have hx2 : x % 18446744073709551616 = x := by omega
            have h0n : decide (0 < n4) = true := by simp; omega
            go_wp2_with fail
            refine (read_h hJ.f2 _ _ (by omega)).mono ?_
            rintro e w4 ⟨rfl, hJ⟩
            have hJ := hJ.f2
            rw [show rQ (x :: t) 0 1 = t from rfl, show rLo lo 0 1 = lo from rfl] at hJ
            rw [show rV (x :: t) false lo 0 0 1 = x from rfl, show rOk 0 1 = true from rfl]
            have hcs := cells4 hJ.heap
            obtain ⟨_, _, _, hv4, _, _, _, hg, _⟩ := hJ.f3.sl.cell (j := 0) (by omega)
            injection hv4 with hv41 hv42 hv43
            injection hv41 with hv41
            injection hv41 with hv4a hv4b
            subst hv4a; subst hv4b; subst hv43
            clear hv42
            simp only [List.map_cons, List.getElem?_cons_zero, Nat.add_zero] at hg
            unfold bv at hg
            have hJt := hJ.f3.tailed (k := 1) (by omega)
            simp only [List.map_cons, List.drop_one, List.tail_cons] at hJt
            have ht4 : t.length = n4 - 1 := by omega
            by_cases hc1 : cap4 = 1
            · rw [if_pos hc1] at hJt
              have hJ := hJt.b3
              clear hJt
              subst hc1
              obtain rfl : n4 = 1 := by omega
              go_wp2_with fail
              refine wp_region_F (fun w1 => Heap w w1 ([HP.blk wr.heap.size #[.int .i64 1, .int .u64 at_, .int .i64 size, .int .u64 v] 30, HP.uu b (t) (s) false lo 0, HP.sl (.slice (some ⟨g, o, none⟩) (1 - 1) (1 - 1)) 1 (1 - 1) ((t).map bv), HP.sl (.slice A5 n5 cap5) 1 n5 ((s).map bv)])) GN (fun k_ v_ w_ => match k_ with
                  | 0 => v_ = .pointer (some ⟨b, 0, none⟩)
                  | 1 => v_ = .bool false
                  | 2 => v_ = .bool false
                  | 3 => v_ = .pointer (some ⟨b, 0, none⟩)
                  | 4 => Sl w_ 1 v_ (s).length ((s).map bv)
                  | 5 => v_ = .string (strOf (s))
                  | 6 => v_ = .slice A5 n5 cap5
                  | 7 => v_ = .string (strOf (s))
                  | 8 => v_ = .bool false
                  | _ => v_ = .bool false) fol (by kernel_rfl) ?_ ?_ ?_ ?_
              · exact hJ.drew
              · intro k_ v_ w_ w2_ h1 hg
                split at h1 <;> first | exact h1 | exact h1.kept (row := none) hg (fun _ _ h => by cases h)
              · intro vals
                show wpG _ _ _ _ _ _ 0 (_ :: _) _
                refine wpG_cons (gval (.pointer (some ⟨b, 0, none⟩)) GN.refl fun w_ hJ hd => ?_) ?_
                · exact ⟨by kernel_rfl, by kernel_rfl, rfl⟩
                refine wpG_cons (gcall 18 #[.pointer (some ⟨b, 0, none⟩)] fun w_ hJ hd => ?_) ?_
                · have e0 : vals 0 = _ := hd 0 (by decide) (by kernel_rfl)
                  rw [e0]
                  exact ⟨by kernel_rfl, by kernel_rfl, (up_h (b := b) hJ.f2).mono fun e w' ⟨he, hw⟩ => ⟨_, he, by rw [hw]; exact hJ, by rw [hw]; exact GN.refl _, rfl⟩⟩
                refine wpG_cons (gval (.bool false) GN.refl fun w_ hJ hd => ?_) ?_
                · have e1 : vals 1 = _ := hd 1 (by decide) (by kernel_rfl)
                  rw [e1]
                  exact ⟨by kernel_rfl, by kernel_rfl, rfl⟩
                refine wpG_cons (gval (.pointer (some ⟨b, 0, none⟩)) GN.refl fun w_ hJ hd => ?_) ?_
                · have e2 : vals 2 = _ := hd 2 (by decide) (by kernel_rfl)
                  rw [e2]
                  exact ⟨by kernel_rfl, by kernel_rfl, rfl⟩
                refine wpG_cons (gcall 20 #[.pointer (some ⟨b, 0, none⟩)] fun w_ hJ hd => ?_) ?_
                · have e2 : vals 2 = _ := hd 2 (by decide) (by kernel_rfl)
                  have e3 : vals 3 = _ := hd 3 (by decide) (by kernel_rfl)
                  rw [e2, e3]
                  exact ⟨by kernel_rfl, by kernel_rfl, (sent_q hJ.f2 (by first | omega | (simp; omega))).mono fun e w' ⟨v, he, hsl, hg⟩ => ⟨_, he, hJ.grown hg, hg, hsl⟩⟩
                refine wpG_cons (gop (convert 35 9 (vals 4)) (.string (strOf (s))) GN.refl fun w_ hJ hd => ?_) ?_
                · have e2 : vals 2 = _ := hd 2 (by decide) (by kernel_rfl)
                  have e4 : Sl w_ 1 (vals 4) (s).length ((s).map bv) := hd 4 (by decide) (by kernel_rfl)
                  rw [e2]
                  exact ⟨by kernel_rfl, by kernel_rfl, conv_sl e4, rfl⟩
                refine wpG_cons (gval (.slice A5 n5 cap5) GN.refl fun w_ hJ hd => ?_) ?_
                · have e2 : vals 2 = _ := hd 2 (by decide) (by kernel_rfl)
                  rw [e2]
                  exact ⟨by kernel_rfl, by kernel_rfl, rfl⟩
                refine wpG_cons (gop (convert 35 9 (.slice A5 n5 cap5)) (.string (strOf (s))) GN.refl fun w_ hJ hd => ?_) ?_
                · have e2 : vals 2 = _ := hd 2 (by decide) (by kernel_rfl)
                  have e6 : vals 6 = _ := hd 6 (by decide) (by kernel_rfl)
                  rw [e2, e6]
                  exact ⟨by kernel_rfl, by kernel_rfl, conv_sl2 hJ.f4.sl, rfl⟩
                refine wpG_cons (gop (binOp .neq 9 (.string (strOf (s))) (.string (strOf (s)))) (.bool false) GN.refl fun w_ hJ hd => ?_) ?_
                · have e2 : vals 2 = _ := hd 2 (by decide) (by kernel_rfl)
                  have e5 : vals 5 = _ := hd 5 (by decide) (by kernel_rfl)
                  have e7 : vals 7 = _ := hd 7 (by decide) (by kernel_rfl)
                  rw [e2, e5, e7]
                  exact ⟨by kernel_rfl, by kernel_rfl, str_neq_same _ _ _, rfl⟩
                refine wpG_cons (gval (.bool false) GN.refl fun w_ hJ hd => ?_) wpG_nil
                · have e2 : vals 2 = _ := hd 2 (by decide) (by kernel_rfl)
                  have e8 : vals 8 = _ := hd 8 (by decide) (by kernel_rfl)
                  rw [e2, e8]
                  exact ⟨by kernel_rfl, by kernel_rfl, rfl⟩
              · intro vals w_ hJ hf
                have e0 : vals 0 = _ := hf 0 (by decide)
                have e1 : vals 1 = _ := hf 1 (by decide)
                have e2 : vals 2 = _ := hf 2 (by decide)
                have e3 : vals 3 = _ := hf 3 (by decide)
                have e5 : vals 5 = _ := hf 5 (by decide)
                have e6 : vals 6 = _ := hf 6 (by decide)
                have e7 : vals 7 = _ := hf 7 (by decide)
                have e8 : vals 8 = _ := hf 8 (by decide)
                have e9 : vals 9 = _ := hf 9 (by decide)
                simp only [fillG, Nat.zero_add, Nat.reduceAdd, e0, e1, e2, e3, e5, e6, e7, e8, e9, Act.put, List.setIfInBounds_toArray, List.set_cons_succ, List.set_cons_zero]
                clear e0 e1 e2 e3 e5 e6 e7 e8 e9 hf
                generalize vals 4 = v4
                go_wp2_with fail
                go_roundw
                case rel => exact ⟨k + 1, t, s, lo, _, 1 - 1, 1 - 1, _, n5, _, by go_num, rfl, rfl, rfl, by omega, ht4, by omega, by omega, hs5, by omega, hJ.tail⟩
                case measure => simp [intOf]; omega
            · rw [if_neg hc1, Option.map_some, show (⟨g, o, none⟩ : Addr).add 1 = ⟨g, o + 1, none⟩ from rfl] at hJt
              have hJ := hJt.b3
              clear hJt
              have hc1' : (cap4 == 1) = false := beq_eq_false_iff_ne.2 hc1
              go_wp2_with fail
              refine wp_region_F (fun w1 => Heap w w1 ([HP.blk wr.heap.size #[.int .i64 1, .int .u64 at_, .int .i64 size, .int .u64 v] 30, HP.uu b (t) (s) false lo 0, HP.sl (.slice (some ⟨g, o + 1, none⟩) (n4 - 1) (cap4 - 1)) 1 (n4 - 1) ((t).map bv), HP.sl (.slice A5 n5 cap5) 1 n5 ((s).map bv)])) GN (fun k_ v_ w_ => match k_ with
                  | 0 => v_ = .pointer (some ⟨b, 0, none⟩)
                  | 1 => v_ = .bool false
                  | 2 => v_ = .bool false
                  | 3 => v_ = .pointer (some ⟨b, 0, none⟩)
                  | 4 => Sl w_ 1 v_ (s).length ((s).map bv)
                  | 5 => v_ = .string (strOf (s))
                  | 6 => v_ = .slice A5 n5 cap5
                  | 7 => v_ = .string (strOf (s))
                  | 8 => v_ = .bool false
                  | _ => v_ = .bool false) fol (by kernel_rfl) ?_ ?_ ?_ ?_
              · exact hJ.drew
              · intro k_ v_ w_ w2_ h1 hg
                split at h1 <;> first | exact h1 | exact h1.kept (row := none) hg (fun _ _ h => by cases h)
              · intro vals
                show wpG _ _ _ _ _ _ 0 (_ :: _) _
                refine wpG_cons (gval (.pointer (some ⟨b, 0, none⟩)) GN.refl fun w_ hJ hd => ?_) ?_
                · exact ⟨by kernel_rfl, by kernel_rfl, rfl⟩
                refine wpG_cons (gcall 18 #[.pointer (some ⟨b, 0, none⟩)] fun w_ hJ hd => ?_) ?_
                · have e0 : vals 0 = _ := hd 0 (by decide) (by kernel_rfl)
                  rw [e0]
                  exact ⟨by kernel_rfl, by kernel_rfl, (up_h (b := b) hJ.f2).mono fun e w' ⟨he, hw⟩ => ⟨_, he, by rw [hw]; exact hJ, by rw [hw]; exact GN.refl _, rfl⟩⟩
                refine wpG_cons (gval (.bool false) GN.refl fun w_ hJ hd => ?_) ?_
                · have e1 : vals 1 = _ := hd 1 (by decide) (by kernel_rfl)
                  rw [e1]
                  exact ⟨by kernel_rfl, by kernel_rfl, rfl⟩
                refine wpG_cons (gval (.pointer (some ⟨b, 0, none⟩)) GN.refl fun w_ hJ hd => ?_) ?_
                · have e2 : vals 2 = _ := hd 2 (by decide) (by kernel_rfl)
                  rw [e2]
                  exact ⟨by kernel_rfl, by kernel_rfl, rfl⟩
                refine wpG_cons (gcall 20 #[.pointer (some ⟨b, 0, none⟩)] fun w_ hJ hd => ?_) ?_
                · have e2 : vals 2 = _ := hd 2 (by decide) (by kernel_rfl)
                  have e3 : vals 3 = _ := hd 3 (by decide) (by kernel_rfl)
                  rw [e2, e3]
                  exact ⟨by kernel_rfl, by kernel_rfl, (sent_q hJ.f2 (by first | omega | (simp; omega))).mono fun e w' ⟨v, he, hsl, hg⟩ => ⟨_, he, hJ.grown hg, hg, hsl⟩⟩
                refine wpG_cons (gop (convert 35 9 (vals 4)) (.string (strOf (s))) GN.refl fun w_ hJ hd => ?_) ?_
                · have e2 : vals 2 = _ := hd 2 (by decide) (by kernel_rfl)
                  have e4 : Sl w_ 1 (vals 4) (s).length ((s).map bv) := hd 4 (by decide) (by kernel_rfl)
                  rw [e2]
                  exact ⟨by kernel_rfl, by kernel_rfl, conv_sl e4, rfl⟩
                refine wpG_cons (gval (.slice A5 n5 cap5) GN.refl fun w_ hJ hd => ?_) ?_
                · have e2 : vals 2 = _ := hd 2 (by decide) (by kernel_rfl)
                  rw [e2]
                  exact ⟨by kernel_rfl, by kernel_rfl, rfl⟩
                refine wpG_cons (gop (convert 35 9 (.slice A5 n5 cap5)) (.string (strOf (s))) GN.refl fun w_ hJ hd => ?_) ?_
                · have e2 : vals 2 = _ := hd 2 (by decide) (by kernel_rfl)
                  have e6 : vals 6 = _ := hd 6 (by decide) (by kernel_rfl)
                  rw [e2, e6]
                  exact ⟨by kernel_rfl, by kernel_rfl, conv_sl2 hJ.f4.sl, rfl⟩
                refine wpG_cons (gop (binOp .neq 9 (.string (strOf (s))) (.string (strOf (s)))) (.bool false) GN.refl fun w_ hJ hd => ?_) ?_
                · have e2 : vals 2 = _ := hd 2 (by decide) (by kernel_rfl)
                  have e5 : vals 5 = _ := hd 5 (by decide) (by kernel_rfl)
                  have e7 : vals 7 = _ := hd 7 (by decide) (by kernel_rfl)
                  rw [e2, e5, e7]
                  exact ⟨by kernel_rfl, by kernel_rfl, str_neq_same _ _ _, rfl⟩
                refine wpG_cons (gval (.bool false) GN.refl fun w_ hJ hd => ?_) wpG_nil
                · have e2 : vals 2 = _ := hd 2 (by decide) (by kernel_rfl)
                  have e8 : vals 8 = _ := hd 8 (by decide) (by kernel_rfl)
                  rw [e2, e8]
                  exact ⟨by kernel_rfl, by kernel_rfl, rfl⟩
              · intro vals w_ hJ hf
                have e0 : vals 0 = _ := hf 0 (by decide)
                have e1 : vals 1 = _ := hf 1 (by decide)
                have e2 : vals 2 = _ := hf 2 (by decide)
                have e3 : vals 3 = _ := hf 3 (by decide)
                have e5 : vals 5 = _ := hf 5 (by decide)
                have e6 : vals 6 = _ := hf 6 (by decide)
                have e7 : vals 7 = _ := hf 7 (by decide)
                have e8 : vals 8 = _ := hf 8 (by decide)
                have e9 : vals 9 = _ := hf 9 (by decide)
                simp only [fillG, Nat.zero_add, Nat.reduceAdd, e0, e1, e2, e3, e5, e6, e7, e8, e9, Act.put, List.setIfInBounds_toArray, List.set_cons_succ, List.set_cons_zero]
                clear e0 e1 e2 e3 e5 e6 e7 e8 e9 hf
                generalize vals 4 = v4
                go_wp2_with fail
                go_roundw
                case rel => exact ⟨k + 1, t, s, lo, _, n4 - 1, cap4 - 1, _, n5, _, by go_num, rfl, rfl, rfl, by omega, ht4, by omega, by omega, hs5, by omega, hJ.tail⟩
                case measure => simp [intOf]; omega
        · have q1 : (kd == 1) = false := beq_eq_false_iff_ne.2 k1
          by_cases k2 : kd = 2
          · subst k2
            have hJ := hJ.new #[.int .i64 2, .int .u64 at_, .int .i64 size, .int .u64 v] 30
            have hcs := cells4 hJ.heap
            have hr : (n4 = 0 ∧ lo = false ∧ rV q false lo 0 5 1 = 96) ∨ (0 < n4 ∧ lo = false ∧ rV q false lo 0 5 1 = 97) ∨ (n4 = 0 ∧ lo = true ∧ rV q false lo 0 5 1 = 98) ∨ (0 < n4 ∧ lo = true ∧ rV q false lo 0 5 1 = 99) := by
              unfold rV
              by_cases h0 : n4 = 0 <;> cases lo <;> simp [rOk, hq4, h0] <;> omega
            rcases hr with ⟨h0, rfl, hr⟩ | ⟨h0, rfl, hr⟩ | ⟨h0, rfl, hr⟩ | ⟨h0, rfl, hr⟩
            all_goals first | (have h0d : decide (0 < n4) = true := by simp; omega) | (have h0d : decide (0 < n4) = false := by simp; omega)
            all_goals clear h0
            all_goals have hr := hide hr
            all_goals go_wp2_with fail
            all_goals
              refine (read_h hJ.f2 _ _ (by omega)).mono ?_
              rintro e w4 ⟨rfl, hJ⟩
              have hJ := hJ.f2
              rw [show rQ q 5 1 = q from rfl] at hJ
              rw [unhide hr, show rOk 5 1 = true from rfl]
              have hcs := cells4 hJ.heap
              go_wp2_with fail
              refine wp_region_F (fun w1 => Heap w w1 ([HP.blk wr.heap.size #[.int .i64 2, .int .u64 at_, .int .i64 size, .int .u64 v] 30, HP.uu b (q) (s) false false 0, HP.sl (.slice A4 n4 cap4) 1 n4 ((q).map bv), HP.sl (.slice A5 n5 cap5) 1 n5 ((s).map bv)])) GN (fun k_ v_ w_ => match k_ with
                  | 0 => v_ = .pointer (some ⟨b, 0, none⟩)
                  | 1 => v_ = .bool false
                  | 2 => v_ = .bool false
                  | 3 => v_ = .pointer (some ⟨b, 0, none⟩)
                  | 4 => Sl w_ 1 v_ (s).length ((s).map bv)
                  | 5 => v_ = .string (strOf (s))
                  | 6 => v_ = .slice A5 n5 cap5
                  | 7 => v_ = .string (strOf (s))
                  | 8 => v_ = .bool false
                  | _ => v_ = .bool false) fol (by kernel_rfl) ?_ ?_ ?_ ?_
              · exact hJ.drew
              · intro k_ v_ w_ w2_ h1 hg
                split at h1 <;> first | exact h1 | exact h1.kept (row := none) hg (fun _ _ h => by cases h)
              · intro vals
                show wpG _ _ _ _ _ _ 0 (_ :: _) _
                refine wpG_cons (gval (.pointer (some ⟨b, 0, none⟩)) GN.refl fun w_ hJ hd => ?_) ?_
                · exact ⟨by kernel_rfl, by kernel_rfl, rfl⟩
                refine wpG_cons (gcall 18 #[.pointer (some ⟨b, 0, none⟩)] fun w_ hJ hd => ?_) ?_
                · have e0 : vals 0 = _ := hd 0 (by decide) (by kernel_rfl)
                  rw [e0]
                  exact ⟨by kernel_rfl, by kernel_rfl, (up_h (b := b) hJ.f2).mono fun e w' ⟨he, hw⟩ => ⟨_, he, by rw [hw]; exact hJ, by rw [hw]; exact GN.refl _, rfl⟩⟩
                refine wpG_cons (gval (.bool false) GN.refl fun w_ hJ hd => ?_) ?_
                · have e1 : vals 1 = _ := hd 1 (by decide) (by kernel_rfl)
                  rw [e1]
                  exact ⟨by kernel_rfl, by kernel_rfl, rfl⟩
                refine wpG_cons (gval (.pointer (some ⟨b, 0, none⟩)) GN.refl fun w_ hJ hd => ?_) ?_
                · have e2 : vals 2 = _ := hd 2 (by decide) (by kernel_rfl)
                  rw [e2]
                  exact ⟨by kernel_rfl, by kernel_rfl, rfl⟩
                refine wpG_cons (gcall 20 #[.pointer (some ⟨b, 0, none⟩)] fun w_ hJ hd => ?_) ?_
                · have e2 : vals 2 = _ := hd 2 (by decide) (by kernel_rfl)
                  have e3 : vals 3 = _ := hd 3 (by decide) (by kernel_rfl)
                  rw [e2, e3]
                  exact ⟨by kernel_rfl, by kernel_rfl, (sent_q hJ.f2 (by first | omega | (simp; omega))).mono fun e w' ⟨v, he, hsl, hg⟩ => ⟨_, he, hJ.grown hg, hg, hsl⟩⟩
                refine wpG_cons (gop (convert 35 9 (vals 4)) (.string (strOf (s))) GN.refl fun w_ hJ hd => ?_) ?_
                · have e2 : vals 2 = _ := hd 2 (by decide) (by kernel_rfl)
                  have e4 : Sl w_ 1 (vals 4) (s).length ((s).map bv) := hd 4 (by decide) (by kernel_rfl)
                  rw [e2]
                  exact ⟨by kernel_rfl, by kernel_rfl, conv_sl e4, rfl⟩
                refine wpG_cons (gval (.slice A5 n5 cap5) GN.refl fun w_ hJ hd => ?_) ?_
                · have e2 : vals 2 = _ := hd 2 (by decide) (by kernel_rfl)
                  rw [e2]
                  exact ⟨by kernel_rfl, by kernel_rfl, rfl⟩
                refine wpG_cons (gop (convert 35 9 (.slice A5 n5 cap5)) (.string (strOf (s))) GN.refl fun w_ hJ hd => ?_) ?_
                · have e2 : vals 2 = _ := hd 2 (by decide) (by kernel_rfl)
                  have e6 : vals 6 = _ := hd 6 (by decide) (by kernel_rfl)
                  rw [e2, e6]
                  exact ⟨by kernel_rfl, by kernel_rfl, conv_sl2 hJ.f4.sl, rfl⟩
                refine wpG_cons (gop (binOp .neq 9 (.string (strOf (s))) (.string (strOf (s)))) (.bool false) GN.refl fun w_ hJ hd => ?_) ?_
                · have e2 : vals 2 = _ := hd 2 (by decide) (by kernel_rfl)
                  have e5 : vals 5 = _ := hd 5 (by decide) (by kernel_rfl)
                  have e7 : vals 7 = _ := hd 7 (by decide) (by kernel_rfl)
                  rw [e2, e5, e7]
                  exact ⟨by kernel_rfl, by kernel_rfl, str_neq_same _ _ _, rfl⟩
                refine wpG_cons (gval (.bool false) GN.refl fun w_ hJ hd => ?_) wpG_nil
                · have e2 : vals 2 = _ := hd 2 (by decide) (by kernel_rfl)
                  have e8 : vals 8 = _ := hd 8 (by decide) (by kernel_rfl)
                  rw [e2, e8]
                  exact ⟨by kernel_rfl, by kernel_rfl, rfl⟩
              · intro vals w_ hJ hf
                have e0 : vals 0 = _ := hf 0 (by decide)
                have e1 : vals 1 = _ := hf 1 (by decide)
                have e2 : vals 2 = _ := hf 2 (by decide)
                have e3 : vals 3 = _ := hf 3 (by decide)
                have e5 : vals 5 = _ := hf 5 (by decide)
                have e6 : vals 6 = _ := hf 6 (by decide)
                have e7 : vals 7 = _ := hf 7 (by decide)
                have e8 : vals 8 = _ := hf 8 (by decide)
                have e9 : vals 9 = _ := hf 9 (by decide)
                simp only [fillG, Nat.zero_add, Nat.reduceAdd, e0, e1, e2, e3, e5, e6, e7, e8, e9, Act.put, List.setIfInBounds_toArray, List.set_cons_succ, List.set_cons_zero]
                clear e0 e1 e2 e3 e5 e6 e7 e8 e9 hf
                generalize vals 4 = v4
                go_wp2_with fail
                go_roundw
                case rel => exact ⟨k + 1, q, s, false, _, n4, cap4, _, n5, _, by go_num, rfl, rfl, rfl, by omega, hq4, by omega, by omega, hs5, by omega, hJ.tail⟩
                case measure => simp [intOf]; omega
          · have q2 : (kd == 2) = false := beq_eq_false_iff_ne.2 k2
            clear k0 k1 k2
            have hJ := hJ.new #[.int .i64 kd, .int .u64 at_, .int .i64 size, .int .u64 v] 30
            have hcs := cells4 hJ.heap
            by_cases h16 : n4 < 16
            · go_wp2_with fail
              refine (give_h hJ.f2 _ (by omega) (by omega)).mono ?_
              rintro e w4 ⟨rfl, hJ⟩
              have hJ := hJ.f2
              rw [if_neg (by omega), if_neg (by omega)] at hJ
              have hcs := cells4 hJ.heap
              go_wp2_with (at_builtin; refine wpList_append_sl rfl _ _ 35 rfl 5 i0 _ 1 1 Try.underlying35 hi hz0 hz1 hz2 rfl rfl rfl (hJ.f3.sl.alloc _) (Sl.one _ 5 (.int .u8 (v % 256))) hone (by omega) (by omega) ?_; intro v' w' hsl hgr hblk hsp; obtain ⟨A4', cap4', rfl, hcap4⟩ := hsl.parts)
              have hJ : Heap w w' [HP.blk wr.heap.size #[.int .i64 kd, .int .u64 at_, .int .i64 size, .int .u64 v] 30, HP.uu b (q ++ [v % 256]) (s) false lo 0, HP.sl (.slice A4' (n4 + 1) cap4') 1 (n4 + 1) ((q ++ [v % 256]).map bv), HP.sl (.slice A5 n5 cap5) 1 n5 ((s).map bv)] := ((hJ.f3.alloc _).append (app_map hsl) hgr hblk hsp).b3
              have hcs := cells4 hJ.heap
              clear hsl hgr hblk hsp
              refine wp_region_F (fun w1 => Heap w w1 ([HP.blk wr.heap.size #[.int .i64 kd, .int .u64 at_, .int .i64 size, .int .u64 v] 30, HP.uu b (q ++ [v % 256]) (s) false lo 0, HP.sl (.slice A4' (n4 + 1) cap4') 1 (n4 + 1) ((q ++ [v % 256]).map bv), HP.sl (.slice A5 n5 cap5) 1 n5 ((s).map bv)])) GN (fun k_ v_ w_ => match k_ with
                  | 0 => v_ = .pointer (some ⟨b, 0, none⟩)
                  | 1 => v_ = .bool false
                  | 2 => v_ = .bool false
                  | 3 => v_ = .pointer (some ⟨b, 0, none⟩)
                  | 4 => Sl w_ 1 v_ (s).length ((s).map bv)
                  | 5 => v_ = .string (strOf (s))
                  | 6 => v_ = .slice A5 n5 cap5
                  | 7 => v_ = .string (strOf (s))
                  | 8 => v_ = .bool false
                  | _ => v_ = .bool false) fol (by kernel_rfl) ?_ ?_ ?_ ?_
              · exact hJ.drew
              · intro k_ v_ w_ w2_ h1 hg
                split at h1 <;> first | exact h1 | exact h1.kept (row := none) hg (fun _ _ h => by cases h)
              · intro vals
                show wpG _ _ _ _ _ _ 0 (_ :: _) _
                refine wpG_cons (gval (.pointer (some ⟨b, 0, none⟩)) GN.refl fun w_ hJ hd => ?_) ?_
                · exact ⟨by kernel_rfl, by kernel_rfl, rfl⟩
                refine wpG_cons (gcall 18 #[.pointer (some ⟨b, 0, none⟩)] fun w_ hJ hd => ?_) ?_
                · have e0 : vals 0 = _ := hd 0 (by decide) (by kernel_rfl)
                  rw [e0]
                  exact ⟨by kernel_rfl, by kernel_rfl, (up_h (b := b) hJ.f2).mono fun e w' ⟨he, hw⟩ => ⟨_, he, by rw [hw]; exact hJ, by rw [hw]; exact GN.refl _, rfl⟩⟩
                refine wpG_cons (gval (.bool false) GN.refl fun w_ hJ hd => ?_) ?_
                · have e1 : vals 1 = _ := hd 1 (by decide) (by kernel_rfl)
                  rw [e1]
                  exact ⟨by kernel_rfl, by kernel_rfl, rfl⟩
                refine wpG_cons (gval (.pointer (some ⟨b, 0, none⟩)) GN.refl fun w_ hJ hd => ?_) ?_
                · have e2 : vals 2 = _ := hd 2 (by decide) (by kernel_rfl)
                  rw [e2]
                  exact ⟨by kernel_rfl, by kernel_rfl, rfl⟩
                refine wpG_cons (gcall 20 #[.pointer (some ⟨b, 0, none⟩)] fun w_ hJ hd => ?_) ?_
                · have e2 : vals 2 = _ := hd 2 (by decide) (by kernel_rfl)
                  have e3 : vals 3 = _ := hd 3 (by decide) (by kernel_rfl)
                  rw [e2, e3]
                  exact ⟨by kernel_rfl, by kernel_rfl, (sent_q hJ.f2 (by first | omega | (simp; omega))).mono fun e w' ⟨v, he, hsl, hg⟩ => ⟨_, he, hJ.grown hg, hg, hsl⟩⟩
                refine wpG_cons (gop (convert 35 9 (vals 4)) (.string (strOf (s))) GN.refl fun w_ hJ hd => ?_) ?_
                · have e2 : vals 2 = _ := hd 2 (by decide) (by kernel_rfl)
                  have e4 : Sl w_ 1 (vals 4) (s).length ((s).map bv) := hd 4 (by decide) (by kernel_rfl)
                  rw [e2]
                  exact ⟨by kernel_rfl, by kernel_rfl, conv_sl e4, rfl⟩
                refine wpG_cons (gval (.slice A5 n5 cap5) GN.refl fun w_ hJ hd => ?_) ?_
                · have e2 : vals 2 = _ := hd 2 (by decide) (by kernel_rfl)
                  rw [e2]
                  exact ⟨by kernel_rfl, by kernel_rfl, rfl⟩
                refine wpG_cons (gop (convert 35 9 (.slice A5 n5 cap5)) (.string (strOf (s))) GN.refl fun w_ hJ hd => ?_) ?_
                · have e2 : vals 2 = _ := hd 2 (by decide) (by kernel_rfl)
                  have e6 : vals 6 = _ := hd 6 (by decide) (by kernel_rfl)
                  rw [e2, e6]
                  exact ⟨by kernel_rfl, by kernel_rfl, conv_sl2 hJ.f4.sl, rfl⟩
                refine wpG_cons (gop (binOp .neq 9 (.string (strOf (s))) (.string (strOf (s)))) (.bool false) GN.refl fun w_ hJ hd => ?_) ?_
                · have e2 : vals 2 = _ := hd 2 (by decide) (by kernel_rfl)
                  have e5 : vals 5 = _ := hd 5 (by decide) (by kernel_rfl)
                  have e7 : vals 7 = _ := hd 7 (by decide) (by kernel_rfl)
                  rw [e2, e5, e7]
                  exact ⟨by kernel_rfl, by kernel_rfl, str_neq_same _ _ _, rfl⟩
                refine wpG_cons (gval (.bool false) GN.refl fun w_ hJ hd => ?_) wpG_nil
                · have e2 : vals 2 = _ := hd 2 (by decide) (by kernel_rfl)
                  have e8 : vals 8 = _ := hd 8 (by decide) (by kernel_rfl)
                  rw [e2, e8]
                  exact ⟨by kernel_rfl, by kernel_rfl, rfl⟩
              · intro vals w_ hJ hf
                have e0 : vals 0 = _ := hf 0 (by decide)
                have e1 : vals 1 = _ := hf 1 (by decide)
                have e2 : vals 2 = _ := hf 2 (by decide)
                have e3 : vals 3 = _ := hf 3 (by decide)
                have e5 : vals 5 = _ := hf 5 (by decide)
                have e6 : vals 6 = _ := hf 6 (by decide)
                have e7 : vals 7 = _ := hf 7 (by decide)
                have e8 : vals 8 = _ := hf 8 (by decide)
                have e9 : vals 9 = _ := hf 9 (by decide)
                simp only [fillG, Nat.zero_add, Nat.reduceAdd, e0, e1, e2, e3, e5, e6, e7, e8, e9, Act.put, List.setIfInBounds_toArray, List.set_cons_succ, List.set_cons_zero]
                clear e0 e1 e2 e3 e5 e6 e7 e8 e9 hf
                generalize vals 4 = v4
                go_wp2_with fail
                go_roundw
                case rel => exact ⟨k + 1, _, s, lo, _, n4 + 1, _, _, n5, _, by go_num, rfl, rfl, rfl, by omega, by simp [hq4], hcap4, by omega, hs5, by omega, hJ.tail⟩
                case measure => simp [intOf]; omega
            · go_wp2_with fail
              refine (give_h hJ.f2 _ (by omega) (by omega)).mono ?_
              rintro e w4 ⟨rfl, hJ⟩
              have hJ := hJ.f2
              rw [if_pos (by omega), if_pos (by omega)] at hJ
              have hcs := cells4 hJ.heap
              go_wp2_with fail
              refine wp_region_F (fun w1 => Heap w w1 ([HP.blk wr.heap.size #[.int .i64 kd, .int .u64 at_, .int .i64 size, .int .u64 v] 30, HP.uu b (q) (s) false true 0, HP.sl (.slice A4 n4 cap4) 1 n4 ((q).map bv), HP.sl (.slice A5 n5 cap5) 1 n5 ((s).map bv)])) GN (fun k_ v_ w_ => match k_ with
                  | 0 => v_ = .pointer (some ⟨b, 0, none⟩)
                  | 1 => v_ = .bool false
                  | 2 => v_ = .bool false
                  | 3 => v_ = .pointer (some ⟨b, 0, none⟩)
                  | 4 => Sl w_ 1 v_ (s).length ((s).map bv)
                  | 5 => v_ = .string (strOf (s))
                  | 6 => v_ = .slice A5 n5 cap5
                  | 7 => v_ = .string (strOf (s))
                  | 8 => v_ = .bool false
                  | _ => v_ = .bool false) fol (by kernel_rfl) ?_ ?_ ?_ ?_
              · exact hJ.drew
              · intro k_ v_ w_ w2_ h1 hg
                split at h1 <;> first | exact h1 | exact h1.kept (row := none) hg (fun _ _ h => by cases h)
              · intro vals
                show wpG _ _ _ _ _ _ 0 (_ :: _) _
                refine wpG_cons (gval (.pointer (some ⟨b, 0, none⟩)) GN.refl fun w_ hJ hd => ?_) ?_
                · exact ⟨by kernel_rfl, by kernel_rfl, rfl⟩
                refine wpG_cons (gcall 18 #[.pointer (some ⟨b, 0, none⟩)] fun w_ hJ hd => ?_) ?_
                · have e0 : vals 0 = _ := hd 0 (by decide) (by kernel_rfl)
                  rw [e0]
                  exact ⟨by kernel_rfl, by kernel_rfl, (up_h (b := b) hJ.f2).mono fun e w' ⟨he, hw⟩ => ⟨_, he, by rw [hw]; exact hJ, by rw [hw]; exact GN.refl _, rfl⟩⟩
                refine wpG_cons (gval (.bool false) GN.refl fun w_ hJ hd => ?_) ?_
                · have e1 : vals 1 = _ := hd 1 (by decide) (by kernel_rfl)
                  rw [e1]
                  exact ⟨by kernel_rfl, by kernel_rfl, rfl⟩
                refine wpG_cons (gval (.pointer (some ⟨b, 0, none⟩)) GN.refl fun w_ hJ hd => ?_) ?_
                · have e2 : vals 2 = _ := hd 2 (by decide) (by kernel_rfl)
                  rw [e2]
                  exact ⟨by kernel_rfl, by kernel_rfl, rfl⟩
                refine wpG_cons (gcall 20 #[.pointer (some ⟨b, 0, none⟩)] fun w_ hJ hd => ?_) ?_
                · have e2 : vals 2 = _ := hd 2 (by decide) (by kernel_rfl)
                  have e3 : vals 3 = _ := hd 3 (by decide) (by kernel_rfl)
                  rw [e2, e3]
                  exact ⟨by kernel_rfl, by kernel_rfl, (sent_q hJ.f2 (by first | omega | (simp; omega))).mono fun e w' ⟨v, he, hsl, hg⟩ => ⟨_, he, hJ.grown hg, hg, hsl⟩⟩
                refine wpG_cons (gop (convert 35 9 (vals 4)) (.string (strOf (s))) GN.refl fun w_ hJ hd => ?_) ?_
                · have e2 : vals 2 = _ := hd 2 (by decide) (by kernel_rfl)
                  have e4 : Sl w_ 1 (vals 4) (s).length ((s).map bv) := hd 4 (by decide) (by kernel_rfl)
                  rw [e2]
                  exact ⟨by kernel_rfl, by kernel_rfl, conv_sl e4, rfl⟩
                refine wpG_cons (gval (.slice A5 n5 cap5) GN.refl fun w_ hJ hd => ?_) ?_
                · have e2 : vals 2 = _ := hd 2 (by decide) (by kernel_rfl)
                  rw [e2]
                  exact ⟨by kernel_rfl, by kernel_rfl, rfl⟩
                refine wpG_cons (gop (convert 35 9 (.slice A5 n5 cap5)) (.string (strOf (s))) GN.refl fun w_ hJ hd => ?_) ?_
                · have e2 : vals 2 = _ := hd 2 (by decide) (by kernel_rfl)
                  have e6 : vals 6 = _ := hd 6 (by decide) (by kernel_rfl)
                  rw [e2, e6]
                  exact ⟨by kernel_rfl, by kernel_rfl, conv_sl2 hJ.f4.sl, rfl⟩
                refine wpG_cons (gop (binOp .neq 9 (.string (strOf (s))) (.string (strOf (s)))) (.bool false) GN.refl fun w_ hJ hd => ?_) ?_
                · have e2 : vals 2 = _ := hd 2 (by decide) (by kernel_rfl)
                  have e5 : vals 5 = _ := hd 5 (by decide) (by kernel_rfl)
                  have e7 : vals 7 = _ := hd 7 (by decide) (by kernel_rfl)
                  rw [e2, e5, e7]
                  exact ⟨by kernel_rfl, by kernel_rfl, str_neq_same _ _ _, rfl⟩
                refine wpG_cons (gval (.bool false) GN.refl fun w_ hJ hd => ?_) wpG_nil
                · have e2 : vals 2 = _ := hd 2 (by decide) (by kernel_rfl)
                  have e8 : vals 8 = _ := hd 8 (by decide) (by kernel_rfl)
                  rw [e2, e8]
                  exact ⟨by kernel_rfl, by kernel_rfl, rfl⟩
              · intro vals w_ hJ hf
                have e0 : vals 0 = _ := hf 0 (by decide)
                have e1 : vals 1 = _ := hf 1 (by decide)
                have e2 : vals 2 = _ := hf 2 (by decide)
                have e3 : vals 3 = _ := hf 3 (by decide)
                have e5 : vals 5 = _ := hf 5 (by decide)
                have e6 : vals 6 = _ := hf 6 (by decide)
                have e7 : vals 7 = _ := hf 7 (by decide)
                have e8 : vals 8 = _ := hf 8 (by decide)
                have e9 : vals 9 = _ := hf 9 (by decide)
                simp only [fillG, Nat.zero_add, Nat.reduceAdd, e0, e1, e2, e3, e5, e6, e7, e8, e9, Act.put, List.setIfInBounds_toArray, List.set_cons_succ, List.set_cons_zero]
                clear e0 e1 e2 e3 e5 e6 e7 e8 e9 hf
                generalize vals 4 = v4
                go_wp2_with fail
                go_roundw
                case rel => exact ⟨k + 1, q, s, true, _, n4, cap4, _, n5, _, by go_num, rfl, rfl, rfl, by omega, hq4, by omega, by omega, hs5, by omega, hJ.tail⟩
                case measure => simp [intOf]; omega
    · obtain rfl : n = k := by omega
      go_wp2_with fail
      refine (write_h hJ (by omega) _ _ _ (by omega) (by omega) (by omega)).mono ?_
      rintro e w4 ⟨rfl, hJ⟩
      rw [show wS s 1 1 1 = s from rfl, show wWa false 1 1 1 = true from rfl, show wSc 0 1 1 1 = 0 from rfl] at hJ
      go_wp2_with fail
      refine (up_h hJ).mono ?_
      rintro e w5 ⟨rfl, rfl⟩
      rw [hq4]
      go_wp2_with fail
      go_ret
      exact ⟨by simp, hJ.below⟩
end Go.Proofs.Ytaholijnfekkgaa
