/- Layer 15: two seeds: the walk. -/
import Derived.Test.YtlkkmpfhhfaioaaT18
import Derived.Test.YtlkkmpfhhfaioaaRegion2
namespace Go.Proofs.Ytlkkmpfhhfaioaa
open Go.RowKit

theorem kept_full {S : Slots} : ∀ (k : Nat), (∀ j, j < k → (S j).isSome = true) → (kept S k).length = k := by
  intro k
  induction k with
  | zero => intro _; rfl
  | succ k ih =>
    intro h
    have h1 := h k (by omega)
    cases hs : S k with
    | none => rw [hs] at h1; cases h1
    | some e => rw [kept_some hs, List.length_append, ih fun j hj => h j (by omega)]; rfl
theorem freeN_room {S : Slots} (h : (kept S 8).length < 8) : ∃ n, freeN S = some n := by
  cases hf : freeN S with
  | some n => exact ⟨n, rfl⟩
  | none =>
    have h1 := kept_full (S := S) 8 fun j hj => by
      have := List.find?_eq_none.1 hf j (List.mem_range.2 hj)
      cases hs : S j <;> simp_all
    omega
theorem kept_put (S : Slots) (n : Nat) (o : Option E) : ∀ k, (kept (put S n o) k).length ≤ (kept S k).length + if n < k then 1 else 0 := by
  intro k
  induction k with
  | zero => simp [kept]
  | succ k ih =>
    by_cases hn : n = k
    · subst hn
      rw [if_neg (by omega)] at ih
      rw [if_pos (by omega)]
      have h1 : (kept (put S n o) (n + 1)).length ≤ (kept (put S n o) n).length + 1 := by
        cases h : put S n o n with
        | none => rw [kept_none h]; omega
        | some e => rw [kept_some h]; simp
      have h2 : (kept S n).length ≤ (kept S (n + 1)).length := by
        cases h : S n with
        | none => rw [kept_none h]; omega
        | some e => rw [kept_some h]; simp
      omega
    · have hp : put S n o k = S k := by unfold put; rw [if_neg (fun e => hn e.symm)]
      have h3 : (if n < k + 1 then 1 else 0) = if n < k then 1 else 0 := by
        by_cases h : n < k
        · rw [if_pos h, if_pos (by omega)]
        · rw [if_neg h, if_neg (by omega)]
      rw [h3]
      cases h : S k with
      | none => rw [kept_none h, kept_none (hp.trans h)]; exact ih
      | some e => rw [kept_some h, kept_some (hp.trans h)]; simp only [List.length_append, List.length_cons, List.length_nil]; omega
theorem kept_putS (S : Slots) (sd : Int) (e : E) : (kept (putS S sd e) 8).length ≤ (kept S 8).length + 1 := by
  unfold putS
  split
  · omega
  · have := kept_put S ((place S e.key).getD (slot S sd)) (some e) 8
    split at this <;> omega
theorem kept_fen (S : Slots) (p : Fn) : ∀ k, (kept (fenK S p 8) k).length ≤ (kept S k).length := by
  intro k
  induction k with
  | zero => simp [kept]
  | succ k ih =>
    cases h : S k with
    | none =>
      have h1 : fenK S p 8 k = none := by unfold fenK fen1; rw [h]; split <;> rfl
      rw [kept_none h, kept_none h1]; exact ih
    | some e =>
      rw [kept_some h]
      cases h1 : fenK S p 8 k with
      | none => rw [kept_none h1]; simp; omega
      | some f => rw [kept_some h1]; simp; exact ih
theorem putS_seed {S : Slots} (h : (kept S 8).length < 8) (sd sd' : Int) (e : E) : putS S sd e = putS S sd' e := by
  obtain ⟨n, hn⟩ := freeN_room h
  unfold putS slot
  rw [hn]
theorem eq33n (e : E) (he : e.ok) (w : World) : (binOp .neq 33 (.agg #[.int .u64 e.at_, .int .i64 e.lv, .int .u64 e.sp, .bool e.gl, .int .u64 e.lf]) (.agg #[.int .u64 e.at_, .int .i64 e.lv, .int .u64 e.sp, .bool e.gl, .int .u64 e.lf])).run Try.prog w = .ok (.bool false) w :=
  run_neq_same flat33 named33 kt33 (formed33 _ _ _ _ _) (fits_e he)
theorem load_box6 {w : World} {g : Nat} {kd a c d f : Int} {gl : Bool} (h : w.heap[g]? = some (.cells #[.int .i64 kd, .int .u64 a, .int .i64 c, .int .u64 d, .bool gl, .int .u64 f] 30 (0, 0))) :
    (Instr.loadAt 30 (.pointer (some ⟨g, 0, none⟩))).run Try.prog w = .ok (.agg #[.int .i64 kd, .int .u64 a, .int .i64 c, .int .u64 d, .bool gl, .int .u64 f]) w :=
  run_loadAt_mid w g 0 30 [.int .i64 kd, .int .u64 a, .int .i64 c, .int .u64 d, .bool gl, .int .u64 f] _ (range_blk (xs := [.int .i64 kd, .int .u64 a, .int .i64 c, .int .u64 d, .bool gl, .int .u64 f]) h 0 6 _ rfl) Try.underlying30 rfl (by kernel_rfl)
theorem find_f' {w0 w : World} {L : List HP} {seed : Int} {b : Nat} {S : Slots} (h : Heap w0 w (HP.tl b seed S :: L)) (sp a : Int) (a0 : 0 ≤ a) (a1 : a < 18446744073709551616) {f : E} {q : Bool} (hf : fnd S sp a = f) (hq : (findS S sp a).isSome = q) :
    Calls Try.prog 14 #[.pointer (some ⟨b, 0, none⟩), .int .u64 sp, .int .u64 a] w fun r w' => r = .returned (.tuple #[.agg #[.int .u64 f.at_, .int .i64 f.lv, .int .u64 f.sp, .bool f.gl, .int .u64 f.lf], .bool q]) ∧ Heap w0 w' (HP.tl b seed S :: L) := by
  subst hf hq
  exact find_f h sp a a0 a1

set_option maxRecDepth 100000 in
set_option maxHeartbeats 4000000 in
theorem seeds_walk (seed seed' : Int) (s0 : 0 ≤ seed) (s1 : seed < 18446744073709551616) (t0 : 0 ≤ seed') (t1 : seed' < 18446744073709551616) (A : Option Addr) (n cap : Nat) (w : World) (hS : SlArg [some .i64, some .u64, some .i64, some .u64, none, some .u64] w A n) (hn : n ≤ 4398046511104) :
    Calls Try.prog 5 #[.int .u64 seed, .int .u64 seed', .slice A n cap] w fun e w' => e = .returned (.bool true) ∧ Below w.heap.size w w' := by
  have HS := hide hS
  clear hS
  go_enter Try.func5, Try.ntmps5
  go_wp2_with fail
  refine (fixed_h (Heap.nil w)).mono ?_
  rintro r w1 ⟨rfl, h1⟩
  go_wp2_with fail
  refine (new_h h1 s0 s1).mono ?_
  rintro r w2 ⟨b, rfl, h2⟩
  clear h1
  go_wp2_with fail
  refine (new_h h2 t0 t1).mono ?_
  rintro r w3 ⟨br, rfl, h3⟩
  have h3 := h3.f2
  clear h2
  go_wp2
  go_loopw [9, 10] (fun pu i wr => ∃ (k p : Nat) (sd sd' : Int) (S : Slots), i = .int .i64 k ∧ pu = .int .i64 p ∧ k ≤ n ∧ p ≤ 8 ∧ (kept S 8).length ≤ p ∧ Heap w wr [HP.tl b sd S, HP.tl br sd' S]) (fun _ i _ => n - (intOf i).toNat)
  case atStart => exact ⟨0, 0, seed, seed', S0, rfl, rfl, Nat.zero_le _, by decide, by decide, h3⟩
  case round =>
    obtain ⟨k, p, sd, sd', S, rfl, rfl, hk, hp8, hcp, hJ⟩ := hrel
    clear h3
    by_cases hlt : k < n
    · obtain ⟨ab, ao, rfl, kd, at_, lv, sp, gl, lf, ⟨x0, x1, x2, x3, x4, x5⟩, hwf, hab⟩ := step_at (unhide HS) hJ.below hlt
      have J1 := hJ.new #[.int .i64 kd, .int .u64 at_, .int .i64 lv, .int .u64 sp, .bool gl, .int .u64 lf] 30
      have c6 := cells6 J1.heap
      have hxl := lt_of_heap' J1.heap
      by_cases q0 : kd = 0
      · subst q0
        by_cases q8 : p = 8
        · subst q8
          go_wp2
          go_ret
          exact ⟨rfl, J1.below⟩
        · generalize hq : (!bad (⟨at_, lv, sp, gl, lf⟩ : E)) = q
          have hS := putS_seed (S := S) (by omega) sd' sd (⟨at_, lv, sp, gl, lf⟩ : E)
          obtain ⟨S1, hS1⟩ : ∃ S1, putS S sd (⟨at_, lv, sp, gl, lf⟩ : E) = S1 := ⟨_, rfl⟩
          have hc1 := kept_putS S sd (⟨at_, lv, sp, gl, lf⟩ : E)
          obtain ⟨sd1, hs1⟩ : ∃ x, putSeed S sd (⟨at_, lv, sp, gl, lf⟩ : E) = x := ⟨_, rfl⟩
          obtain ⟨sd2, hs2⟩ : ∃ x, putSeed S sd' (⟨at_, lv, sp, gl, lf⟩ : E) = x := ⟨_, rfl⟩
          have pb : ∀ w_ L, Heap w w_ (HP.tl b sd S :: L) → Calls Try.prog 11 #[.pointer (some ⟨b, 0, none⟩), .agg #[.int .u64 at_, .int .i64 lv, .int .u64 sp, .bool gl, .int .u64 lf]] w_ fun r w' => r = .returned (.bool q) ∧ Heap w w' (HP.tl b sd1 S1 :: L) := fun w_ L hh => by
            have := put_h (e := (⟨at_, lv, sp, gl, lf⟩ : E)) hh hwf
            rw [hq, hs1, hS1] at this
            exact this
          have pr : ∀ w_ L, Heap w w_ (HP.tl br sd' S :: L) → Calls Try.prog 11 #[.pointer (some ⟨br, 0, none⟩), .agg #[.int .u64 at_, .int .i64 lv, .int .u64 sp, .bool gl, .int .u64 lf]] w_ fun r w' => r = .returned (.bool q) ∧ Heap w w' (HP.tl br sd2 S1 :: L) := fun w_ L hh => by
            have := put_h (e := (⟨at_, lv, sp, gl, lf⟩ : E)) hh hwf
            rw [hq, hs2, hS, hS1] at this
            exact this
          rw [hS1] at hc1
          clear hS hS1 hs1 hs2 hq
          have Pb := hide pb
          have Pr := hide pr
          clear pb pr
          go_wp2_with fail
          obtain ⟨vals, e0, e1, e2, e3, e4, e5, e6, e7, e8⟩ : ∃ vals : Nat → Value, vals 0 = .pointer (some ⟨b, 0, none⟩) ∧ vals 1 = .agg #[.int .i64 0, .int .u64 at_, .int .i64 lv, .int .u64 sp, .bool gl, .int .u64 lf] ∧ vals 2 = .agg #[.int .u64 at_, .int .i64 lv, .int .u64 sp, .bool gl, .int .u64 lf] ∧ vals 3 = .bool q ∧ vals 4 = .pointer (some ⟨br, 0, none⟩) ∧ vals 5 = .agg #[.int .i64 0, .int .u64 at_, .int .i64 lv, .int .u64 sp, .bool gl, .int .u64 lf] ∧ vals 6 = .agg #[.int .u64 at_, .int .i64 lv, .int .u64 sp, .bool gl, .int .u64 lf] ∧ vals 7 = .bool q ∧ vals 8 = .bool false :=
            ⟨fun k_ => match k_ with
              | 0 => .pointer (some ⟨b, 0, none⟩)
              | 1 => .agg #[.int .i64 0, .int .u64 at_, .int .i64 lv, .int .u64 sp, .bool gl, .int .u64 lf]
              | 2 => .agg #[.int .u64 at_, .int .i64 lv, .int .u64 sp, .bool gl, .int .u64 lf]
              | 3 => .bool q
              | 4 => .pointer (some ⟨br, 0, none⟩)
              | 5 => .agg #[.int .i64 0, .int .u64 at_, .int .i64 lv, .int .u64 sp, .bool gl, .int .u64 lf]
              | 6 => .agg #[.int .u64 at_, .int .i64 lv, .int .u64 sp, .bool gl, .int .u64 lf]
              | 7 => .bool q
              | _ => .bool false
              , rfl, rfl, rfl, rfl, rfl, rfl, rfl, rfl, rfl⟩
          refine wp_region_V (J2 3 7 (fun a1 a2 w_ => Heap w w_ [HP.tl b (bif a1 then sd1 else sd) (bif a1 then S1 else S), HP.tl br (bif a2 then sd2 else sd') (bif a2 then S1 else S), HP.blk wr.heap.size #[.int .i64 0, .int .u64 at_, .int .i64 lv, .int .u64 sp, .bool gl, .int .u64 lf] 30])) vals fol (by kernel_rfl) (J2.start ?_) ?_ ?_
          · exact J1.f3.f3.drew
          · show wpV _ _ _ _ 0 (_ :: _) _
            refine wpV_cons e0 (j2val (by decide) (by decide) (.pointer (some ⟨b, 0, none⟩)) fun a1 a2 w_ hK => ?_) ?_
            · exact ⟨by kernel_rfl, by kernel_rfl⟩
            refine wpV_cons e1 (j2val (by decide) (by decide) (.agg #[.int .i64 0, .int .u64 at_, .int .i64 lv, .int .u64 sp, .bool gl, .int .u64 lf]) fun a1 a2 w_ hK => ?_) ?_
            · exact ⟨by kernel_rfl, run_val (load_box6 hK.f3.heap)⟩
            refine wpV_cons e2 (j2call (by decide) (by decide) 12 #[.agg #[.int .i64 0, .int .u64 at_, .int .i64 lv, .int .u64 sp, .bool gl, .int .u64 lf]] (.agg #[.int .u64 at_, .int .i64 lv, .int .u64 sp, .bool gl, .int .u64 lf]) fun a1 a2 w_ hK => ?_) ?_
            · exact ⟨by kernel_rfl, by kernel_rfl, (entry_any 0 at_ lv sp gl lf _).mono fun e w2 ⟨he, hg⟩ => ⟨he, hK.grown hg⟩⟩
            refine wpV_cons e3 (j2one (by decide) 11 #[.pointer (some ⟨b, 0, none⟩), .agg #[.int .u64 at_, .int .i64 lv, .int .u64 sp, .bool gl, .int .u64 lf]] (.bool q) fun a2 w_ hK => ?_) ?_
            · exact ⟨by kernel_rfl, by kernel_rfl, ((unhide Pb) w_ _ hK).mono fun e w2 ⟨he, hh⟩ => ⟨he, hh⟩⟩
            refine wpV_cons e4 (j2val (by decide) (by decide) (.pointer (some ⟨br, 0, none⟩)) fun a1 a2 w_ hK => ?_) ?_
            · exact ⟨by kernel_rfl, by kernel_rfl⟩
            refine wpV_cons e5 (j2val (by decide) (by decide) (.agg #[.int .i64 0, .int .u64 at_, .int .i64 lv, .int .u64 sp, .bool gl, .int .u64 lf]) fun a1 a2 w_ hK => ?_) ?_
            · exact ⟨by kernel_rfl, run_val (load_box6 hK.f3.heap)⟩
            refine wpV_cons e6 (j2call (by decide) (by decide) 12 #[.agg #[.int .i64 0, .int .u64 at_, .int .i64 lv, .int .u64 sp, .bool gl, .int .u64 lf]] (.agg #[.int .u64 at_, .int .i64 lv, .int .u64 sp, .bool gl, .int .u64 lf]) fun a1 a2 w_ hK => ?_) ?_
            · exact ⟨by kernel_rfl, by kernel_rfl, (entry_any 0 at_ lv sp gl lf _).mono fun e w2 ⟨he, hg⟩ => ⟨he, hK.grown hg⟩⟩
            refine wpV_cons e7 (j2two (by decide) 11 #[.pointer (some ⟨br, 0, none⟩), .agg #[.int .u64 at_, .int .i64 lv, .int .u64 sp, .bool gl, .int .u64 lf]] (.bool q) fun a1 w_ hK => ?_) ?_
            · exact ⟨by kernel_rfl, by kernel_rfl, ((unhide Pr) w_ _ hK.f2).mono fun e w2 ⟨he, hh⟩ => ⟨he, hh.f2⟩⟩
            refine wpV_cons e8 (j2val (by decide) (by decide) (.bool false) fun a1 a2 w_ hK => ?_) wpV_nil
            · cases q <;> exact ⟨by kernel_rfl, by kernel_rfl⟩
          · intro w_ hJ2
            have h5 := hJ2.done (by decide) (by decide)
            simp only [cond_true] at h5
            clear hJ2 J1 c6
            simp only [fillG, Nat.zero_add, Nat.reduceAdd, e0, e1, e2, e3, e4, e5, e6, e7, e8, Act.put, List.setIfInBounds_toArray, List.set_cons_succ, List.set_cons_zero]
            clear e0 e1 e2 e3 e4 e5 e6 e7 e8
            go_wp2
            exact ⟨⟨k + 1, p + 1, _, _, _, by go_num, by go_num, by omega, by omega, by omega, h5.two⟩, by simp [intOf]; omega⟩
      · by_cases q2 : kd = 2
        · subst q2
          go_wp2_with fail
          refine (fence_h J1.f2 _ at_ _ sp hwf.a0 hwf.a1).mono ?_
          rintro r w5 ⟨rfl, h5⟩
          have h5 := h5.f2
          clear J1 c6
          have c6 := cells6 h5.heap
          have hxl := lt_of_heap' h5.heap
          go_wp2_with fail
          refine (fence_h h5.f3 _ at_ _ sp hwf.a0 hwf.a1).mono ?_
          rintro r w6 ⟨rfl, h6⟩
          have h6 := h6.f3.two
          have hcf := kept_fen S
          clear h5 c6
          go_wp2
          exact ⟨⟨k + 1, p, _, _, _, by go_num, by go_num, by omega, by omega, Nat.le_trans (hcf _ 8) hcp, h6⟩, by simp [intOf]; omega⟩
        · have z0 : (kd == 0) = false := beq_eq_false_iff_ne.2 q0
          have z2 : (kd == 2) = false := beq_eq_false_iff_ne.2 q2
          go_wp2_with fail
          refine (find_f J1.f2 sp at_ hwf.a0 hwf.a1).mono ?_
          rintro r w5 ⟨rfl, h5⟩
          have hfo := fnd_ok h5.tlInv sp at_
          obtain ⟨f, hfq⟩ : ∃ f, fnd S sp at_ = f := ⟨_, rfl⟩
          obtain ⟨q, hqq⟩ : ∃ q, (findS S sp at_).isSome = q := ⟨_, rfl⟩
          rw [hfq] at hfo
          rw [hfq, hqq]
          have h5 := h5.new #[.int .u64 f.at_, .int .i64 f.lv, .int .u64 f.sp, .bool f.gl, .int .u64 f.lf] 33
          have c6 := cells6 h5.f3.heap
          have hxl := lt_of_heap' h5.f3.heap
          clear J1
          go_wp2_with fail
          refine (find_f' h5.f4 sp at_ hwf.a0 hwf.a1 hfq hqq).mono ?_
          rintro r w6 ⟨rfl, h6⟩
          have h7 := h6.new #[.int .u64 f.at_, .int .i64 f.lv, .int .u64 f.sp, .bool f.gl, .int .u64 f.lf] 33
          have cF := cells5 h7.f3.heap
          have cG := cells5 h7.heap
          have hfl := lt_of_heap' h7.f3.heap
          have heq := eq33n f hfo
          clear c6 h5 hfq hqq
          go_wp2_with fail
          refine (all_h h7.f4).mono ?_
          rintro r w8 ⟨v8, rfl, h8⟩
          obtain ⟨A8, cap8, rfl, _⟩ := h8.slw.parts
          have hm8 := kept_len S 8
          go_wp2_with fail
          refine (all_h h8.tail.f3).mono ?_
          rintro r w9 ⟨v9, rfl, h9⟩
          obtain ⟨A9, cap9, rfl, _⟩ := h9.slw.parts
          have h9 := h9.tail
          clear h8 h7 h6 cF cG
          go_wp2
          exact ⟨⟨k + 1, p, _, _, _, by go_num, by go_num, by omega, by omega, hcp, h9.f2.two⟩, by simp [intOf]; omega⟩
    · obtain rfl : k = n := by omega
      go_wp2
      go_ret
      exact ⟨rfl, hJ.below⟩
end Go.Proofs.Ytlkkmpfhhfaioaa
