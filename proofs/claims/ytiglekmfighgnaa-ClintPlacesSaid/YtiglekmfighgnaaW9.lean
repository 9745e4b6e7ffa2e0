/- What the seven places are. -/
import Derived.Test.YtiglekmfighgnaaW8
namespace Go.Proofs.Ytiglekmfighgnaa
open Go.RowKit
theorem look_s4 : look 0 4 = some (0, 0, 1) := rfl
theorem rd_s4 (s t a : Int) : readC 0 4 s t a = (s % 2, true) := by
  show (s / 2 ^ (0 : Int).toNat % 2 ^ (1 : Int).toNat, true) = _
  simp
theorem put0_s4 (v x : Int) : putAt 0 0 4 v x = putC x v 0 1 := rfl
theorem put1_s4 (v x : Int) : putAt 1 0 4 v x = x := rfl
theorem put2_s4 (v x : Int) : putAt 2 0 4 v x = x := rfl
theorem look_a8 : look 16384 8 = some (2, 0, 64) := rfl
theorem rd_a8 (s t a : Int) : readC 16384 8 s t a = (a % 18446744073709551616, true) := by
  show (a / 2 ^ (0 : Int).toNat % 2 ^ (64 : Int).toNat, true) = _
  simp
theorem put0_a8 (v x : Int) : putAt 0 16384 8 v x = x := rfl
theorem put1_a8 (v x : Int) : putAt 1 16384 8 v x = x := rfl
theorem put2_a8 (v x : Int) : putAt 2 16384 8 v x = putC x v 0 64 := rfl
theorem look_a4 : look 16384 4 = some (2, 0, 32) := rfl
theorem rd_a4 (s t a : Int) : readC 16384 4 s t a = (a % 4294967296, true) := by
  show (a / 2 ^ (0 : Int).toNat % 2 ^ (32 : Int).toNat, true) = _
  simp
theorem put0_a4 (v x : Int) : putAt 0 16384 4 v x = x := rfl
theorem put1_a4 (v x : Int) : putAt 1 16384 4 v x = x := rfl
theorem put2_a4 (v x : Int) : putAt 2 16384 4 v x = putC x v 0 32 := rfl
theorem look_ah : look 16388 4 = some (2, 32, 32) := rfl
theorem rd_ah (s t a : Int) : readC 16388 4 s t a = (a / 4294967296 % 4294967296, true) := by
  show (a / 2 ^ (32 : Int).toNat % 2 ^ (32 : Int).toNat, true) = _
  simp
theorem put0_ah (v x : Int) : putAt 0 16388 4 v x = x := rfl
theorem put1_ah (v x : Int) : putAt 1 16388 4 v x = x := rfl
theorem put2_ah (v x : Int) : putAt 2 16388 4 v x = putC x v 32 32 := rfl
theorem look_t8 : look 49144 8 = some (1, 0, 64) := rfl
theorem rd_t8 (s t a : Int) : readC 49144 8 s t a = (t % 18446744073709551616, true) := by
  show (t / 2 ^ (0 : Int).toNat % 2 ^ (64 : Int).toNat, true) = _
  simp
theorem put0_t8 (v x : Int) : putAt 0 49144 8 v x = x := rfl
theorem put1_t8 (v x : Int) : putAt 1 49144 8 v x = putC x v 0 64 := rfl
theorem put2_t8 (v x : Int) : putAt 2 49144 8 v x = x := rfl
theorem look_t4 : look 49144 4 = some (1, 0, 32) := rfl
theorem rd_t4 (s t a : Int) : readC 49144 4 s t a = (t % 4294967296, true) := by
  show (t / 2 ^ (0 : Int).toNat % 2 ^ (32 : Int).toNat, true) = _
  simp
theorem put0_t4 (v x : Int) : putAt 0 49144 4 v x = x := rfl
theorem put1_t4 (v x : Int) : putAt 1 49144 4 v x = putC x v 0 32 := rfl
theorem put2_t4 (v x : Int) : putAt 2 49144 4 v x = x := rfl
theorem look_th : look 49148 4 = some (1, 32, 32) := rfl
theorem rd_th (s t a : Int) : readC 49148 4 s t a = (t / 4294967296 % 4294967296, true) := by
  show (t / 2 ^ (32 : Int).toNat % 2 ^ (32 : Int).toNat, true) = _
  simp
theorem put0_th (v x : Int) : putAt 0 49148 4 v x = x := rfl
theorem put1_th (v x : Int) : putAt 1 49148 4 v x = putC x v 32 32 := rfl
theorem put2_th (v x : Int) : putAt 2 49148 4 v x = x := rfl
theorem putC_1 (x v up : Int) : putC x v up 1 = x / 2 * 2 + v % 2 := rfl
theorem putC_64 (x v up : Int) : putC x v up 64 = v := rfl
theorem putC_lo (x v : Int) : putC x v 0 32 = x / 4294967296 * 4294967296 + v % 4294967296 := rfl
theorem putC_hi (x v : Int) : putC x v 32 32 = v % 4294967296 * 4294967296 + x % 4294967296 := rfl
attribute [go_sem] look_s4 rd_s4 put0_s4 put1_s4 put2_s4 look_a8 rd_a8 put0_a8 put1_a8 put2_a8 look_a4 rd_a4 put0_a4 put1_a4 put2_a4 look_ah rd_ah put0_ah put1_ah put2_ah look_t8 rd_t8 put0_t8 put1_t8 put2_t8 look_t4 rd_t4 put0_t4 put1_t4 put2_t4 look_th rd_th put0_th put1_th put2_th putC_1 putC_64 putC_lo putC_hi

/-- One Clint of the law's own, and nothing else has turned. -/
structure St (w0 w : World) (b : Nat) (s t a : Int) : Prop where
  heap : w.heap[b]? = some (CL s t a)
  below : Below w0.heap.size w0 w
  base : w0.heap.size ≤ b
  hs : s = 0 ∨ s = 1
  t0 : 0 ≤ t
  t1 : t < 18446744073709551616
  a0 : 0 ≤ a
  a1 : a < 18446744073709551616

theorem putC_range (x v up bits : Int) (h0 : 0 ≤ x) (h1 : x < 18446744073709551616) (k0 : 0 ≤ v) (k1 : v < 18446744073709551616) : 0 ≤ putC x v up bits ∧ putC x v up bits < 18446744073709551616 := by
  unfold putC; repeat' split
  all_goals omega
theorem putAt_range (off : Nat) (at_ size v x : Int) (h0 : 0 ≤ x) (h1 : x < 18446744073709551616) (k0 : 0 ≤ v) (k1 : v < 18446744073709551616) : 0 ≤ putAt off at_ size v x ∧ putAt off at_ size v x < 18446744073709551616 := by
  unfold putAt
  split
  · exact ⟨h0, h1⟩
  · split
    · exact putC_range _ _ _ _ h0 h1 k0 k1
    · exact ⟨h0, h1⟩
theorem putAt_soft (at_ size v x : Int) (hx : x = 0 ∨ x = 1) : putAt 0 at_ size v x = 0 ∨ putAt 0 at_ size v x = 1 := by
  rcases look_cases at_ size with ⟨rfl, rfl, hl⟩ | ⟨rfl, rfl, hl⟩ | ⟨rfl, rfl, hl⟩ | ⟨rfl, rfl, hl⟩ | ⟨rfl, rfl, hl⟩ | ⟨rfl, rfl, hl⟩ | ⟨rfl, rfl, hl⟩ | hl
  all_goals simp only [putAt, hl]
  · show putC x v 0 1 = 0 ∨ putC x v 0 1 = 1
    rw [putC_1]; omega
  all_goals exact hx

theorem St.range {w0 w : World} {b : Nat} {s t a : Int} (h : St w0 w b s t a) : 0 ≤ s ∧ s < 18446744073709551616 := by have := h.hs; omega
theorem St.grown {w0 w w' : World} {b : Nat} {s t a s' t' a' : Int} (h : St w0 w b s t a) (hh : w'.heap[b]? = some (CL s' t' a')) (hg : w.grownBy w' (some b))
    (hs : s' = 0 ∨ s' = 1) (t0 : 0 ≤ t') (t1 : t' < 18446744073709551616) (a0 : 0 ≤ a') (a1 : a' < 18446744073709551616) : St w0 w' b s' t' a' :=
  ⟨hh, h.below.grown hg h.below.size (fun k hk => by injection hk with hk; have := h.base; omega), h.base, hs, t0, t1, a0, a1⟩
theorem St.quiet {w0 w w' : World} {b : Nat} {s t a : Int} (h : St w0 w b s t a) (hg : w.grownBy w' none) : St w0 w' b s t a :=
  ⟨grown_heap h.heap hg, h.below.grown hg h.below.size (by simp), h.base, h.hs, h.t0, h.t1, h.a0, h.a1⟩

theorem new_st {w0 w : World} (hb : Below w0.heap.size w0 w) : Calls Try.prog 9 #[] w fun e w' => ∃ b, e = .returned (.pointer (some ⟨b, 0, none⟩)) ∧ St w0 w' b 0 0 18446744073709551615 :=
  (new_any w).mono fun e w' ⟨he, hh, hg, hz⟩ => ⟨_, he, hh, hb.grown hg hb.size (by simp), hb.size, .inl rfl, by omega, by omega, by omega, by omega⟩
theorem read_st {w0 w : World} {b : Nat} {s t a : Int} (h : St w0 w b s t a) (at_ size : Int) :
    Calls Try.prog 13 #[.pointer (some ⟨b, 0, none⟩), .int .u64 at_, .int .i64 size] w fun e w' => e = .returned (.tuple #[.int .u64 (readC at_ size s t a).1, .bool (readC at_ size s t a).2]) ∧ St w0 w' b s t a :=
  (read_any at_ size s t a b w h.heap h.range.1 h.range.2 h.t0 h.t1 h.a0 h.a1).mono fun _ _ ⟨he, hg⟩ => ⟨he, h.quiet hg⟩
theorem write_st {w0 w : World} {b : Nat} {s t a : Int} (h : St w0 w b s t a) (at_ size v : Int) (hv0 : 0 ≤ v) (hv1 : v < 18446744073709551616) :
    Calls Try.prog 11 #[.pointer (some ⟨b, 0, none⟩), .int .u64 at_, .int .i64 size, .int .u64 v] w fun e w' => e = .returned (.bool (look at_ size).isSome) ∧
      St w0 w' b (putAt 0 at_ size v s) (putAt 1 at_ size v t) (putAt 2 at_ size v a) :=
  (write_any at_ size v s t a b w h.heap h.range.1 h.range.2 h.t0 h.t1 h.a0 h.a1 hv0 hv1).mono fun _ _ ⟨he, hh, hg⟩ =>
    ⟨he, h.grown hh hg (putAt_soft _ _ _ _ h.hs) (putAt_range _ _ _ _ _ h.t0 h.t1 hv0 hv1).1 (putAt_range _ _ _ _ _ h.t0 h.t1 hv0 hv1).2 (putAt_range _ _ _ _ _ h.a0 h.a1 hv0 hv1).1 (putAt_range _ _ _ _ _ h.a0 h.a1 hv0 hv1).2⟩
theorem tick_st {w0 w : World} {b : Nat} {s t a : Int} (h : St w0 w b s t a) :
    Calls Try.prog 17 #[.pointer (some ⟨b, 0, none⟩)] w fun e w' => e = .returned (.tuple #[]) ∧ St w0 w' b s ((t + 1) % 18446744073709551616) a :=
  (tick_any b s t a w h.heap).mono fun _ _ ⟨he, hh, hg⟩ => by
    rw [IntKind.wrap_u64] at hh
    exact ⟨he, h.grown hh hg h.hs (by omega) (by omega) h.a0 h.a1⟩
theorem time_st {w0 w : World} {b : Nat} {s t a : Int} (h : St w0 w b s t a) :
    Calls Try.prog 21 #[.pointer (some ⟨b, 0, none⟩)] w fun e w' => e = .returned (.int .u64 t) ∧ w' = w :=
  time_any b s t a w h.heap
theorem pend_st {w0 w : World} {b : Nat} {s t a : Int} (h : St w0 w b s t a) :
    Calls Try.prog 19 #[.pointer (some ⟨b, 0, none⟩)] w fun e w' => e = .returned (.int .u64 (pendC s t a)) ∧ St w0 w' b s t a :=
  (pend_any b s t a w h.heap h.hs).mono fun _ _ ⟨he, n, hw⟩ => ⟨he, h.quiet (by rw [hw]; exact grown_drewN (grown_self w none) n)⟩

theorem u64_hi_lo (v w : Int) (h0 : 0 ≤ v) (h1 : v < 18446744073709551616) : bits .or .u64 (v / 4294967296 * 4294967296) (w % 4294967296) = v / 4294967296 * 4294967296 + w % 4294967296 :=
  u64_orParts 32 _ _ (by omega) (by omega) (by omega) (by omega) (by omega) (by omega)
theorem u64_lo_lo (w u : Int) : bits .or .u64 (w % 4294967296 * 4294967296) (u % 4294967296) = w % 4294967296 * 4294967296 + u % 4294967296 :=
  u64_orParts 32 _ _ (by omega) (by omega) (by omega) (by omega) (by omega) (by omega)

theorem halves_walk (v u : Int) (alarm : Bool) (hv0 : 0 ≤ v) (hv1 : v < 18446744073709551616) (hu0 : 0 ≤ u) (hu1 : u < 18446744073709551616) (w : World) :
    Calls Try.prog 5 #[.int .u64 v, .int .u64 u, .bool alarm] w fun e w' => e = .returned (.bool true) ∧ Below w.heap.size w w' := by
  have d1 : v % 18446744073709551616 = v := by omega
  have d2 : (v / 4294967296 * 4294967296 + u % 4294967296) % 18446744073709551616 = v / 4294967296 * 4294967296 + u % 4294967296 := by omega
  have d3 : (u % 4294967296 * 4294967296 + u % 4294967296) % 18446744073709551616 = u % 4294967296 * 4294967296 + u % 4294967296 := by omega
  have d4 : v / 4294967296 % 4294967296 = v / 4294967296 := by omega
  have e1 := u64_mask32 v hv0 hv1
  have e2 := u64_mask32 u hu0 hu1
  have e3 : IntKind.u64.wrap (v / 4294967296 * 4294967296) = v / 4294967296 * 4294967296 := by rw [IntKind.wrap_u64]; omega
  have e4 : IntKind.u64.wrap (u * 4294967296) = u % 4294967296 * 4294967296 := by rw [IntKind.wrap_u64]; omega
  have e5 := u64_hi_lo v u hv0 hv1
  have e6 := u64_lo_lo u u
  cases alarm
  all_goals
    go_enter Try.func5, Try.ntmps5
    go_wp2_with (first
      | (go_at_call 8; refine (fixed_any w).mono ?_; rintro e w1 ⟨rfl, b1⟩)
      | (go_at_call 9; refine (new_st b1).mono ?_; rintro e w2 ⟨b, rfl, hst⟩)
      | (go_at_call 11; refine (write_st hst _ _ _ (by assumption) (by assumption)).mono ?_; rintro e w2 ⟨rfl, hst⟩; simp only [go_sem] at hst)
      | (go_at_call 13; refine (read_st hst _ _).mono ?_; rintro e w2 ⟨rfl, hst⟩; simp only [go_sem]))
    go_ret
    exact ⟨rfl, hst.below⟩
end Go.Proofs.Ytiglekmfighgnaa
