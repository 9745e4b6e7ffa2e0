/- Layer 23: LsqBytes: the walk. -/
import Derived.Test.YtdmkgomcomcfhaaQ17
namespace Go.Proofs.Ytdmkgomcomcfhaa
open Go.RowKit

theorem mk52 (w : World) : (Instr.makeSlice 52 (.int .i64 64) (.int .i64 64)).run Try.prog w = .ok (.slice (some ⟨w.heap.size, 0, none⟩) 64 64) (w.alloc (.cells (bytes 64 fun _ => 0).toArray 5)) := by kernel_rfl
/-- A slice of a block of its own. -/
theorem Heap.newS {w0 w : World} {L : List HP} (h : Heap w0 w L) (xs : List Value) (T : TypeId) (n sz : Nat) (hl : xs.length = n * sz) : Heap w0 (w.alloc (.cells xs.toArray T)) (HP.slw (.slice (some ⟨w.heap.size, 0, none⟩) n n) sz n xs :: L) :=
  h.make (w' := w.alloc (.cells xs.toArray T)) (As := [HP.slw (.slice (some ⟨w.heap.size, 0, none⟩) n n) sz n xs]) (ds := [_]) ⟨rfl, rfl, rfl, by simp, fun k hk _ => Below.heap_alloc w _ k hk⟩
    (.cons ⟨sl_blk (heap_new' w _) hl, rfl⟩ .nil) (List.pairwise_singleton _ _) (fun c hc x hx => by
    simp only [List.mem_cons, List.mem_nil_iff, or_false] at hc
    subst hc
    rcases hx with hx | hx <;> (injection hx with hx; exact hx ▸ Nat.le_refl _))
/-- The k-th operation of a program. -/
theorem op_at {w wr : World} {A : Option Addr} {n k : Nat} (hS : SlArg [none, some .i64, some .i64, some .u64, some .u64] w A n) (hb : Below w.heap.size w wr) (hk : k < n) : ∃ ab ao, A = some ⟨ab, ao, none⟩ ∧ ∃ x : OpS, x.ok ∧
    (wr.cell? ⟨ab, ao + k * 5, none⟩ = some (.bool x.store) ∧ wr.cell? ⟨ab, ao + k * 5 + 1, none⟩ = some (.int .i64 x.at_) ∧ wr.cell? ⟨ab, ao + k * 5 + 2, none⟩ = some (.int .i64 x.size) ∧ wr.cell? ⟨ab, ao + k * 5 + 3, none⟩ = some (.int .u64 x.v) ∧
     wr.cell? ⟨ab, ao + k * 5 + 4, none⟩ = some (.int .u64 x.pc)) ∧ ab < wr.heap.size := by
  obtain ⟨ab, ao, hA, hab, hX⟩ := hS (by omega)
  obtain ⟨cs, hf, hc⟩ := hX k hk
  have c0 := cell_bool hf hc (j := 0) rfl
  have c1 := cell_int hf hc (j := 1) rfl
  have c2 := cell_int hf hc (j := 2) rfl
  have c3 := cell_int hf hc (j := 3) rfl
  have c4 := cell_int hf hc (j := 4) rfl
  simp only [List.length_cons, List.length_nil, Nat.zero_add, Nat.reduceAdd, Nat.add_zero] at c0 c1 c2 c3 c4
  have up : ∀ {o : Nat} {v : Value}, w.cell? ⟨ab, o, none⟩ = some v → wr.cell? ⟨ab, o, none⟩ = some v := fun h => (hb.cell (p := ⟨ab, _, none⟩) hab).trans h
  exact ⟨ab, ao, hA, ⟨_, _, _, _, _⟩, ⟨i64' c1.2, i64' c2.2, b64' c3.2, b64' c4.2⟩, ⟨up c0, up c1.1, up c2.1, up c3.1, up c4.1⟩, Nat.lt_of_lt_of_le hab hb.size⟩
theorem write_i {w0 w : World} {L : List HP} {V : Value} {M : Nat → Int} (h : Heap w0 w (HP.slw V 1 64 (bytes 64 M) :: L)) {y : OpS} (hy : YOk y) (v : Int) (v0 : 0 ≤ v ∧ v < 18446744073709551616) :
    Calls Try.prog 31 #[V, .int .i64 y.at_, .int .i64 y.size, .int .u64 v] w fun r w' => r = .returned (.tuple #[]) ∧ Heap w0 w' (HP.slw V 1 64 (bytes 64 (wrM M y.at_.toNat y.size.toNat v)) :: L) := by
  have h0 := hy.a0
  have h1 := hy.a1
  have hs : 0 < y.size ∧ y.size ≤ 8 := by rcases hy.sz with h | h | h | h <;> omega
  have e1 : y.at_ = (y.at_.toNat : Int) := by omega
  have e2 : y.size = (y.size.toNat : Int) := by omega
  have := write_h h y.at_.toNat y.size.toNat (by omega) (by omega) v v0
  rw [← e1, ← e2] at this
  exact this
theorem read_i {w0 w : World} {L : List HP} {V : Value} {M : Nat → Int} (hM : BM M) (h : Heap w0 w (HP.slw V 1 64 (bytes 64 M) :: L)) {y : OpS} (hy : YOk y) :
    Calls Try.prog 32 #[V, .int .i64 y.at_, .int .i64 y.size] w fun r w' => r = .returned (.int .u64 (rdM M y.at_.toNat y.size.toNat)) ∧ Heap w0 w' (HP.slw V 1 64 (bytes 64 M) :: L) := by
  have h0 := hy.a0
  have h1 := hy.a1
  have hs : 0 < y.size ∧ y.size ≤ 8 := by rcases hy.sz with h | h | h | h <;> omega
  have e1 : y.at_ = (y.at_.toNat : Int) := by omega
  have e2 : y.size = (y.size.toNat : Int) := by omega
  have := read_h hM h y.at_.toNat y.size.toNat (by omega) (by omega)
  rw [← e1, ← e2] at this
  exact this
theorem right_y {w0 w : World} {L : List HP} (h : Heap w0 w L) (x : OpS) (hx : x.ok) : Calls Try.prog 30 #[.agg #[.bool x.store, .int .i64 x.at_, .int .i64 x.size, .int .u64 x.v, .int .u64 x.pc]] w fun r w' => ∃ y : OpS, y = rightO x ∧ YOk y ∧ r = .returned (.agg #[.bool y.store, .int .i64 y.at_, .int .i64 y.size, .int .u64 y.v, .int .u64 y.pc]) ∧ Heap w0 w' L :=
  (right_h h x hx).mono fun _ _ ⟨e, h1⟩ => ⟨_, rfl, right_ok hx, e, h1⟩

theorem orb8 (x : Int) (i : Nat) (hi : i < 8) (x0 : 0 ≤ x) (x1 : x < 2 ^ i) : bits .or .u8 x (2 ^ i) = x + 2 ^ i := by
  have h : Result.ok (Value.int .u8 (bits .or .u8 x (2 ^ i))) (default : World) = Result.ok (Value.int .u8 (x + 2 ^ i)) default := or8 x i hi x0 x1 default
  injection h with h
  injection h
theorem eq8 (x : Int) (w : World) : (binOp .eql 5 (.int .u8 x) (.int .u8 x)).run Try.prog w = .ok (.bool true) w := by
  show Result.ok (Value.bool (x == x)) w = _
  simp
theorem eq64 (x : Int) (w : World) : (binOp .eql 28 (.int .u64 x) (.int .u64 x)).run Try.prog w = .ok (.bool true) w := by
  show Result.ok (Value.bool (x == x)) w = _
  simp
theorem memF_bm (g : OpS → Int) (ys : List OpS) : ∀ M, BM M → BM (ys.foldl (fun M y => wrM M y.at_.toNat y.size.toNat (g y)) M) := by
  induction ys with
  | nil => intro M h; exact h
  | cons y ys ih => intro M h; exact ih _ (wrM_bm h _ _ _)
theorem memB_bm (ys : List OpS) : BM (memB ys) := memF_bm (fun y => y.v) ys _ fun _ => by decide
theorem bytes_look {ys : List OpS} (hy : ∀ y ∈ ys, YOk y) {k : Nat} (hk : ys.length = k) {y : OpS} (hyo : YOk y) :
    lookQ ⟨entsB ys ++ [placeE (Ent.fresh (k : Int) y.pc false) y.at_ y.size], H0⟩ (k : Int) = (⟨false, wantN (maskB ys) y.at_.toNat y.size.toNat, rdM (memB ys) y.at_.toNat y.size.toNat⟩, true) := by
  subst hk
  have hs : 0 < y.size ∧ y.size ≤ 8 := by rcases hyo.sz with h | h | h | h <;> omega
  have h0 := hyo.a0
  have h1 := hyo.a1
  refine (look_mid (l := entsB ys) (r := []) (e := placeE (Ent.fresh (ys.length : Int) y.pc false) y.at_ y.size) (h := H0) (fun x hx => ?_) rfl rfl).trans ?_
  · have := (entsB_tag x hx).1
    show x.tag ≠ (ys.length : Int)
    omega
  · unfold lookG
    have hw : waitN ⟨entsB ys ++ [placeE (Ent.fresh (ys.length : Int) y.pc false) y.at_ y.size], H0⟩ (placeE (Ent.fresh (ys.length : Int) y.pc false) y.at_ y.size) (entsB ys).length = false := by
      unfold waitN
      dsimp only
      rw [List.take_left, List.any_eq_false]
      intro x hx
      rw [(entsB_tag x hx).2.2.2]
      simp
    have hg := bytes_got hy (placeE (Ent.fresh (ys.length : Int) y.pc false) y.at_ y.size) [placeE (Ent.fresh (ys.length : Int) y.pc false) y.at_ y.size] h0 y.size.toNat (by show y.at_ + _ ≤ 64; omega)
    rw [hw, entsB_len]
    dsimp only
    rw [show (placeE (Ent.fresh (ys.length : Int) y.pc false) y.at_ y.size).size = y.size from rfl, hg]
    rfl
set_option maxRecDepth 100000 in
set_option maxHeartbeats 8000000 in
theorem bytes_walk (x : OpS) (hx : x.ok) (A : Option Addr) (n cap : Nat) (w : World) (hS : SlArg [none, some .i64, some .i64, some .u64, some .u64] w A n) (hn : n ≤ 4398046511104) :
    Calls Try.prog 7 #[.slice A n cap, .agg #[.bool x.store, .int .i64 x.at_, .int .i64 x.size, .int .u64 x.v, .int .u64 x.pc]] w fun e w' => e = .returned (.bool true) ∧ Below w.heap.size w w' := by
  have HS := hide hS
  clear hS
  have h0 := (Heap.nil w).new #[.bool x.store, .int .i64 x.at_, .int .i64 x.size, .int .u64 x.v, .int .u64 x.pc] 54
  obtain ⟨b3, hb3⟩ : ∃ b, w.heap.size = b := ⟨_, rfl⟩
  rw [hb3] at h0
  have HB3 := hide hb3
  clear hb3
  go_enter Try.func7, Try.ntmps7
  go_wp2_with fail
  rw [unhide HB3]
  refine (fixed_h h0).mono ?_
  rintro r w1 ⟨rfl, h1⟩
  clear h0
  go_wp2_with fail
  refine (new_h h1).mono ?_
  rintro r w2 ⟨b, rfl, h2⟩
  clear h1
  unfold ptr
  have h3 := (h2.newS (bytes 64 fun _ => 0) 5 64 1 (bytes_len _ _)).newS (bytes 64 fun _ => 0) 5 64 1 (bytes_len _ _)
  obtain ⟨k1, hk1⟩ : ∃ k, w2.heap.size = k := ⟨_, rfl⟩
  rw [show (w2.alloc (.cells (bytes 64 fun _ => 0).toArray 5)).heap.size = w2.heap.size + 1 by simp, hk1] at h3
  have HK1 := hide hk1
  have hmk := mk52
  have H3 := hide h3
  clear hk1 h2 h3
  go_upto_region 6 with fail
  rw [unhide HK1]
  clear hmk
  obtain ⟨k2, hk2⟩ : ∃ k, k1 + 1 = k := ⟨_, rfl⟩
  rw [hk2] at H3 ⊢
  have h4 : Heap w _ ([HP.q b Q0, HP.slw (.slice (some ⟨k1, 0, none⟩) 64 64) 1 64 (bytes 64 (fun _ => 0)), HP.slw (.slice (some ⟨k2, 0, none⟩) 64 64) 1 64 (bytes 64 (fun _ => 0)), HP.blk b3 #[.bool x.store, .int .i64 x.at_, .int .i64 x.size, .int .u64 x.v, .int .u64 x.pc] 54]) := (unhide H3).f2.f3
  clear H3 HK1 HB3 hk2
  generalize (w2.alloc (.cells (bytes 64 fun _ => 0).toArray 5)).alloc (.cells (bytes 64 fun _ => 0).toArray 5) = w4 at h4 ⊢
  have H4 := hide h4
  clear h4
  go_wp2
  go_loopw [8, 9] (fun s8 s9 wr => ∃ ys : List OpS, s8 = .int .i64 ys.length ∧ s9 = .int .i64 ys.length ∧ ys.length ≤ 8 ∧ ys.length ≤ n ∧ (∀ y ∈ ys, YOk y) ∧ Heap w wr ([HP.q b ⟨entsB ys, H0⟩, HP.slw (.slice (some ⟨k1, 0, none⟩) 64 64) 1 64 (bytes 64 (memB ys)), HP.slw (.slice (some ⟨k2, 0, none⟩) 64 64) 1 64 (bytes 64 (maskB ys)), HP.blk b3 #[.bool x.store, .int .i64 x.at_, .int .i64 x.size, .int .u64 x.v, .int .u64 x.pc] 54])) (fun _ s9 _ => n - (intOf s9).toNat)
  case atStart => exact ⟨[], rfl, rfl, by simp, by simp, by simp, unhide H4⟩
  case round =>
    obtain ⟨ys, rfl, rfl, hk8, hkn, hys, hJ⟩ := hrel
    clear H4
    obtain ⟨k, hk⟩ : ∃ k, ys.length = k := ⟨_, rfl⟩
    rw [hk] at hk8 hkn ⊢
    have Hk := hide hk
    have Hys := hide hys
    clear hk hys
    by_cases hlt : k < n ∧ k < 8
    · obtain ⟨hlt, hlt8⟩ := hlt
      obtain ⟨ab, ao, rfl, z, hz, ⟨c0, c1, c2, c3, c4⟩, hab⟩ := op_at (unhide HS) hJ.below hlt
      have HJ := hide hJ
      clear hJ
      go_wp2_with fail
      refine (right_y (unhide HJ) z hz).mono ?_
      rintro r w5 ⟨y, hyz, hy, rfl, h5⟩
      clear hyz c0 c1 c2 c3 c4 hab HJ hz
      have h6 := h5.new #[.bool y.store, .int .i64 y.at_, .int .i64 y.size, .int .u64 y.v, .int .u64 y.pc] 54
      obtain ⟨kb, hkb⟩ : ∃ k, w5.heap.size = k := ⟨_, rfl⟩
      rw [hkb] at h6
      have Hkb := hide hkb
      replace h6 := h6.f2
      clear hkb h5
      obtain ⟨d0, d1, d2, d3, d4⟩ := cells5 h6.f2.heap
      have hxl := lt_of_heap' h6.f2.heap
      have hw : IntKind.u64.wrap y.at_ = y.at_ := by rw [IntKind.wrap_u64]; have := hy.a0; have := hy.a1; have := hy.sz; omega
      have hki : -9223372036854775808 ≤ (k : Int) ∧ (k : Int) < 9223372036854775808 := by omega
      have ht : ∀ e ∈ entsB ys, e.tag < (k : Int) := fun e he => by rw [← unhide Hk]; exact (entsB_tag e he).1
      have htn : ∀ e ∈ entsB ys, e.tag ≠ (k : Int) := fun e he => by have := ht e he; omega
      have e1 : comeQ ⟨entsB ys, H0⟩ (Ent.fresh (k : Int) y.pc true) = ⟨entsB ys ++ [(Ent.fresh (k : Int) y.pc true)], H0⟩ := come_ok (e := (Ent.fresh (k : Int) y.pc true)) ht (by show (if true then _ else _); rw [if_pos rfl]; show nSt (entsB ys) < 8; rw [(entsB_nSt ys).1, unhide Hk]; exact hlt8)
      have m1 : mayCome (entsB ys) (k : Int) true = true := mayCome_ok ht (by rw [if_pos rfl, (entsB_nSt ys).1, unhide Hk]; exact hlt8)
      obtain ⟨m2, e2⟩ := data_mid (l := entsB ys) (r := []) (e := (Ent.fresh (k : Int) y.pc true)) (h := H0) htn rfl rfl y.v
      have e2 : dataQ ⟨entsB ys ++ [(Ent.fresh (k : Int) y.pc true)], H0⟩ (k : Int) y.v = ⟨entsB ys ++ [(Ent.mk (k : Int) y.pc true false true false 0 0 y.v)], H0⟩ := e2
      have m2 : dataN (entsB ys ++ [(Ent.fresh (k : Int) y.pc true)]) (k : Int) = some (entsB ys).length := m2
      have e3 : whereQ ⟨entsB ys ++ [(Ent.mk (k : Int) y.pc true false true false 0 0 y.v)], H0⟩ (k : Int) y.at_ y.size = (([], true), ⟨entsB ys ++ [sE k y], H0⟩) := where_mid (l := entsB ys) (r := []) (e := (Ent.mk (k : Int) y.pc true false true false 0 0 y.v)) (h := H0) htn rfl (okSize_iff.2 hy.sz) hy.al (fun _ x hx => by simp at hx)
      have E := hide (And.intro e1 (And.intro m1 (And.intro m2 (And.intro e2 e3))))
      have ha64 : 0 ≤ y.at_ ∧ y.at_ < 18446744073709551616 := by have := hy.a0; have := hy.a1; have := hy.sz; omega
      have HA := hide ha64
      have Hki := hide hki
      clear e1 m1 m2 e2 e3 ht htn ha64 hki
      go_wp2_with fail
      rw [unhide Hkb]
      refine (store_h h6 k y.pc (unhide Hki) hy.pc).mono ?_
      rintro r w7 ⟨rfl, h7⟩
      dsimp only at h7 ⊢
      rw [(unhide E).1] at h7
      rw [(unhide E).2.1]
      clear h6
      clear d0 d1 d2 d3 d4 hxl
      obtain ⟨d0, d1, d2, d3, d4⟩ := cells5 h7.f2.heap
      have hxl := lt_of_heap' h7.f2.heap
      go_wp2_with fail
      refine (data_h h7 k y.v hy.v).mono ?_
      rintro r w8 ⟨rfl, h8⟩
      dsimp only at h8 ⊢
      rw [(unhide E).2.2.2.1] at h8
      rw [(unhide E).2.2.1]
      clear h7
      clear d0 d1 d2 d3 d4 hxl
      obtain ⟨d0, d1, d2, d3, d4⟩ := cells5 h8.f2.heap
      have hxl := lt_of_heap' h8.f2.heap
      go_wp2_with fail
      refine (where_h h8 k y.at_ y.size (unhide HA)).mono ?_
      rintro r w9 ⟨v1, rfl, h9⟩
      rw [(unhide E).2.2.2.2] at h9 ⊢
      replace h9 := h9.tail
      dsimp only at h9 ⊢
      clear h8
      clear d0 d1 d2 d3 d4 hxl
      obtain ⟨d0, d1, d2, d3, d4⟩ := cells5 h9.f2.heap
      have hxl := lt_of_heap' h9.f2.heap
      go_wp2_with fail
      refine (write_i h9.f3 hy y.v hy.v).mono ?_
      rintro r w10 ⟨rfl, h10⟩
      clear h9
      clear d0 d1 d2 d3 d4 hxl
      obtain ⟨d0, d1, d2, d3, d4⟩ := cells5 h10.f3.heap
      have hxl := lt_of_heap' h10.f3.heap
      go_wp2_with fail
      refine (write_i h10.f4 hy 18446744073709551615 (by omega)).mono ?_
      rintro r w11 ⟨rfl, h11⟩
      clear h10
      clear d0 d1 d2 d3 d4 hxl
      have hN : Heap w w11 ([HP.q b ⟨entsB (ys ++ [y]), H0⟩, HP.slw (.slice (some ⟨k1, 0, none⟩) 64 64) 1 64 (bytes 64 (memB (ys ++ [y]))), HP.slw (.slice (some ⟨k2, 0, none⟩) 64 64) 1 64 (bytes 64 (maskB (ys ++ [y]))), HP.blk b3 #[.bool x.store, .int .i64 x.at_, .int .i64 x.size, .int .u64 x.v, .int .u64 x.pc] 54]) := by
        have h12 := h11.f4.tail.f2.f3
        rw [← memB_snoc, ← maskB_snoc, show entsB ys ++ [sE k y] = entsB (ys ++ [y]) by rw [entsB_snoc, unhide Hk]] at h12
        exact h12
      have HN := hide hN
      clear h11 hN
      have hsn : Hid ((ys ++ [y]).length = k + 1) := hide (by rw [List.length_append, unhide Hk]; rfl)
      go_wp2
      exact ⟨⟨ys ++ [y], by rw [unhide hsn]; go_num, by rw [unhide hsn]; go_num, by rw [unhide hsn]; omega, by rw [unhide hsn]; omega, (by
        intro y' hy'
        rcases List.mem_append.1 hy' with h | h
        · exact unhide Hys y' h
        · rw [List.mem_singleton.1 h]; exact hy), unhide HN⟩, by simp [intOf]; omega⟩
    · have HJ := hide hJ
      obtain ⟨d0, d1, d2, d3, d4⟩ := cells5 hJ.f4.heap
      have hxl := lt_of_heap' hJ.f4.heap
      clear hJ
      have HX := hide hx
      clear hx
      by_cases h1 : k < n
      · have h2 : ¬ k < 8 := fun h => hlt ⟨h1, h⟩
        clear hlt
        go_wp2_with fail
        refine (right_y (unhide HJ) x (unhide HX)).mono ?_
        rintro r w5 ⟨y, hyz, hy, rfl, h5⟩
        clear hyz HJ HX
        clear d0 d1 d2 d3 d4 hxl
        have h6 := h5.new #[.bool y.store, .int .i64 y.at_, .int .i64 y.size, .int .u64 y.v, .int .u64 y.pc] 54
        obtain ⟨kb, hkb⟩ : ∃ k, w5.heap.size = k := ⟨_, rfl⟩
        rw [hkb] at h6
        have Hkb := hide hkb
        replace h6 := h6.f2
        clear hkb h5
        obtain ⟨d0, d1, d2, d3, d4⟩ := cells5 h6.f2.heap
        have hxl := lt_of_heap' h6.f2.heap
        have hw : IntKind.u64.wrap y.at_ = y.at_ := by rw [IntKind.wrap_u64]; have := hy.a0; have := hy.a1; have := hy.sz; omega
        have hki : -9223372036854775808 ≤ (k : Int) ∧ (k : Int) < 9223372036854775808 := by omega
        have ht : ∀ e ∈ entsB ys, e.tag < (k : Int) := fun e he => by rw [← unhide Hk]; exact (entsB_tag e he).1
        have htn : ∀ e ∈ entsB ys, e.tag ≠ (k : Int) := fun e he => by have := ht e he; omega
        have e1 : comeQ ⟨entsB ys, H0⟩ (Ent.fresh (k : Int) y.pc false) = ⟨entsB ys ++ [(Ent.fresh (k : Int) y.pc false)], H0⟩ := come_ok (e := (Ent.fresh (k : Int) y.pc false)) ht (by show (if false then _ else _); rw [if_neg (by simp)]; show nLd (entsB ys) < 8; rw [(entsB_nSt ys).2]; decide)
        have e2 : whereQ ⟨entsB ys ++ [(Ent.fresh (k : Int) y.pc false)], H0⟩ (k : Int) y.at_ y.size = (([], true), ⟨entsB ys ++ [(placeE (Ent.fresh (k : Int) y.pc false) y.at_ y.size)], H0⟩) := where_mid (l := entsB ys) (r := []) (e := (Ent.fresh (k : Int) y.pc false)) (h := H0) htn rfl (okSize_iff.2 hy.sz) hy.al (fun _ x hx => by simp at hx)
        have e3 := bytes_look (unhide Hys) (unhide Hk) hy
        have E := hide (And.intro e1 (And.intro e2 e3))
        have ha64 : 0 ≤ y.at_ ∧ y.at_ < 18446744073709551616 := by have := hy.a0; have := hy.a1; have := hy.sz; omega
        have HA := hide ha64
        have Hki := hide hki
        clear e1 e2 e3 ht htn ha64 hki
        go_wp2_with fail
        rw [unhide Hkb]
        refine (load_h h6 k y.pc (unhide Hki) hy.pc).mono ?_
        rintro r w7 ⟨rfl, h7⟩
        dsimp only at h7 ⊢
        rw [(unhide E).1] at h7
        generalize mayCome (entsB ys) (k : Int) false = mc
        clear h6
        clear d0 d1 d2 d3 d4 hxl
        obtain ⟨d0, d1, d2, d3, d4⟩ := cells5 h7.f2.heap
        have hxl := lt_of_heap' h7.f2.heap
        go_wp2_with fail
        refine (where_h h7 k y.at_ y.size (unhide HA)).mono ?_
        rintro r w8 ⟨v1, rfl, h8⟩
        rw [(unhide E).2.1] at h8 ⊢
        replace h8 := h8.tail
        dsimp only at h8 ⊢
        clear h7
        clear d0 d1 d2 d3 d4 hxl
        go_wp2_with fail
        refine (look_h h8 k).mono ?_
        rintro r w9 ⟨rfl, h9⟩
        rw [(unhide E).2.2]
        unfold GotS.cs
        dsimp only
        clear h8
        have h10 := h9.new #[.bool false, .int .u8 (wantN (maskB ys) y.at_.toNat y.size.toNat), .int .u64 (rdM (memB ys) y.at_.toNat y.size.toNat)] 37
        obtain ⟨kg, hkg⟩ : ∃ k, w9.heap.size = k := ⟨_, rfl⟩
        rw [hkg] at h10
        have Hkg := hide hkg
        have H10 := hide h10
        clear h9 h10 hkg
        go_upto_region 24 with fail
        rw [unhide Hkg]
        have h10 := unhide H10
        clear H10 Hkg
        generalize w9.alloc (.cells #[.bool false, .int .u8 (wantN (maskB ys) y.at_.toNat y.size.toNat), .int .u64 (rdM (memB ys) y.at_.toNat y.size.toNat)] 37) = wx at h10 ⊢
        obtain ⟨a, ha⟩ : ∃ a : Nat, y.at_ = a := Int.eq_ofNat_of_zero_le hy.a0
        obtain ⟨z, hz⟩ : ∃ z : Nat, y.size = z := Int.eq_ofNat_of_zero_le (by have := hy.sz; omega)
        have ha' : y.at_.toNat = a := by omega
        have hz' : y.size.toNat = z := by omega
        have haz : a + z ≤ 64 ∧ z ≤ 8 := by have := hy.a1; have := hy.sz; omega
        obtain ⟨d0, d1, d2, d3, d4⟩ := cells5 h10.f3.heap
        have hxl := lt_of_heap' h10.f3.heap
        rw [ha] at d1
        rw [hz] at d2
        have hcm : ∀ j, j < 64 → wx.cell? ⟨k2, j, none⟩ = some (.int .u8 (maskB ys j)) := fun j hj => by
          have := (h10.f5.slw.at_ (j := j) (by omega)).2.1
          rw [Nat.zero_add, bytes_get _ _ hj] at this
          exact this
        have hlm := (h10.f5.slw.at_ (j := 0) (by omega)).1
        rw [ha', hz', ha, hz] at h10
        have H10 := hide h10
        have HC := hide hcm
        have HAZ := hide (And.intro ha' hz')
        clear h10 hcm ha hz ha' hz'
        go_wp2
        go_loopw [18, 19] (fun s18 s19 wr => ∃ j : Nat, s18 = .int .u8 (wantN (maskB ys) a j) ∧ s19 = .int .i64 j ∧ j ≤ z ∧ wr = wx) (fun _ s19 _ => z - (intOf s19).toNat)
        case atStart => exact ⟨0, rfl, rfl, Nat.zero_le _, rfl⟩
        case round =>
          obtain ⟨j, rfl, rfl, hj, rfl⟩ := hrel
          by_cases hjz : j < z
          · have hc := unhide HC (a + j) (by omega)
            have hwi : IntKind.i64.wrap ((a : Int) + (j : Int)) = ((a + j : Nat) : Int) := by rw [wrap_i64]; split <;> omega
            have hs := shl8 j (by omega)
            have hpw : (2 : Int) ^ j < 256 ∧ 0 ≤ (2 : Int) ^ j := by
              have : j = 0 ∨ j = 1 ∨ j = 2 ∨ j = 3 ∨ j = 4 ∨ j = 5 ∨ j = 6 ∨ j = 7 := by omega
              rcases this with h | h | h | h | h | h | h | h <;> (rw [h]; decide)
            have HB := hide (wantN_bd (maskB ys) a j)
            have W := hide (wantN_succ (maskB ys) a j)
            by_cases hp : 0 < maskB ys (a + j)
            · have W2 := hide ((unhide W).trans (by rw [if_pos hp]))
              go_wp2
              exact ⟨⟨j + 1, by rw [unhide W2, orb8 _ _ (by omega) (unhide HB).1 (unhide HB).2], by go_num, by omega, trivial⟩, by simp [intOf]; omega⟩
            · have W2 := hide ((unhide W).trans (by rw [if_neg hp]))
              go_wp2
              exact ⟨⟨j + 1, by rw [unhide W2, Int.add_zero], by go_num, by omega, trivial⟩, by simp [intOf]; omega⟩
          · obtain rfl : j = z := by omega
            go_upto_region 29 with fail
            have h10 := unhide H10
            clear HC H10 d0 d1 d2 d3 d4 hxl hlm
            refine wp_region_F (fun w_ => Heap w w_ [HP.blk kg #[.bool false, .int .u8 (wantN (maskB ys) a j), .int .u64 (rdM (memB ys) a j)] 37, HP.q b ⟨entsB ys ++ [placeE (Ent.fresh (k : Int) y.pc false) (a : Int) (j : Int)], H0⟩, HP.blk kb #[.bool y.store, .int .i64 (a : Int), .int .i64 (j : Int), .int .u64 y.v, .int .u64 y.pc] 54, HP.slw (.slice (some ⟨k1, 0, none⟩) 64 64) 1 64 (bytes 64 (memB ys)), HP.slw (.slice (some ⟨k2, 0, none⟩) 64 64) 1 64 (bytes 64 (maskB ys)), HP.blk b3 #[.bool x.store, .int .i64 x.at_, .int .i64 x.size, .int .u64 x.v, .int .u64 x.pc] 54]) (fun _ _ => True) (fun k_ v_ w_ => match k_ with
                | 0 => v_ = .bool true
                | 1 => v_ = .bool true
                | 2 => v_ = .bool true
                | 3 => v_ = .bool true
                | 4 => v_ = .bool true
                | 5 => v_ = .pointer (some ⟨kg, 0, none⟩)
                | 6 => v_ = .bool false
                | 7 => v_ = .bool true
                | 8 => v_ = .bool true
                | 9 => v_ = .bool true
                | 10 => v_ = .pointer (some ⟨kg, 1, none⟩)
                | 11 => v_ = .int .u8 (wantN (maskB ys) a j)
                | 12 => v_ = .int .u8 (wantN (maskB ys) a j)
                | 13 => v_ = .bool true
                | 14 => v_ = .bool true
                | 15 => v_ = .bool true
                | 16 => v_ = .pointer (some ⟨kg, 2, none⟩)
                | 17 => v_ = .int .u64 (rdM (memB ys) a j)
                | 18 => v_ = .slice (some ⟨k1, 0, none⟩) 64 64
                | 19 => v_ = .pointer (some ⟨kb, 1, none⟩)
                | 20 => v_ = .int .i64 (a : Int)
                | 21 => v_ = .pointer (some ⟨kb, 2, none⟩)
                | 22 => v_ = .int .i64 (j : Int)
                | 23 => v_ = .int .u64 (rdM (memB ys) a j)
                | 24 => v_ = .bool true
                | 25 => v_ = .bool true
                | _ => v_ = .bool true) fol (by kernel_rfl) ?_ ?_ ?_ ?_
            · exact h10.drew
            · intro k_ v_ w_ w2_ h1 hg
              split at h1 <;> exact h1
            · intro vals
              show wpG _ _ _ _ _ _ 0 (_ :: _) _
              refine wpG_cons (gval (.bool true) (fun _ => trivial) fun w_ hJ hd => ?_) ?_
              · exact ⟨by kernel_rfl, by kernel_rfl, rfl⟩
              refine wpG_cons (gval (.bool true) (fun _ => trivial) fun w_ hJ hd => ?_) ?_
              · have e0 : vals 0 = _ := hd 0 (by decide) (by kernel_rfl)
                rw [e0]
                exact ⟨by kernel_rfl, by kernel_rfl, rfl⟩
              refine wpG_cons (gval (.bool true) (fun _ => trivial) fun w_ hJ hd => ?_) ?_
              · have e1 : vals 1 = _ := hd 1 (by decide) (by kernel_rfl)
                rw [e1]
                exact ⟨by kernel_rfl, by kernel_rfl, rfl⟩
              refine wpG_cons (gval (.bool true) (fun _ => trivial) fun w_ hJ hd => ?_) ?_
              · have e1 : vals 1 = _ := hd 1 (by decide) (by kernel_rfl)
                have e2 : vals 2 = _ := hd 2 (by decide) (by kernel_rfl)
                rw [e1, e2]
                exact ⟨by kernel_rfl, by kernel_rfl, rfl⟩
              refine wpG_cons (gval (.bool true) (fun _ => trivial) fun w_ hJ hd => ?_) ?_
              · have e3 : vals 3 = _ := hd 3 (by decide) (by kernel_rfl)
                rw [e3]
                exact ⟨by kernel_rfl, by kernel_rfl, rfl⟩
              refine wpG_cons (gval (.pointer (some ⟨kg, 0, none⟩)) (fun _ => trivial) fun w_ hJ hd => ?_) ?_
              · have e4 : vals 4 = _ := hd 4 (by decide) (by kernel_rfl)
                rw [e4]
                exact ⟨by kernel_rfl, by kernel_rfl, rfl⟩
              refine wpG_cons (gop (Instr.loadAt 4 (.pointer (some ⟨kg, 0, none⟩))) (.bool false) (fun _ => trivial) fun w_ hJ hd => ?_) ?_
              · have e4 : vals 4 = _ := hd 4 (by decide) (by kernel_rfl)
                have e5 : vals 5 = _ := hd 5 (by decide) (by kernel_rfl)
                rw [e4, e5]
                exact ⟨by kernel_rfl, by kernel_rfl, run_load1 (by kernel_rfl) ((cells3f hJ.heap).1), rfl⟩
              refine wpG_cons (gval (.bool true) (fun _ => trivial) fun w_ hJ hd => ?_) ?_
              · have e4 : vals 4 = _ := hd 4 (by decide) (by kernel_rfl)
                have e6 : vals 6 = _ := hd 6 (by decide) (by kernel_rfl)
                rw [e4, e6]
                exact ⟨by kernel_rfl, by kernel_rfl, rfl⟩
              refine wpG_cons (gval (.bool true) (fun _ => trivial) fun w_ hJ hd => ?_) ?_
              · have e4 : vals 4 = _ := hd 4 (by decide) (by kernel_rfl)
                have e7 : vals 7 = _ := hd 7 (by decide) (by kernel_rfl)
                rw [e4, e7]
                exact ⟨by kernel_rfl, by kernel_rfl, rfl⟩
              refine wpG_cons (gval (.bool true) (fun _ => trivial) fun w_ hJ hd => ?_) ?_
              · have e8 : vals 8 = _ := hd 8 (by decide) (by kernel_rfl)
                rw [e8]
                exact ⟨by kernel_rfl, by kernel_rfl, rfl⟩
              refine wpG_cons (gval (.pointer (some ⟨kg, 1, none⟩)) (fun _ => trivial) fun w_ hJ hd => ?_) ?_
              · have e9 : vals 9 = _ := hd 9 (by decide) (by kernel_rfl)
                rw [e9]
                exact ⟨by kernel_rfl, by kernel_rfl, rfl⟩
              refine wpG_cons (gop (Instr.loadAt 5 (.pointer (some ⟨kg, 1, none⟩))) (.int .u8 (wantN (maskB ys) a j)) (fun _ => trivial) fun w_ hJ hd => ?_) ?_
              · have e9 : vals 9 = _ := hd 9 (by decide) (by kernel_rfl)
                have e10 : vals 10 = _ := hd 10 (by decide) (by kernel_rfl)
                rw [e9, e10]
                exact ⟨by kernel_rfl, by kernel_rfl, run_load1 (by kernel_rfl) ((cells3f hJ.heap).2.1), rfl⟩
              refine wpG_cons (gval (.int .u8 (wantN (maskB ys) a j)) (fun _ => trivial) fun w_ hJ hd => ?_) ?_
              · have e9 : vals 9 = _ := hd 9 (by decide) (by kernel_rfl)
                rw [e9]
                exact ⟨by kernel_rfl, by kernel_rfl, rfl⟩
              refine wpG_cons (gop (binOp .eql 5 (.int .u8 (wantN (maskB ys) a j)) (.int .u8 (wantN (maskB ys) a j))) (.bool true) (fun _ => trivial) fun w_ hJ hd => ?_) ?_
              · have e9 : vals 9 = _ := hd 9 (by decide) (by kernel_rfl)
                have e11 : vals 11 = _ := hd 11 (by decide) (by kernel_rfl)
                have e12 : vals 12 = _ := hd 12 (by decide) (by kernel_rfl)
                rw [e9, e11, e12]
                exact ⟨by kernel_rfl, by kernel_rfl, eq8 _ w_, rfl⟩
              refine wpG_cons (gval (.bool true) (fun _ => trivial) fun w_ hJ hd => ?_) ?_
              · have e9 : vals 9 = _ := hd 9 (by decide) (by kernel_rfl)
                have e13 : vals 13 = _ := hd 13 (by decide) (by kernel_rfl)
                rw [e9, e13]
                exact ⟨by kernel_rfl, by kernel_rfl, rfl⟩
              refine wpG_cons (gval (.bool true) (fun _ => trivial) fun w_ hJ hd => ?_) ?_
              · have e14 : vals 14 = _ := hd 14 (by decide) (by kernel_rfl)
                rw [e14]
                exact ⟨by kernel_rfl, by kernel_rfl, rfl⟩
              refine wpG_cons (gval (.pointer (some ⟨kg, 2, none⟩)) (fun _ => trivial) fun w_ hJ hd => ?_) ?_
              · have e15 : vals 15 = _ := hd 15 (by decide) (by kernel_rfl)
                rw [e15]
                exact ⟨by kernel_rfl, by kernel_rfl, rfl⟩
              refine wpG_cons (gop (Instr.loadAt 28 (.pointer (some ⟨kg, 2, none⟩))) (.int .u64 (rdM (memB ys) a j)) (fun _ => trivial) fun w_ hJ hd => ?_) ?_
              · have e15 : vals 15 = _ := hd 15 (by decide) (by kernel_rfl)
                have e16 : vals 16 = _ := hd 16 (by decide) (by kernel_rfl)
                rw [e15, e16]
                exact ⟨by kernel_rfl, by kernel_rfl, run_load1 (by kernel_rfl) ((cells3f hJ.heap).2.2.1), rfl⟩
              refine wpG_cons (gval (.slice (some ⟨k1, 0, none⟩) 64 64) (fun _ => trivial) fun w_ hJ hd => ?_) ?_
              · have e15 : vals 15 = _ := hd 15 (by decide) (by kernel_rfl)
                rw [e15]
                exact ⟨by kernel_rfl, by kernel_rfl, rfl⟩
              refine wpG_cons (gval (.pointer (some ⟨kb, 1, none⟩)) (fun _ => trivial) fun w_ hJ hd => ?_) ?_
              · have e15 : vals 15 = _ := hd 15 (by decide) (by kernel_rfl)
                rw [e15]
                exact ⟨by kernel_rfl, by kernel_rfl, rfl⟩
              refine wpG_cons (gop (Instr.loadAt 3 (.pointer (some ⟨kb, 1, none⟩))) (.int .i64 (a : Int)) (fun _ => trivial) fun w_ hJ hd => ?_) ?_
              · have e15 : vals 15 = _ := hd 15 (by decide) (by kernel_rfl)
                have e19 : vals 19 = _ := hd 19 (by decide) (by kernel_rfl)
                rw [e15, e19]
                exact ⟨by kernel_rfl, by kernel_rfl, run_load1 (by kernel_rfl) ((cells5 hJ.f3.heap).2.1), rfl⟩
              refine wpG_cons (gval (.pointer (some ⟨kb, 2, none⟩)) (fun _ => trivial) fun w_ hJ hd => ?_) ?_
              · have e15 : vals 15 = _ := hd 15 (by decide) (by kernel_rfl)
                rw [e15]
                exact ⟨by kernel_rfl, by kernel_rfl, rfl⟩
              refine wpG_cons (gop (Instr.loadAt 3 (.pointer (some ⟨kb, 2, none⟩))) (.int .i64 (j : Int)) (fun _ => trivial) fun w_ hJ hd => ?_) ?_
              · have e15 : vals 15 = _ := hd 15 (by decide) (by kernel_rfl)
                have e21 : vals 21 = _ := hd 21 (by decide) (by kernel_rfl)
                rw [e15, e21]
                exact ⟨by kernel_rfl, by kernel_rfl, run_load1 (by kernel_rfl) ((cells5 hJ.f3.heap).2.2.1), rfl⟩
              refine wpG_cons (gcall 32 #[.slice (some ⟨k1, 0, none⟩) 64 64, .int .i64 (a : Int), .int .i64 (j : Int)] fun w_ hJ hd => ?_) ?_
              · have e15 : vals 15 = _ := hd 15 (by decide) (by kernel_rfl)
                have e18 : vals 18 = _ := hd 18 (by decide) (by kernel_rfl)
                have e20 : vals 20 = _ := hd 20 (by decide) (by kernel_rfl)
                have e22 : vals 22 = _ := hd 22 (by decide) (by kernel_rfl)
                rw [e15, e18, e20, e22]
                exact ⟨by kernel_rfl, by kernel_rfl, (read_h (memB_bm ys) (Heap.f4 hJ) a j haz.2 haz.1).mono fun e w' ⟨hr, hw⟩ => ⟨_, hr, hw.b4, trivial, rfl⟩⟩
              refine wpG_cons (gop (binOp .eql 28 (.int .u64 (rdM (memB ys) a j)) (.int .u64 (rdM (memB ys) a j))) (.bool true) (fun _ => trivial) fun w_ hJ hd => ?_) ?_
              · have e15 : vals 15 = _ := hd 15 (by decide) (by kernel_rfl)
                have e17 : vals 17 = _ := hd 17 (by decide) (by kernel_rfl)
                have e23 : vals 23 = _ := hd 23 (by decide) (by kernel_rfl)
                rw [e15, e17, e23]
                exact ⟨by kernel_rfl, by kernel_rfl, eq64 _ w_, rfl⟩
              refine wpG_cons (gval (.bool true) (fun _ => trivial) fun w_ hJ hd => ?_) ?_
              · have e15 : vals 15 = _ := hd 15 (by decide) (by kernel_rfl)
                have e24 : vals 24 = _ := hd 24 (by decide) (by kernel_rfl)
                rw [e15, e24]
                exact ⟨by kernel_rfl, by kernel_rfl, rfl⟩
              refine wpG_cons (gval (.bool true) (fun _ => trivial) fun w_ hJ hd => ?_) wpG_nil
              · have e25 : vals 25 = _ := hd 25 (by decide) (by kernel_rfl)
                rw [e25]
                exact ⟨by kernel_rfl, by kernel_rfl, rfl⟩
            · intro vals w_ hJ hf
              have e0 : vals 0 = _ := hf 0 (by decide)
              have e1 : vals 1 = _ := hf 1 (by decide)
              have e2 : vals 2 = _ := hf 2 (by decide)
              have e3 : vals 3 = _ := hf 3 (by decide)
              have e4 : vals 4 = _ := hf 4 (by decide)
              have e5 : vals 5 = _ := hf 5 (by decide)
              have e6 : vals 6 = _ := hf 6 (by decide)
              have e7 : vals 7 = _ := hf 7 (by decide)
              have e8 : vals 8 = _ := hf 8 (by decide)
              have e9 : vals 9 = _ := hf 9 (by decide)
              have e10 : vals 10 = _ := hf 10 (by decide)
              have e11 : vals 11 = _ := hf 11 (by decide)
              have e12 : vals 12 = _ := hf 12 (by decide)
              have e13 : vals 13 = _ := hf 13 (by decide)
              have e14 : vals 14 = _ := hf 14 (by decide)
              have e15 : vals 15 = _ := hf 15 (by decide)
              have e16 : vals 16 = _ := hf 16 (by decide)
              have e17 : vals 17 = _ := hf 17 (by decide)
              have e18 : vals 18 = _ := hf 18 (by decide)
              have e19 : vals 19 = _ := hf 19 (by decide)
              have e20 : vals 20 = _ := hf 20 (by decide)
              have e21 : vals 21 = _ := hf 21 (by decide)
              have e22 : vals 22 = _ := hf 22 (by decide)
              have e23 : vals 23 = _ := hf 23 (by decide)
              have e24 : vals 24 = _ := hf 24 (by decide)
              have e25 : vals 25 = _ := hf 25 (by decide)
              have e26 : vals 26 = _ := hf 26 (by decide)
              simp only [fillG, Nat.zero_add, Nat.reduceAdd, e0, e1, e2, e3, e4, e5, e6, e7, e8, e9, e10, e11, e12, e13, e14, e15, e16, e17, e18, e19, e20, e21, e22, e23, e24, e25, e26, Act.put, List.setIfInBounds_toArray, List.set_cons_succ, List.set_cons_zero]
              clear e0 e1 e2 e3 e4 e5 e6 e7 e8 e9 e10 e11 e12 e13 e14 e15 e16 e17 e18 e19 e20 e21 e22 e23 e24 e25 e26 hf
              go_wp2
              go_ret
              exact ⟨rfl, hJ.below⟩
      · clear hlt
        go_wp2_with fail
        refine (right_y (unhide HJ) x (unhide HX)).mono ?_
        rintro r w5 ⟨y, hyz, hy, rfl, h5⟩
        clear hyz HJ HX
        clear d0 d1 d2 d3 d4 hxl
        have h6 := h5.new #[.bool y.store, .int .i64 y.at_, .int .i64 y.size, .int .u64 y.v, .int .u64 y.pc] 54
        obtain ⟨kb, hkb⟩ : ∃ k, w5.heap.size = k := ⟨_, rfl⟩
        rw [hkb] at h6
        have Hkb := hide hkb
        replace h6 := h6.f2
        clear hkb h5
        obtain ⟨d0, d1, d2, d3, d4⟩ := cells5 h6.f2.heap
        have hxl := lt_of_heap' h6.f2.heap
        have hw : IntKind.u64.wrap y.at_ = y.at_ := by rw [IntKind.wrap_u64]; have := hy.a0; have := hy.a1; have := hy.sz; omega
        have hki : -9223372036854775808 ≤ (k : Int) ∧ (k : Int) < 9223372036854775808 := by omega
        have ht : ∀ e ∈ entsB ys, e.tag < (k : Int) := fun e he => by rw [← unhide Hk]; exact (entsB_tag e he).1
        have htn : ∀ e ∈ entsB ys, e.tag ≠ (k : Int) := fun e he => by have := ht e he; omega
        have e1 : comeQ ⟨entsB ys, H0⟩ (Ent.fresh (k : Int) y.pc false) = ⟨entsB ys ++ [(Ent.fresh (k : Int) y.pc false)], H0⟩ := come_ok (e := (Ent.fresh (k : Int) y.pc false)) ht (by show (if false then _ else _); rw [if_neg (by simp)]; show nLd (entsB ys) < 8; rw [(entsB_nSt ys).2]; decide)
        have e2 : whereQ ⟨entsB ys ++ [(Ent.fresh (k : Int) y.pc false)], H0⟩ (k : Int) y.at_ y.size = (([], true), ⟨entsB ys ++ [(placeE (Ent.fresh (k : Int) y.pc false) y.at_ y.size)], H0⟩) := where_mid (l := entsB ys) (r := []) (e := (Ent.fresh (k : Int) y.pc false)) (h := H0) htn rfl (okSize_iff.2 hy.sz) hy.al (fun _ x hx => by simp at hx)
        have e3 := bytes_look (unhide Hys) (unhide Hk) hy
        have E := hide (And.intro e1 (And.intro e2 e3))
        have ha64 : 0 ≤ y.at_ ∧ y.at_ < 18446744073709551616 := by have := hy.a0; have := hy.a1; have := hy.sz; omega
        have HA := hide ha64
        have Hki := hide hki
        clear e1 e2 e3 ht htn ha64 hki
        go_wp2_with fail
        rw [unhide Hkb]
        refine (load_h h6 k y.pc (unhide Hki) hy.pc).mono ?_
        rintro r w7 ⟨rfl, h7⟩
        dsimp only at h7 ⊢
        rw [(unhide E).1] at h7
        generalize mayCome (entsB ys) (k : Int) false = mc
        clear h6
        clear d0 d1 d2 d3 d4 hxl
        obtain ⟨d0, d1, d2, d3, d4⟩ := cells5 h7.f2.heap
        have hxl := lt_of_heap' h7.f2.heap
        go_wp2_with fail
        refine (where_h h7 k y.at_ y.size (unhide HA)).mono ?_
        rintro r w8 ⟨v1, rfl, h8⟩
        rw [(unhide E).2.1] at h8 ⊢
        replace h8 := h8.tail
        dsimp only at h8 ⊢
        clear h7
        clear d0 d1 d2 d3 d4 hxl
        go_wp2_with fail
        refine (look_h h8 k).mono ?_
        rintro r w9 ⟨rfl, h9⟩
        rw [(unhide E).2.2]
        unfold GotS.cs
        dsimp only
        clear h8
        have h10 := h9.new #[.bool false, .int .u8 (wantN (maskB ys) y.at_.toNat y.size.toNat), .int .u64 (rdM (memB ys) y.at_.toNat y.size.toNat)] 37
        obtain ⟨kg, hkg⟩ : ∃ k, w9.heap.size = k := ⟨_, rfl⟩
        rw [hkg] at h10
        have Hkg := hide hkg
        have H10 := hide h10
        clear h9 h10 hkg
        go_upto_region 24 with fail
        rw [unhide Hkg]
        have h10 := unhide H10
        clear H10 Hkg
        generalize w9.alloc (.cells #[.bool false, .int .u8 (wantN (maskB ys) y.at_.toNat y.size.toNat), .int .u64 (rdM (memB ys) y.at_.toNat y.size.toNat)] 37) = wx at h10 ⊢
        obtain ⟨a, ha⟩ : ∃ a : Nat, y.at_ = a := Int.eq_ofNat_of_zero_le hy.a0
        obtain ⟨z, hz⟩ : ∃ z : Nat, y.size = z := Int.eq_ofNat_of_zero_le (by have := hy.sz; omega)
        have ha' : y.at_.toNat = a := by omega
        have hz' : y.size.toNat = z := by omega
        have haz : a + z ≤ 64 ∧ z ≤ 8 := by have := hy.a1; have := hy.sz; omega
        obtain ⟨d0, d1, d2, d3, d4⟩ := cells5 h10.f3.heap
        have hxl := lt_of_heap' h10.f3.heap
        rw [ha] at d1
        rw [hz] at d2
        have hcm : ∀ j, j < 64 → wx.cell? ⟨k2, j, none⟩ = some (.int .u8 (maskB ys j)) := fun j hj => by
          have := (h10.f5.slw.at_ (j := j) (by omega)).2.1
          rw [Nat.zero_add, bytes_get _ _ hj] at this
          exact this
        have hlm := (h10.f5.slw.at_ (j := 0) (by omega)).1
        rw [ha', hz', ha, hz] at h10
        have H10 := hide h10
        have HC := hide hcm
        have HAZ := hide (And.intro ha' hz')
        clear h10 hcm ha hz ha' hz'
        go_wp2
        go_loopw [18, 19] (fun s18 s19 wr => ∃ j : Nat, s18 = .int .u8 (wantN (maskB ys) a j) ∧ s19 = .int .i64 j ∧ j ≤ z ∧ wr = wx) (fun _ s19 _ => z - (intOf s19).toNat)
        case atStart => exact ⟨0, rfl, rfl, Nat.zero_le _, rfl⟩
        case round =>
          obtain ⟨j, rfl, rfl, hj, rfl⟩ := hrel
          by_cases hjz : j < z
          · have hc := unhide HC (a + j) (by omega)
            have hwi : IntKind.i64.wrap ((a : Int) + (j : Int)) = ((a + j : Nat) : Int) := by rw [wrap_i64]; split <;> omega
            have hs := shl8 j (by omega)
            have hpw : (2 : Int) ^ j < 256 ∧ 0 ≤ (2 : Int) ^ j := by
              have : j = 0 ∨ j = 1 ∨ j = 2 ∨ j = 3 ∨ j = 4 ∨ j = 5 ∨ j = 6 ∨ j = 7 := by omega
              rcases this with h | h | h | h | h | h | h | h <;> (rw [h]; decide)
            have HB := hide (wantN_bd (maskB ys) a j)
            have W := hide (wantN_succ (maskB ys) a j)
            by_cases hp : 0 < maskB ys (a + j)
            · have W2 := hide ((unhide W).trans (by rw [if_pos hp]))
              go_wp2
              exact ⟨⟨j + 1, by rw [unhide W2, orb8 _ _ (by omega) (unhide HB).1 (unhide HB).2], by go_num, by omega, trivial⟩, by simp [intOf]; omega⟩
            · have W2 := hide ((unhide W).trans (by rw [if_neg hp]))
              go_wp2
              exact ⟨⟨j + 1, by rw [unhide W2, Int.add_zero], by go_num, by omega, trivial⟩, by simp [intOf]; omega⟩
          · obtain rfl : j = z := by omega
            go_upto_region 29 with fail
            have h10 := unhide H10
            clear HC H10 d0 d1 d2 d3 d4 hxl hlm
            refine wp_region_F (fun w_ => Heap w w_ [HP.blk kg #[.bool false, .int .u8 (wantN (maskB ys) a j), .int .u64 (rdM (memB ys) a j)] 37, HP.q b ⟨entsB ys ++ [placeE (Ent.fresh (k : Int) y.pc false) (a : Int) (j : Int)], H0⟩, HP.blk kb #[.bool y.store, .int .i64 (a : Int), .int .i64 (j : Int), .int .u64 y.v, .int .u64 y.pc] 54, HP.slw (.slice (some ⟨k1, 0, none⟩) 64 64) 1 64 (bytes 64 (memB ys)), HP.slw (.slice (some ⟨k2, 0, none⟩) 64 64) 1 64 (bytes 64 (maskB ys)), HP.blk b3 #[.bool x.store, .int .i64 x.at_, .int .i64 x.size, .int .u64 x.v, .int .u64 x.pc] 54]) (fun _ _ => True) (fun k_ v_ w_ => match k_ with
                | 0 => v_ = .bool true
                | 1 => v_ = .bool true
                | 2 => v_ = .bool true
                | 3 => v_ = .bool true
                | 4 => v_ = .bool true
                | 5 => v_ = .pointer (some ⟨kg, 0, none⟩)
                | 6 => v_ = .bool false
                | 7 => v_ = .bool true
                | 8 => v_ = .bool true
                | 9 => v_ = .bool true
                | 10 => v_ = .pointer (some ⟨kg, 1, none⟩)
                | 11 => v_ = .int .u8 (wantN (maskB ys) a j)
                | 12 => v_ = .int .u8 (wantN (maskB ys) a j)
                | 13 => v_ = .bool true
                | 14 => v_ = .bool true
                | 15 => v_ = .bool true
                | 16 => v_ = .pointer (some ⟨kg, 2, none⟩)
                | 17 => v_ = .int .u64 (rdM (memB ys) a j)
                | 18 => v_ = .slice (some ⟨k1, 0, none⟩) 64 64
                | 19 => v_ = .pointer (some ⟨kb, 1, none⟩)
                | 20 => v_ = .int .i64 (a : Int)
                | 21 => v_ = .pointer (some ⟨kb, 2, none⟩)
                | 22 => v_ = .int .i64 (j : Int)
                | 23 => v_ = .int .u64 (rdM (memB ys) a j)
                | 24 => v_ = .bool true
                | 25 => v_ = .bool true
                | _ => v_ = .bool true) fol (by kernel_rfl) ?_ ?_ ?_ ?_
            · exact h10.drew
            · intro k_ v_ w_ w2_ h1 hg
              split at h1 <;> exact h1
            · intro vals
              show wpG _ _ _ _ _ _ 0 (_ :: _) _
              refine wpG_cons (gval (.bool true) (fun _ => trivial) fun w_ hJ hd => ?_) ?_
              · exact ⟨by kernel_rfl, by kernel_rfl, rfl⟩
              refine wpG_cons (gval (.bool true) (fun _ => trivial) fun w_ hJ hd => ?_) ?_
              · have e0 : vals 0 = _ := hd 0 (by decide) (by kernel_rfl)
                rw [e0]
                exact ⟨by kernel_rfl, by kernel_rfl, rfl⟩
              refine wpG_cons (gval (.bool true) (fun _ => trivial) fun w_ hJ hd => ?_) ?_
              · have e1 : vals 1 = _ := hd 1 (by decide) (by kernel_rfl)
                rw [e1]
                exact ⟨by kernel_rfl, by kernel_rfl, rfl⟩
              refine wpG_cons (gval (.bool true) (fun _ => trivial) fun w_ hJ hd => ?_) ?_
              · have e1 : vals 1 = _ := hd 1 (by decide) (by kernel_rfl)
                have e2 : vals 2 = _ := hd 2 (by decide) (by kernel_rfl)
                rw [e1, e2]
                exact ⟨by kernel_rfl, by kernel_rfl, rfl⟩
              refine wpG_cons (gval (.bool true) (fun _ => trivial) fun w_ hJ hd => ?_) ?_
              · have e3 : vals 3 = _ := hd 3 (by decide) (by kernel_rfl)
                rw [e3]
                exact ⟨by kernel_rfl, by kernel_rfl, rfl⟩
              refine wpG_cons (gval (.pointer (some ⟨kg, 0, none⟩)) (fun _ => trivial) fun w_ hJ hd => ?_) ?_
              · have e4 : vals 4 = _ := hd 4 (by decide) (by kernel_rfl)
                rw [e4]
                exact ⟨by kernel_rfl, by kernel_rfl, rfl⟩
              refine wpG_cons (gop (Instr.loadAt 4 (.pointer (some ⟨kg, 0, none⟩))) (.bool false) (fun _ => trivial) fun w_ hJ hd => ?_) ?_
              · have e4 : vals 4 = _ := hd 4 (by decide) (by kernel_rfl)
                have e5 : vals 5 = _ := hd 5 (by decide) (by kernel_rfl)
                rw [e4, e5]
                exact ⟨by kernel_rfl, by kernel_rfl, run_load1 (by kernel_rfl) ((cells3f hJ.heap).1), rfl⟩
              refine wpG_cons (gval (.bool true) (fun _ => trivial) fun w_ hJ hd => ?_) ?_
              · have e4 : vals 4 = _ := hd 4 (by decide) (by kernel_rfl)
                have e6 : vals 6 = _ := hd 6 (by decide) (by kernel_rfl)
                rw [e4, e6]
                exact ⟨by kernel_rfl, by kernel_rfl, rfl⟩
              refine wpG_cons (gval (.bool true) (fun _ => trivial) fun w_ hJ hd => ?_) ?_
              · have e4 : vals 4 = _ := hd 4 (by decide) (by kernel_rfl)
                have e7 : vals 7 = _ := hd 7 (by decide) (by kernel_rfl)
                rw [e4, e7]
                exact ⟨by kernel_rfl, by kernel_rfl, rfl⟩
              refine wpG_cons (gval (.bool true) (fun _ => trivial) fun w_ hJ hd => ?_) ?_
              · have e8 : vals 8 = _ := hd 8 (by decide) (by kernel_rfl)
                rw [e8]
                exact ⟨by kernel_rfl, by kernel_rfl, rfl⟩
              refine wpG_cons (gval (.pointer (some ⟨kg, 1, none⟩)) (fun _ => trivial) fun w_ hJ hd => ?_) ?_
              · have e9 : vals 9 = _ := hd 9 (by decide) (by kernel_rfl)
                rw [e9]
                exact ⟨by kernel_rfl, by kernel_rfl, rfl⟩
              refine wpG_cons (gop (Instr.loadAt 5 (.pointer (some ⟨kg, 1, none⟩))) (.int .u8 (wantN (maskB ys) a j)) (fun _ => trivial) fun w_ hJ hd => ?_) ?_
              · have e9 : vals 9 = _ := hd 9 (by decide) (by kernel_rfl)
                have e10 : vals 10 = _ := hd 10 (by decide) (by kernel_rfl)
                rw [e9, e10]
                exact ⟨by kernel_rfl, by kernel_rfl, run_load1 (by kernel_rfl) ((cells3f hJ.heap).2.1), rfl⟩
              refine wpG_cons (gval (.int .u8 (wantN (maskB ys) a j)) (fun _ => trivial) fun w_ hJ hd => ?_) ?_
              · have e9 : vals 9 = _ := hd 9 (by decide) (by kernel_rfl)
                rw [e9]
                exact ⟨by kernel_rfl, by kernel_rfl, rfl⟩
              refine wpG_cons (gop (binOp .eql 5 (.int .u8 (wantN (maskB ys) a j)) (.int .u8 (wantN (maskB ys) a j))) (.bool true) (fun _ => trivial) fun w_ hJ hd => ?_) ?_
              · have e9 : vals 9 = _ := hd 9 (by decide) (by kernel_rfl)
                have e11 : vals 11 = _ := hd 11 (by decide) (by kernel_rfl)
                have e12 : vals 12 = _ := hd 12 (by decide) (by kernel_rfl)
                rw [e9, e11, e12]
                exact ⟨by kernel_rfl, by kernel_rfl, eq8 _ w_, rfl⟩
              refine wpG_cons (gval (.bool true) (fun _ => trivial) fun w_ hJ hd => ?_) ?_
              · have e9 : vals 9 = _ := hd 9 (by decide) (by kernel_rfl)
                have e13 : vals 13 = _ := hd 13 (by decide) (by kernel_rfl)
                rw [e9, e13]
                exact ⟨by kernel_rfl, by kernel_rfl, rfl⟩
              refine wpG_cons (gval (.bool true) (fun _ => trivial) fun w_ hJ hd => ?_) ?_
              · have e14 : vals 14 = _ := hd 14 (by decide) (by kernel_rfl)
                rw [e14]
                exact ⟨by kernel_rfl, by kernel_rfl, rfl⟩
              refine wpG_cons (gval (.pointer (some ⟨kg, 2, none⟩)) (fun _ => trivial) fun w_ hJ hd => ?_) ?_
              · have e15 : vals 15 = _ := hd 15 (by decide) (by kernel_rfl)
                rw [e15]
                exact ⟨by kernel_rfl, by kernel_rfl, rfl⟩
              refine wpG_cons (gop (Instr.loadAt 28 (.pointer (some ⟨kg, 2, none⟩))) (.int .u64 (rdM (memB ys) a j)) (fun _ => trivial) fun w_ hJ hd => ?_) ?_
              · have e15 : vals 15 = _ := hd 15 (by decide) (by kernel_rfl)
                have e16 : vals 16 = _ := hd 16 (by decide) (by kernel_rfl)
                rw [e15, e16]
                exact ⟨by kernel_rfl, by kernel_rfl, run_load1 (by kernel_rfl) ((cells3f hJ.heap).2.2.1), rfl⟩
              refine wpG_cons (gval (.slice (some ⟨k1, 0, none⟩) 64 64) (fun _ => trivial) fun w_ hJ hd => ?_) ?_
              · have e15 : vals 15 = _ := hd 15 (by decide) (by kernel_rfl)
                rw [e15]
                exact ⟨by kernel_rfl, by kernel_rfl, rfl⟩
              refine wpG_cons (gval (.pointer (some ⟨kb, 1, none⟩)) (fun _ => trivial) fun w_ hJ hd => ?_) ?_
              · have e15 : vals 15 = _ := hd 15 (by decide) (by kernel_rfl)
                rw [e15]
                exact ⟨by kernel_rfl, by kernel_rfl, rfl⟩
              refine wpG_cons (gop (Instr.loadAt 3 (.pointer (some ⟨kb, 1, none⟩))) (.int .i64 (a : Int)) (fun _ => trivial) fun w_ hJ hd => ?_) ?_
              · have e15 : vals 15 = _ := hd 15 (by decide) (by kernel_rfl)
                have e19 : vals 19 = _ := hd 19 (by decide) (by kernel_rfl)
                rw [e15, e19]
                exact ⟨by kernel_rfl, by kernel_rfl, run_load1 (by kernel_rfl) ((cells5 hJ.f3.heap).2.1), rfl⟩
              refine wpG_cons (gval (.pointer (some ⟨kb, 2, none⟩)) (fun _ => trivial) fun w_ hJ hd => ?_) ?_
              · have e15 : vals 15 = _ := hd 15 (by decide) (by kernel_rfl)
                rw [e15]
                exact ⟨by kernel_rfl, by kernel_rfl, rfl⟩
              refine wpG_cons (gop (Instr.loadAt 3 (.pointer (some ⟨kb, 2, none⟩))) (.int .i64 (j : Int)) (fun _ => trivial) fun w_ hJ hd => ?_) ?_
              · have e15 : vals 15 = _ := hd 15 (by decide) (by kernel_rfl)
                have e21 : vals 21 = _ := hd 21 (by decide) (by kernel_rfl)
                rw [e15, e21]
                exact ⟨by kernel_rfl, by kernel_rfl, run_load1 (by kernel_rfl) ((cells5 hJ.f3.heap).2.2.1), rfl⟩
              refine wpG_cons (gcall 32 #[.slice (some ⟨k1, 0, none⟩) 64 64, .int .i64 (a : Int), .int .i64 (j : Int)] fun w_ hJ hd => ?_) ?_
              · have e15 : vals 15 = _ := hd 15 (by decide) (by kernel_rfl)
                have e18 : vals 18 = _ := hd 18 (by decide) (by kernel_rfl)
                have e20 : vals 20 = _ := hd 20 (by decide) (by kernel_rfl)
                have e22 : vals 22 = _ := hd 22 (by decide) (by kernel_rfl)
                rw [e15, e18, e20, e22]
                exact ⟨by kernel_rfl, by kernel_rfl, (read_h (memB_bm ys) (Heap.f4 hJ) a j haz.2 haz.1).mono fun e w' ⟨hr, hw⟩ => ⟨_, hr, hw.b4, trivial, rfl⟩⟩
              refine wpG_cons (gop (binOp .eql 28 (.int .u64 (rdM (memB ys) a j)) (.int .u64 (rdM (memB ys) a j))) (.bool true) (fun _ => trivial) fun w_ hJ hd => ?_) ?_
              · have e15 : vals 15 = _ := hd 15 (by decide) (by kernel_rfl)
                have e17 : vals 17 = _ := hd 17 (by decide) (by kernel_rfl)
                have e23 : vals 23 = _ := hd 23 (by decide) (by kernel_rfl)
                rw [e15, e17, e23]
                exact ⟨by kernel_rfl, by kernel_rfl, eq64 _ w_, rfl⟩
              refine wpG_cons (gval (.bool true) (fun _ => trivial) fun w_ hJ hd => ?_) ?_
              · have e15 : vals 15 = _ := hd 15 (by decide) (by kernel_rfl)
                have e24 : vals 24 = _ := hd 24 (by decide) (by kernel_rfl)
                rw [e15, e24]
                exact ⟨by kernel_rfl, by kernel_rfl, rfl⟩
              refine wpG_cons (gval (.bool true) (fun _ => trivial) fun w_ hJ hd => ?_) wpG_nil
              · have e25 : vals 25 = _ := hd 25 (by decide) (by kernel_rfl)
                rw [e25]
                exact ⟨by kernel_rfl, by kernel_rfl, rfl⟩
            · intro vals w_ hJ hf
              have e0 : vals 0 = _ := hf 0 (by decide)
              have e1 : vals 1 = _ := hf 1 (by decide)
              have e2 : vals 2 = _ := hf 2 (by decide)
              have e3 : vals 3 = _ := hf 3 (by decide)
              have e4 : vals 4 = _ := hf 4 (by decide)
              have e5 : vals 5 = _ := hf 5 (by decide)
              have e6 : vals 6 = _ := hf 6 (by decide)
              have e7 : vals 7 = _ := hf 7 (by decide)
              have e8 : vals 8 = _ := hf 8 (by decide)
              have e9 : vals 9 = _ := hf 9 (by decide)
              have e10 : vals 10 = _ := hf 10 (by decide)
              have e11 : vals 11 = _ := hf 11 (by decide)
              have e12 : vals 12 = _ := hf 12 (by decide)
              have e13 : vals 13 = _ := hf 13 (by decide)
              have e14 : vals 14 = _ := hf 14 (by decide)
              have e15 : vals 15 = _ := hf 15 (by decide)
              have e16 : vals 16 = _ := hf 16 (by decide)
              have e17 : vals 17 = _ := hf 17 (by decide)
              have e18 : vals 18 = _ := hf 18 (by decide)
              have e19 : vals 19 = _ := hf 19 (by decide)
              have e20 : vals 20 = _ := hf 20 (by decide)
              have e21 : vals 21 = _ := hf 21 (by decide)
              have e22 : vals 22 = _ := hf 22 (by decide)
              have e23 : vals 23 = _ := hf 23 (by decide)
              have e24 : vals 24 = _ := hf 24 (by decide)
              have e25 : vals 25 = _ := hf 25 (by decide)
              have e26 : vals 26 = _ := hf 26 (by decide)
              simp only [fillG, Nat.zero_add, Nat.reduceAdd, e0, e1, e2, e3, e4, e5, e6, e7, e8, e9, e10, e11, e12, e13, e14, e15, e16, e17, e18, e19, e20, e21, e22, e23, e24, e25, e26, Act.put, List.setIfInBounds_toArray, List.set_cons_succ, List.set_cons_zero]
              clear e0 e1 e2 e3 e4 e5 e6 e7 e8 e9 e10 e11 e12 e13 e14 e15 e16 e17 e18 e19 e20 e21 e22 e23 e24 e25 e26 hf
              go_wp2
              go_ret
              exact ⟨rfl, hJ.below⟩
end Go.Proofs.Ytdmkgomcomcfhaa
