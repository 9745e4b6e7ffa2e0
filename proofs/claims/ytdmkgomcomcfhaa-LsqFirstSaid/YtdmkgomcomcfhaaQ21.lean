/- Layer 23: LsqFirst: the plain law and the walk. -/
import Derived.Test.YtdmkgomcomcfhaaQ20
import Derived.Test.YtdmkgomcomcfhaaRegion1
namespace Go.Proofs.Ytdmkgomcomcfhaa
open Go.RowKit

section
variable {P : Program} {ops : Array Oper} {K : Bool → World → Prop} {i1 : Nat} {o : Oper} {a : Act}
/-- The event is a call. -/
theorem j1ecall (f : FuncId) (args : Array Value) (c : Value) (h : ∀ w, K false w → Region.wanted o (yielded ops a.tmps) = true ∧ (execOp a.eval o).run P w = .ok (.enter f args) w ∧ Calls P f args w fun e w' => e = .returned c ∧ K true w') : JStep P ops (J1 i1 K) i1 o a c := by
  refine ⟨fun listed w hJ hr => ?_⟩
  obtain ⟨hun, _⟩ := mem_ready.1 hr
  have hn := hJ.now
  rw [getD_both' hun] at hn
  obtain ⟨e1, e2, e3⟩ := h w hn
  rw [if_pos e1]
  refine (jup_call e2 e3).imp fun w' hK => ⟨?_⟩
  rw [getD_set_at hun]; exact hK
end
theorem ne64 (x : Int) (w : World) : (binOp .neq 28 (.int .u64 x) (.int .u64 x)).run Try.prog w = .ok (.bool false) w := by
  show Result.ok (Value.bool (x != x)) w = _
  simp
theorem Heap.b5 {w0 w : World} {A B C D E : HP} {L : List HP} (h : Heap w0 w (A :: B :: C :: D :: E :: L)) : Heap w0 w (B :: C :: D :: E :: A :: L) := h.f5.f5.f5.f5
theorem pop_ready {e : Ent} {l : List Ent} {h : Hb} (hr : e.ready = true) : popQ ⟨e :: l, h⟩ = ((e.tag, true), ⟨l, h⟩) := by
  unfold popQ
  dsimp only
  rw [hr]
  rfl
/-- The operations of a program, all at once. -/
theorem op_fun {w : World} {A : Option Addr} {n : Nat} (hS : SlArg [none, some .i64, some .i64, some .u64, some .u64] w A n) : ∃ X : Nat → OpS, ∀ k, k < n → (X k).ok ∧ ∀ wr, Below w.heap.size w wr → ∃ ab ao, A = some ⟨ab, ao, none⟩ ∧
    (wr.cell? ⟨ab, ao + k * 5, none⟩ = some (.bool (X k).store) ∧ wr.cell? ⟨ab, ao + k * 5 + 1, none⟩ = some (.int .i64 (X k).at_) ∧ wr.cell? ⟨ab, ao + k * 5 + 2, none⟩ = some (.int .i64 (X k).size) ∧ wr.cell? ⟨ab, ao + k * 5 + 3, none⟩ = some (.int .u64 (X k).v) ∧
     wr.cell? ⟨ab, ao + k * 5 + 4, none⟩ = some (.int .u64 (X k).pc)) ∧ ab < wr.heap.size := by
  have h1 : ∀ k, ∃ x : OpS, k < n → x.ok ∧ ∀ wr, Below w.heap.size w wr → ∃ ab ao, A = some ⟨ab, ao, none⟩ ∧
    (wr.cell? ⟨ab, ao + k * 5, none⟩ = some (.bool x.store) ∧ wr.cell? ⟨ab, ao + k * 5 + 1, none⟩ = some (.int .i64 x.at_) ∧ wr.cell? ⟨ab, ao + k * 5 + 2, none⟩ = some (.int .i64 x.size) ∧ wr.cell? ⟨ab, ao + k * 5 + 3, none⟩ = some (.int .u64 x.v) ∧
     wr.cell? ⟨ab, ao + k * 5 + 4, none⟩ = some (.int .u64 x.pc)) ∧ ab < wr.heap.size := by
    intro k
    by_cases hk : k < n
    · obtain ⟨ab, ao, hA, x, hx, ⟨c0, c1, c2, c3, c4⟩, hab⟩ := op_at hS (Below.refl _ _) hk
      refine ⟨x, fun _ => ⟨hx, fun wr hb => ⟨ab, ao, hA, ?_, Nat.lt_of_lt_of_le hab hb.size⟩⟩⟩
      have up : ∀ {o : Nat} {v : Value}, w.cell? ⟨ab, o, none⟩ = some v → wr.cell? ⟨ab, o, none⟩ = some v := fun h => (hb.cell (p := ⟨ab, _, none⟩) hab).trans h
      exact ⟨up c0, up c1, up c2, up c3, up c4⟩
    · exact ⟨⟨false, 0, 0, 0, 0⟩, fun h => absurd h hk⟩
  exact ⟨fun k => (h1 k).choose, fun k hk => (h1 k).choose_spec hk⟩
def EF (X : Nat → OpS) (k : Nat) : Ent := Ent.fresh (k : Int) (X k).pc (X k).store
theorem range_cons (X : Nat → OpS) {k i : Nat} (h : k ≤ i) : (List.range' k (i + 1 - k)).map (EF X) = EF X k :: (List.range' (k + 1) (i - k)).map (EF X) := by
  rw [show i + 1 - k = (i - k) + 1 by omega, List.range'_succ]
  rfl
theorem first_push (X : Nat → OpS) {i r : Nat} (hr : i % 3 = r) {y : OpS} {st : Bool} (hp : (X i).pc = y.pc) (hs : (X i).store = st) :
    comeQ ⟨(List.range' (i - r) r).map (EF X), H0⟩ (Ent.fresh (i : Int) y.pc st) = ⟨(List.range' (i - r) (r + 1)).map (EF X), H0⟩ ∧ mayCome ((List.range' (i - r) r).map (EF X)) (i : Int) st = true := by
  have ht : ∀ e ∈ (List.range' (i - r) r).map (EF X), e.tag < (i : Int) := by
    intro e he
    obtain ⟨j, hj, rfl⟩ := List.mem_map.1 he
    have := List.mem_range'_1.1 hj
    show (j : Int) < i
    omega
  have hl : ((List.range' (i - r) r).map (EF X)).length = r := by simp
  have hc := cnt ((List.range' (i - r) r).map (EF X))
  have hn : if st then nSt ((List.range' (i - r) r).map (EF X)) < 8 else nLd ((List.range' (i - r) r).map (EF X)) < 8 := by split <;> omega
  refine ⟨(come_ok (q := ⟨(List.range' (i - r) r).map (EF X), H0⟩) (e := Ent.fresh (i : Int) y.pc st) ht hn).trans ?_, mayCome_ok ht hn⟩
  dsimp only
  rw [List.range'_1_concat, List.map_append, show i - r + r = i by omega]
  show _ = Qs.mk (_ ++ [Ent.fresh (i : Int) (X i).pc (X i).store]) H0
  rw [hp, hs]
theorem first_store {y : OpS} (hy : YOk y) {R : List Ent} (hR : ∀ x ∈ R, x.read = false) (k : Nat) :
    whereQ ⟨Ent.fresh (k : Int) y.pc true :: R, H0⟩ (k : Int) y.at_ y.size = (([], true), ⟨(placeE (Ent.fresh (k : Int) y.pc true) y.at_ y.size) :: R, H0⟩) ∧ dataN ((placeE (Ent.fresh (k : Int) y.pc true) y.at_ y.size) :: R) (k : Int) = some 0 ∧ dataQ ⟨(placeE (Ent.fresh (k : Int) y.pc true) y.at_ y.size) :: R, H0⟩ (k : Int) y.v = ⟨({ (placeE (Ent.fresh (k : Int) y.pc true) y.at_ y.size) with data := true, v := y.v } : Ent) :: R, H0⟩ :=
  ⟨where_mid (l := []) (r := R) (e := Ent.fresh (k : Int) y.pc true) (h := H0) (by simp) rfl (okSize_iff.2 hy.sz) hy.al (fun _ => hR), (data_mid (l := []) (r := R) (e := (placeE (Ent.fresh (k : Int) y.pc true) y.at_ y.size)) (h := H0) (by simp) rfl rfl y.v).1, (data_mid (l := []) (r := R) (e := (placeE (Ent.fresh (k : Int) y.pc true) y.at_ y.size)) (h := H0) (by simp) rfl rfl y.v).2⟩
theorem got_front (l : List Ent) (e : Ent) (i : Nat) : gotN l e 0 false i = ⟨false, 0, 0⟩ := by
  induction i with
  | zero => rfl
  | succ i ih => rw [gotN_up, ih]; rfl
theorem first_load {y : OpS} (hy : YOk y) {R : List Ent} (hR : ∀ x ∈ R, x.read = false) (k : Nat) :
    whereQ ⟨Ent.fresh (k : Int) y.pc false :: R, H0⟩ (k : Int) y.at_ y.size = (([], true), ⟨(placeE (Ent.fresh (k : Int) y.pc false) y.at_ y.size) :: R, H0⟩) ∧ lookQ ⟨(placeE (Ent.fresh (k : Int) y.pc false) y.at_ y.size) :: R, H0⟩ (k : Int) = (⟨false, 0, 0⟩, true) ∧ doneQ ⟨(placeE (Ent.fresh (k : Int) y.pc false) y.at_ y.size) :: R, H0⟩ (k : Int) = (true, ⟨({ (placeE (Ent.fresh (k : Int) y.pc false) y.at_ y.size) with read := true } : Ent) :: R, H0⟩) := by
  have hl : lookQ ⟨(placeE (Ent.fresh (k : Int) y.pc false) y.at_ y.size) :: R, H0⟩ (k : Int) = (⟨false, 0, 0⟩, true) := by
    refine (look_mid (l := []) (r := R) (e := (placeE (Ent.fresh (k : Int) y.pc false) y.at_ y.size)) (h := H0) (by simp) rfl rfl).trans ?_
    unfold lookG
    rw [show waitN ⟨[] ++ (placeE (Ent.fresh (k : Int) y.pc false) y.at_ y.size) :: R, H0⟩ (placeE (Ent.fresh (k : Int) y.pc false) y.at_ y.size) ([] : List Ent).length = false from rfl]
    dsimp only [List.length_nil]
    simp only [got_front]
    rfl
  exact ⟨where_mid (l := []) (r := R) (e := Ent.fresh (k : Int) y.pc false) (h := H0) (by simp) rfl (okSize_iff.2 hy.sz) hy.al (fun _ => hR), hl, done_mid (l := []) (r := R) (e := (placeE (Ent.fresh (k : Int) y.pc false) y.at_ y.size)) (h := H0) (by simp) hl rfl⟩

set_option maxRecDepth 100000 in
set_option maxHeartbeats 8000000 in
theorem first_walk (A : Option Addr) (n cap : Nat) (w : World) (hS : SlArg [none, some .i64, some .i64, some .u64, some .u64] w A n) (hn : n ≤ 4398046511104) :
    Calls Try.prog 5 #[.slice A n cap] w fun e w' => e = .returned (.bool true) ∧ Below w.heap.size w w' := by
  obtain ⟨X, hX⟩ := op_fun hS
  have HX := hide hX
  clear hS hX
  go_enter Try.func5, Try.ntmps5
  go_wp2_with fail
  refine (fixed_h (Heap.nil w)).mono ?_
  rintro r w1 ⟨rfl, h1⟩
  go_wp2_with fail
  refine (new_h h1).mono ?_
  rintro r w2 ⟨b, rfl, h2⟩
  clear h1
  unfold ptr
  have h3 := (h2.newS (bytes 64 fun _ => 0) 5 64 1 (bytes_len _ _)).newS (bytes 64 fun _ => 0) 5 64 1 (bytes_len _ _)
  obtain ⟨k1, hk1⟩ : ∃ k, w2.heap.size = k := ⟨_, rfl⟩
  rw [show (w2.alloc (.cells (bytes 64 fun _ => 0).toArray 5)).heap.size = w2.heap.size + 1 by simp, hk1] at h3
  have HK1 := hide hk1
  have hmk := mk52
  have H3 := hide h3
  clear hk1 h2 h3
  go_upto_region 6 with fail
  rw [unhide HK1]
  clear hmk
  obtain ⟨k2, hk2⟩ : ∃ k, k1 + 1 = k := ⟨_, rfl⟩
  rw [hk2] at H3 ⊢
  have h4 : Heap w _ [HP.q b Q0, HP.slw (.slice (some ⟨k1, 0, none⟩) 64 64) 1 64 (bytes 64 fun _ => 0), HP.slw (.slice (some ⟨k2, 0, none⟩) 64 64) 1 64 (bytes 64 fun _ => 0)] := (unhide H3).f2.f3
  clear H3 HK1 hk2
  generalize (w2.alloc (.cells (bytes 64 fun _ => 0).toArray 5)).alloc (.cells (bytes 64 fun _ => 0).toArray 5) = w4 at h4 ⊢
  have H4 := hide h4
  clear h4
  go_wp2
  go_loopw [6] (fun s6 wr => ∃ (i : Nat) (M : Nat → Int) (l : List Ent), s6 = .int .i64 i ∧ i ≤ n ∧ BM M ∧ (i < n → l = (List.range' (i - i % 3) (i % 3)).map (EF X)) ∧ Heap w wr [HP.q b ⟨l, H0⟩, HP.slw (.slice (some ⟨k1, 0, none⟩) 64 64) 1 64 (bytes 64 M), HP.slw (.slice (some ⟨k2, 0, none⟩) 64 64) 1 64 (bytes 64 M)]) (fun s6 _ => n - (intOf s6).toNat)
  case atStart => exact ⟨0, _, [], rfl, Nat.zero_le _, fun _ => by decide, fun _ => rfl, unhide H4⟩
  case round =>
    obtain ⟨i, M, l, rfl, hin, hM, hl, hJ⟩ := hrel
    clear H4
    by_cases hlt : i < n
    · have hl := hl hlt
      obtain ⟨r, hr⟩ : ∃ r, i % 3 = r := ⟨_, rfl⟩
      rw [hr] at hl
      subst hl
      have hr3 : r < 3 ∧ r ≤ i := by omega
      have htm : (i : Int).tmod 3 = (r : Int) := by rw [Int.tmod_eq_emod_of_nonneg (by omega)]; omega
      have HR := hide hr
      clear hr
      obtain ⟨wo, rfl⟩ : ∃ wo : World, wo = wr := ⟨_, rfl⟩
      obtain ⟨hz, hat⟩ := unhide HX i hlt
      obtain ⟨ab, ao, rfl, ⟨c0, c1, c2, c3, c4⟩, hab⟩ := hat _ hJ.below
      have HJ := hide hJ
      clear hJ hat
      go_wp2_with fail
      refine (right_y (unhide HJ) (X i) hz).mono ?_
      rintro r_ w5 ⟨y, hyz, hy, rfl, h5⟩
      clear c0 c1 c2 c3 c4 hab HJ hz
      have hypc : (X i).pc = y.pc := by rw [hyz]; rfl
      have hyst : (X i).store = y.store := by rw [hyz]; rfl
      clear hyz
      have h6 := h5.new #[.bool y.store, .int .i64 y.at_, .int .i64 y.size, .int .u64 y.v, .int .u64 y.pc] 54
      obtain ⟨kb, hkb⟩ : ∃ k, w5.heap.size = k := ⟨_, rfl⟩
      rw [hkb] at h6
      have Hkb := hide hkb
      replace h6 := h6.f2
      clear hkb h5

      obtain ⟨d0, d1, d2, d3, d4⟩ := cells5 h6.f2.heap
      have hxl := lt_of_heap' h6.f2.heap
      have hki : -9223372036854775808 ≤ (i : Int) ∧ (i : Int) < 9223372036854775808 := by omega
      have Hki := hide hki
      clear hki
      go_upto_if 35 with fail
      rw [unhide Hkb]
      generalize w5.alloc (.cells #[.bool y.store, .int .i64 y.at_, .int .i64 y.size, .int .u64 y.v, .int .u64 y.pc] 54) = w6 at h6 d0 d1 d2 d3 d4 hxl ⊢
      clear Hkb
      go_cut [41] (fun _ wx => Heap w wx [HP.q b ⟨(List.range' (i - r) (r + 1)).map (EF X), H0⟩, HP.slw (.slice (some ⟨k1, 0, none⟩) 64 64) 1 64 (bytes 64 M), HP.slw (.slice (some ⟨k2, 0, none⟩) 64 64) 1 64 (bytes 64 M)])
      case first =>
        cases hst : (X i).store with
        | true =>
          rw [← hyst, hst]
          rw [← hyst, hst] at h6 d0
          have E := hide (first_push X (i := i) (r := r) (unhide HR) (y := y) (st := true) hypc hst)
          go_wp2_with fail
          refine (store_h h6 i y.pc (unhide Hki) hy.pc).mono ?_
          rintro r_ w7 ⟨rfl, h7⟩
          dsimp only at h7 ⊢
          rw [(unhide E).1] at h7
          rw [(unhide E).2]
          clear h6 d0 d1 d2 d3 d4 hxl
          have h8 := hide h7.f2.tail
          clear h7
          go_wp2
          go_meet
          exact unhide h8
        | false =>
          rw [← hyst, hst]
          rw [← hyst, hst] at h6 d0
          have E := hide (first_push X (i := i) (r := r) (unhide HR) (y := y) (st := false) hypc hst)
          go_wp2_with fail
          refine (load_h h6 i y.pc (unhide Hki) hy.pc).mono ?_
          rintro r_ w7 ⟨rfl, h7⟩
          dsimp only at h7 ⊢
          rw [(unhide E).1] at h7
          rw [(unhide E).2]
          clear h6 d0 d1 d2 d3 d4 hxl
          have h8 := hide h7.f2.tail
          clear h7
          go_wp2
          go_meet
          exact unhide h8
      case rest =>
        clear h6 d0 d1 d2 d3 d4 hxl hypc hyst hy
        have h8 := hcut
        clear hcut
        by_cases hc : r ≠ 2 ∧ i + 1 < n
        · have hb : ((r : Int) != 2) = true := by rw [bne_iff_ne]; omega
          have h2 : i + 1 < n := hc.2
          have HC := hide hc
          have HQ := hide h8
          clear hc h8
          go_wp2
          exact ⟨⟨i + 1, M, _, by go_num, by omega, hM, fun h => by rw [show (i + 1) % 3 = r + 1 by have := (unhide HC).1; have := unhide HR; omega, show i + 1 - (r + 1) = i - r by omega], unhide HQ⟩, by simp [intOf]; omega⟩
        · have hir : i + 1 < n → r = 2 := fun h => by
            by_cases h2 : r = 2
            · exact h2
            · exact absurd ⟨h2, h⟩ hc
          by_cases hb2 : r = 2
          · have hb : ((r : Int) != 2) = false := by rw [hb2]; rfl
            clear hb2 hc
            have HH := hide h8
            have HIR := hide hir
            clear h8 hir
            go_wp2
            go_loopw [8] (fun s8 wr => ∃ (k : Nat) (M : Nat → Int), s8 = .int .i64 k ∧ i - r ≤ k ∧ k ≤ i + 1 ∧ BM M ∧ Heap w wr [HP.q b ⟨(List.range' k (i + 1 - k)).map (EF X), H0⟩, HP.slw (.slice (some ⟨k1, 0, none⟩) 64 64) 1 64 (bytes 64 M), HP.slw (.slice (some ⟨k2, 0, none⟩) 64 64) 1 64 (bytes 64 M)]) (fun s8 _ => i + 1 - (intOf s8).toNat)
            case atStart => exact ⟨i - r, M, by go_num, Nat.le_refl _, by omega, hM, by rw [show i + 1 - (i - r) = r + 1 by omega]; exact unhide HH⟩
            case round =>
              obtain ⟨k, M, rfl, hsk, hk, hM, hJ⟩ := hrel
              clear HH
              by_cases hki : k ≤ i
              · obtain ⟨hz, hat⟩ := unhide HX k (by omega)
                obtain ⟨ab2, ao2, hA2, ⟨c0, c1, c2, c3, c4⟩, hab⟩ := hat _ hJ.below
                injection hA2 with hA2
                injection hA2 with q1 q2
                subst q1 q2
                have HJ := hide hJ
                clear hJ hat
                go_wp2_with fail
                refine (right_y (unhide HJ) (X k) hz).mono ?_
                rintro r_ w5 ⟨y, hyz, hy, rfl, h5⟩
                clear c0 c1 c2 c3 c4 hab HJ hz
                have hypc : (X k).pc = y.pc := by rw [hyz]; rfl
                have hyst : (X k).store = y.store := by rw [hyz]; rfl
                clear hyz
                have h6 := h5.new #[.bool y.store, .int .i64 y.at_, .int .i64 y.size, .int .u64 y.v, .int .u64 y.pc] 54
                obtain ⟨kb, hkb⟩ : ∃ k, w5.heap.size = k := ⟨_, rfl⟩
                rw [hkb] at h6
                have Hkb := hide hkb
                replace h6 := h6.f2
                clear hkb h5

                cases hst : (X k).store with
                | true =>
                  rw [← hyst, hst] at h6 ⊢
                  obtain ⟨d0, d1, d2, d3, d4⟩ := cells5 h6.f2.heap
                  have hxl := lt_of_heap' h6.f2.heap
                  have hw : IntKind.u64.wrap y.at_ = y.at_ := by rw [IntKind.wrap_u64]; have := hy.a0; have := hy.a1; have := hy.sz; omega
                  have HA := hide (show 0 ≤ y.at_ ∧ y.at_ < 18446744073709551616 by have := hy.a0; have := hy.a1; have := hy.sz; omega)
                  have hkk : ((k : Int) != (k : Int)) = false := by simp
                  obtain ⟨R, hRd⟩ : ∃ R, (List.range' (k + 1) (i - k)).map (EF X) = R := ⟨_, rfl⟩
                  have hRR : ∀ x ∈ R, x.read = false := fun x hx => by rw [← hRd] at hx; obtain ⟨j, _, rfl⟩ := List.mem_map.1 hx; rfl
                  rw [range_cons X hki, show EF X k = Ent.fresh (k : Int) y.pc true by rw [← hypc]; unfold EF; rw [hst], hRd] at h6
                  have HRd := hide hRd
                  have E := hide (first_store hy hRR k)
                  clear hRR hRd
                  go_wp2_with fail
                  rw [unhide Hkb]
                  refine (where_h h6 k y.at_ y.size (unhide HA)).mono ?_
                  rintro r w8 ⟨v1, rfl, h8⟩
                  rw [(unhide E).1] at h8 ⊢
                  replace h8 := h8.tail
                  dsimp only at h8 ⊢
                  clear h6
                  clear d0 d1 d2 d3 d4 hxl
                  obtain ⟨d0, d1, d2, d3, d4⟩ := cells5 h8.f2.heap
                  have hxl := lt_of_heap' h8.f2.heap
                  go_wp2_with fail
                  refine (data_h h8 k y.v hy.v).mono ?_
                  rintro r w9 ⟨rfl, h9⟩
                  dsimp only at h9 ⊢
                  rw [(unhide E).2.2] at h9
                  rw [(unhide E).2.1]
                  clear h8
                  have RDY : Hid (popQ ⟨({ (placeE (Ent.fresh (k : Int) y.pc true) y.at_ y.size) with data := true, v := y.v } : Ent) :: R, H0⟩ = (((k : Int), true), ⟨R, H0⟩)) := hide (pop_ready rfl)
                  clear d0 d1 d2 d3 d4 hxl
                  obtain ⟨d0, d1, d2, d3, d4⟩ := cells5 h9.f2.heap
                  have hxl := lt_of_heap' h9.f2.heap
                  go_wp2_with fail
                  refine (pop_h h9).mono ?_
                  rintro r w12 ⟨rfl, h12⟩
                  rw [unhide RDY] at h12 ⊢
                  dsimp only at h12 ⊢
                  clear h9
                  try clear d0 d1 d2 d3 d4 hxl
                  obtain ⟨d0, d1, d2, d3, d4⟩ := cells5 h12.f2.heap
                  have hxl := lt_of_heap' h12.f2.heap
                  go_wp2_with fail
                  refine (write_i h12.f3 hy y.v hy.v).mono ?_
                  rintro r w13 ⟨rfl, h13⟩
                  clear h12
                  clear d0 d1 d2 d3 d4 hxl
                  obtain ⟨d0, d1, d2, d3, d4⟩ := cells5 h13.f3.heap
                  have hxl := lt_of_heap' h13.f3.heap
                  go_wp2_with fail
                  refine (write_i h13.f4 hy y.v hy.v).mono ?_
                  rintro r w14 ⟨rfl, h14⟩
                  clear h13
                  clear d0 d1 d2 d3 d4 hxl
                  have hN := h14.f4.tail.f2.f3
                  have HN := hide hN
                  clear hN h14
                  go_wp2
                  exact ⟨⟨k + 1, wrM M y.at_.toNat y.size.toNat y.v, by go_num, by omega, by omega, wrM_bm hM _ _ _, by rw [show i + 1 - (k + 1) = i - k by omega, unhide HRd]; exact unhide HN⟩, by simp [intOf]; omega⟩
                | false =>
                  rw [← hyst, hst] at h6 ⊢
                  obtain ⟨d0, d1, d2, d3, d4⟩ := cells5 h6.f2.heap
                  have hxl := lt_of_heap' h6.f2.heap
                  have hw : IntKind.u64.wrap y.at_ = y.at_ := by rw [IntKind.wrap_u64]; have := hy.a0; have := hy.a1; have := hy.sz; omega
                  have HA := hide (show 0 ≤ y.at_ ∧ y.at_ < 18446744073709551616 by have := hy.a0; have := hy.a1; have := hy.sz; omega)
                  have hkk : ((k : Int) != (k : Int)) = false := by simp
                  obtain ⟨R, hRd⟩ : ∃ R, (List.range' (k + 1) (i - k)).map (EF X) = R := ⟨_, rfl⟩
                  have hRR : ∀ x ∈ R, x.read = false := fun x hx => by rw [← hRd] at hx; obtain ⟨j, _, rfl⟩ := List.mem_map.1 hx; rfl
                  rw [range_cons X hki, show EF X k = Ent.fresh (k : Int) y.pc false by rw [← hypc]; unfold EF; rw [hst], hRd] at h6
                  have HRd := hide hRd
                  have E := hide (first_load hy hRR k)
                  clear hRR hRd
                  go_wp2_with fail
                  rw [unhide Hkb]
                  refine (where_h h6 k y.at_ y.size (unhide HA)).mono ?_
                  rintro r w8 ⟨v1, rfl, h8⟩
                  rw [(unhide E).1] at h8 ⊢
                  replace h8 := h8.tail
                  dsimp only at h8 ⊢
                  clear h6
                  clear d0 d1 d2 d3 d4 hxl
                  obtain ⟨d0, d1, d2, d3, d4⟩ := cells5 h8.f2.heap
                  have hxl := lt_of_heap' h8.f2.heap
                  go_wp2_with fail
                  refine (look_h h8 k).mono ?_
                  rintro r w9 ⟨rfl, h9⟩
                  rw [(unhide E).2.1]
                  unfold GotS.cs
                  dsimp only
                  clear h8
                  have h10 := h9.new #[.bool false, .int .u8 0, .int .u64 0] 37
                  obtain ⟨kg, hkg⟩ : ∃ k, w9.heap.size = k := ⟨_, rfl⟩
                  rw [hkg] at h10
                  have Hkg := hide hkg
                  replace h10 := h10.f2
                  have H10 := hide h10
                  clear h9 hkg h10 d0 d1 d2 d3 d4 hxl
                  go_upto_region 25 with fail
                  rw [unhide Hkg]
                  have h10 := unhide H10
                  clear H10 Hkg
                  obtain ⟨vals, e0, e1, e2, e3, e4, e5, e6, e7, e8, e9, e10, e11, e12, e13, e14, e15, e16, e17, e18, e19, e20, e21, e22, e23, e24, e25, e26, e27, e28, e29, e30, e31⟩ : ∃ vals : Nat → Value, vals 0 = .bool true ∧ vals 1 = .bool false ∧ vals 2 = .bool false ∧ vals 3 = .pointer (some ⟨kg, 0, none⟩) ∧ vals 4 = .bool false ∧ vals 5 = .bool false ∧ vals 6 = .bool false ∧ vals 7 = .pointer (some ⟨kg, 1, none⟩) ∧ vals 8 = .int .u8 0 ∧ vals 9 = .bool false ∧ vals 10 = .bool false ∧ vals 11 = .bool false ∧ vals 12 = .pointer (some ⟨b, 0, none⟩) ∧ vals 13 = .int .i64 (k : Int) ∧ vals 14 = .bool true ∧ vals 15 = .bool false ∧ vals 16 = .bool false ∧ vals 17 = .bool false ∧ vals 18 = .slice (some ⟨k1, 0, none⟩) 64 64 ∧ vals 19 = .pointer (some ⟨kb, 1, none⟩) ∧ vals 20 = .int .i64 y.at_ ∧ vals 21 = .pointer (some ⟨kb, 2, none⟩) ∧ vals 22 = .int .i64 y.size ∧ vals 23 = .int .u64 (rdM M y.at_.toNat y.size.toNat) ∧ vals 24 = .slice (some ⟨k2, 0, none⟩) 64 64 ∧ vals 25 = .pointer (some ⟨kb, 1, none⟩) ∧ vals 26 = .int .i64 y.at_ ∧ vals 27 = .pointer (some ⟨kb, 2, none⟩) ∧ vals 28 = .int .i64 y.size ∧ vals 29 = .int .u64 (rdM M y.at_.toNat y.size.toNat) ∧ vals 30 = .bool false ∧ vals 31 = .bool false :=
                    ⟨fun k_ => match k_ with
                      | 0 => .bool true
                      | 1 => .bool false
                      | 2 => .bool false
                      | 3 => .pointer (some ⟨kg, 0, none⟩)
                      | 4 => .bool false
                      | 5 => .bool false
                      | 6 => .bool false
                      | 7 => .pointer (some ⟨kg, 1, none⟩)
                      | 8 => .int .u8 0
                      | 9 => .bool false
                      | 10 => .bool false
                      | 11 => .bool false
                      | 12 => .pointer (some ⟨b, 0, none⟩)
                      | 13 => .int .i64 (k : Int)
                      | 14 => .bool true
                      | 15 => .bool false
                      | 16 => .bool false
                      | 17 => .bool false
                      | 18 => .slice (some ⟨k1, 0, none⟩) 64 64
                      | 19 => .pointer (some ⟨kb, 1, none⟩)
                      | 20 => .int .i64 y.at_
                      | 21 => .pointer (some ⟨kb, 2, none⟩)
                      | 22 => .int .i64 y.size
                      | 23 => .int .u64 (rdM M y.at_.toNat y.size.toNat)
                      | 24 => .slice (some ⟨k2, 0, none⟩) 64 64
                      | 25 => .pointer (some ⟨kb, 1, none⟩)
                      | 26 => .int .i64 y.at_
                      | 27 => .pointer (some ⟨kb, 2, none⟩)
                      | 28 => .int .i64 y.size
                      | 29 => .int .u64 (rdM M y.at_.toNat y.size.toNat)
                      | 30 => .bool false
                      | _ => .bool false
                      , rfl, rfl, rfl, rfl, rfl, rfl, rfl, rfl, rfl, rfl, rfl, rfl, rfl, rfl, rfl, rfl, rfl, rfl, rfl, rfl, rfl, rfl, rfl, rfl, rfl, rfl, rfl, rfl, rfl, rfl, rfl, rfl⟩
                  refine wp_region_V (J1 14 (fun a1 w_ => Heap w w_ [HP.q b ⟨(bif a1 then ({ (placeE (Ent.fresh (k : Int) y.pc false) y.at_ y.size) with read := true } : Ent) else (placeE (Ent.fresh (k : Int) y.pc false) y.at_ y.size)) :: R, H0⟩, HP.blk kg #[.bool false, .int .u8 0, .int .u64 0] 37, HP.blk kb #[.bool false, .int .i64 y.at_, .int .i64 y.size, .int .u64 y.v, .int .u64 y.pc] 54, HP.slw (.slice (some ⟨k1, 0, none⟩) 64 64) 1 64 (bytes 64 M), HP.slw (.slice (some ⟨k2, 0, none⟩) 64 64) 1 64 (bytes 64 M)])) vals fol (by kernel_rfl) (J1.start ?_) ?_ ?_
                  · exact h10.drew
                  · show wpV _ _ _ _ 0 (_ :: _) _
                    refine wpV_cons e0 (j1val (by decide) (.bool true) fun a1 w_ hK => ?_) ?_
                    · exact ⟨by kernel_rfl, by kernel_rfl⟩
                    refine wpV_cons e1 (j1val (by decide) (.bool false) fun a1 w_ hK => ?_) ?_
                    · exact ⟨by kernel_rfl, by kernel_rfl⟩
                    refine wpV_cons e2 (j1val (by decide) (.bool false) fun a1 w_ hK => ?_) ?_
                    · exact ⟨by kernel_rfl, by kernel_rfl⟩
                    refine wpV_cons e3 (j1val (by decide) (.pointer (some ⟨kg, 0, none⟩)) fun a1 w_ hK => ?_) ?_
                    · exact ⟨by kernel_rfl, by kernel_rfl⟩
                    refine wpV_cons e4 (j1op (by decide) (Instr.loadAt 4 (.pointer (some ⟨kg, 0, none⟩))) (.bool false) fun a1 w_ hK => ?_) ?_
                    · exact ⟨by kernel_rfl, by kernel_rfl, run_load1 (by kernel_rfl) ((cells3f hK.f2.heap).1)⟩
                    refine wpV_cons e5 (j1val (by decide) (.bool false) fun a1 w_ hK => ?_) ?_
                    · exact ⟨by kernel_rfl, by kernel_rfl⟩
                    refine wpV_cons e6 (j1val (by decide) (.bool false) fun a1 w_ hK => ?_) ?_
                    · exact ⟨by kernel_rfl, by kernel_rfl⟩
                    refine wpV_cons e7 (j1val (by decide) (.pointer (some ⟨kg, 1, none⟩)) fun a1 w_ hK => ?_) ?_
                    · exact ⟨by kernel_rfl, by kernel_rfl⟩
                    refine wpV_cons e8 (j1op (by decide) (Instr.loadAt 5 (.pointer (some ⟨kg, 1, none⟩))) (.int .u8 0) fun a1 w_ hK => ?_) ?_
                    · exact ⟨by kernel_rfl, by kernel_rfl, run_load1 (by kernel_rfl) ((cells3f hK.f2.heap).2.1)⟩
                    refine wpV_cons e9 (j1val (by decide) (.bool false) fun a1 w_ hK => ?_) ?_
                    · exact ⟨by kernel_rfl, by kernel_rfl⟩
                    refine wpV_cons e10 (j1val (by decide) (.bool false) fun a1 w_ hK => ?_) ?_
                    · exact ⟨by kernel_rfl, by kernel_rfl⟩
                    refine wpV_cons e11 (j1val (by decide) (.bool false) fun a1 w_ hK => ?_) ?_
                    · exact ⟨by kernel_rfl, by kernel_rfl⟩
                    refine wpV_cons e12 (j1val (by decide) (.pointer (some ⟨b, 0, none⟩)) fun a1 w_ hK => ?_) ?_
                    · exact ⟨by kernel_rfl, by kernel_rfl⟩
                    refine wpV_cons e13 (j1val (by decide) (.int .i64 (k : Int)) fun a1 w_ hK => ?_) ?_
                    · exact ⟨by kernel_rfl, by kernel_rfl⟩
                    refine wpV_cons e14 (j1ecall 22 #[.pointer (some ⟨b, 0, none⟩), .int .i64 (k : Int)] (.bool true) fun w_ hK => ?_) ?_
                    · exact ⟨by kernel_rfl, by kernel_rfl, by have hK' : Heap w w_ (HP.q b ⟨(placeE (Ent.fresh (k : Int) y.pc false) y.at_ y.size) :: R, H0⟩ :: _) := hK; refine (done_h hK' k).mono fun e w' ⟨hr, hw⟩ => ?_; rw [(unhide E).2.2] at hr hw; exact ⟨hr, hw⟩⟩
                    refine wpV_cons e15 (j1val (by decide) (.bool false) fun a1 w_ hK => ?_) ?_
                    · exact ⟨by kernel_rfl, by kernel_rfl⟩
                    refine wpV_cons e16 (j1val (by decide) (.bool false) fun a1 w_ hK => ?_) ?_
                    · exact ⟨by kernel_rfl, by kernel_rfl⟩
                    refine wpV_cons e17 (j1val (by decide) (.bool false) fun a1 w_ hK => ?_) ?_
                    · exact ⟨by kernel_rfl, by kernel_rfl⟩
                    refine wpV_cons e18 (j1val (by decide) (.slice (some ⟨k1, 0, none⟩) 64 64) fun a1 w_ hK => ?_) ?_
                    · exact ⟨by kernel_rfl, by kernel_rfl⟩
                    refine wpV_cons e19 (j1val (by decide) (.pointer (some ⟨kb, 1, none⟩)) fun a1 w_ hK => ?_) ?_
                    · exact ⟨by kernel_rfl, by kernel_rfl⟩
                    refine wpV_cons e20 (j1op (by decide) (Instr.loadAt 3 (.pointer (some ⟨kb, 1, none⟩))) (.int .i64 y.at_) fun a1 w_ hK => ?_) ?_
                    · exact ⟨by kernel_rfl, by kernel_rfl, run_load1 (by kernel_rfl) ((cells5 hK.f3.heap).2.1)⟩
                    refine wpV_cons e21 (j1val (by decide) (.pointer (some ⟨kb, 2, none⟩)) fun a1 w_ hK => ?_) ?_
                    · exact ⟨by kernel_rfl, by kernel_rfl⟩
                    refine wpV_cons e22 (j1op (by decide) (Instr.loadAt 3 (.pointer (some ⟨kb, 2, none⟩))) (.int .i64 y.size) fun a1 w_ hK => ?_) ?_
                    · exact ⟨by kernel_rfl, by kernel_rfl, run_load1 (by kernel_rfl) ((cells5 hK.f3.heap).2.2.1)⟩
                    refine wpV_cons e23 (j1call (by decide) 32 #[.slice (some ⟨k1, 0, none⟩) 64 64, .int .i64 y.at_, .int .i64 y.size] (.int .u64 (rdM M y.at_.toNat y.size.toNat)) fun a1 w_ hK => ?_) ?_
                    · exact ⟨by kernel_rfl, by kernel_rfl, (read_i hM (Heap.f4 hK) hy).mono fun e w' ⟨hr, hw⟩ => ⟨hr, hw.b4⟩⟩
                    refine wpV_cons e24 (j1val (by decide) (.slice (some ⟨k2, 0, none⟩) 64 64) fun a1 w_ hK => ?_) ?_
                    · exact ⟨by kernel_rfl, by kernel_rfl⟩
                    refine wpV_cons e25 (j1val (by decide) (.pointer (some ⟨kb, 1, none⟩)) fun a1 w_ hK => ?_) ?_
                    · exact ⟨by kernel_rfl, by kernel_rfl⟩
                    refine wpV_cons e26 (j1op (by decide) (Instr.loadAt 3 (.pointer (some ⟨kb, 1, none⟩))) (.int .i64 y.at_) fun a1 w_ hK => ?_) ?_
                    · exact ⟨by kernel_rfl, by kernel_rfl, run_load1 (by kernel_rfl) ((cells5 hK.f3.heap).2.1)⟩
                    refine wpV_cons e27 (j1val (by decide) (.pointer (some ⟨kb, 2, none⟩)) fun a1 w_ hK => ?_) ?_
                    · exact ⟨by kernel_rfl, by kernel_rfl⟩
                    refine wpV_cons e28 (j1op (by decide) (Instr.loadAt 3 (.pointer (some ⟨kb, 2, none⟩))) (.int .i64 y.size) fun a1 w_ hK => ?_) ?_
                    · exact ⟨by kernel_rfl, by kernel_rfl, run_load1 (by kernel_rfl) ((cells5 hK.f3.heap).2.2.1)⟩
                    refine wpV_cons e29 (j1call (by decide) 32 #[.slice (some ⟨k2, 0, none⟩) 64 64, .int .i64 y.at_, .int .i64 y.size] (.int .u64 (rdM M y.at_.toNat y.size.toNat)) fun a1 w_ hK => ?_) ?_
                    · exact ⟨by kernel_rfl, by kernel_rfl, (read_i hM (Heap.f5 hK) hy).mono fun e w' ⟨hr, hw⟩ => ⟨hr, hw.b5⟩⟩
                    refine wpV_cons e30 (j1op (by decide) (binOp .neq 28 (.int .u64 (rdM M y.at_.toNat y.size.toNat)) (.int .u64 (rdM M y.at_.toNat y.size.toNat))) (.bool false) fun a1 w_ hK => ?_) ?_
                    · exact ⟨by kernel_rfl, by kernel_rfl, ne64 _ w_⟩
                    refine wpV_cons e31 (j1val (by decide) (.bool false) fun a1 w_ hK => ?_) wpV_nil
                    · exact ⟨by kernel_rfl, by kernel_rfl⟩
                  · intro w_ hJ2
                    have h11 := hJ2.done (by decide)
                    clear hJ2
                    simp only [cond_true] at h11
                    simp only [fillG, Nat.zero_add, Nat.reduceAdd, e0, e1, e2, e3, e4, e5, e6, e7, e8, e9, e10, e11, e12, e13, e14, e15, e16, e17, e18, e19, e20, e21, e22, e23, e24, e25, e26, e27, e28, e29, e30, e31, Act.put, List.setIfInBounds_toArray, List.set_cons_succ, List.set_cons_zero]
                    clear e0 e1 e2 e3 e4 e5 e6 e7 e8 e9 e10 e11 e12 e13 e14 e15 e16 e17 e18 e19 e20 e21 e22 e23 e24 e25 e26 e27 e28 e29 e30 e31
                    clear h10
                    have RDY : Hid (popQ ⟨({ (placeE (Ent.fresh (k : Int) y.pc false) y.at_ y.size) with read := true } : Ent) :: R, H0⟩ = (((k : Int), true), ⟨R, H0⟩)) := hide (pop_ready rfl)
                    obtain ⟨d0, d1, d2, d3, d4⟩ := cells5 h11.f3.heap
                    have hxl := lt_of_heap' h11.f3.heap
                    go_wp2_with fail
                    refine (pop_h h11).mono ?_
                    rintro r w12 ⟨rfl, h12⟩
                    rw [unhide RDY] at h12 ⊢
                    dsimp only at h12 ⊢
                    clear h11
                    try clear d0 d1 d2 d3 d4 hxl
                    obtain ⟨d0, d1, d2, d3, d4⟩ := cells5 h12.f3.heap
                    have hxl := lt_of_heap' h12.f3.heap
                    have HN := hide h12.f3.tail.f2.tail
                    clear h12
                    go_wp2
                    exact ⟨⟨k + 1, M, by go_num, by omega, by omega, hM, by rw [show i + 1 - (k + 1) = i - k by omega, unhide HRd]; exact unhide HN⟩, by simp [intOf]; omega⟩
              · obtain rfl : k = i + 1 := by omega
                rw [show i + 1 - (i + 1) = 0 by omega] at hJ
                have hJ : Heap w wr [HP.q b ⟨[], H0⟩, HP.slw (.slice (some ⟨k1, 0, none⟩) 64 64) 1 64 (bytes 64 M), HP.slw (.slice (some ⟨k2, 0, none⟩) 64 64) 1 64 (bytes 64 M)] := hJ
                go_wp2_with fail
                refine (count_h hJ).mono ?_
                rintro r_ w6 ⟨rfl, h6⟩
                rw [show nLd (⟨[], H0⟩ : Qs).l = 0 from rfl, show nSt (⟨[], H0⟩ : Qs).l = 0 from rfl]
                have H6 := hide h6
                clear h6 hJ
                go_wp2
                exact ⟨⟨i + 1, M, [], by go_num, by omega, hM, fun h => by rw [show (i + 1) % 3 = 0 by have := unhide HIR h; have := unhide HR; omega]; rfl, unhide H6⟩, by simp [intOf]; omega⟩
          · have hb : ((r : Int) != 2) = true := by rw [bne_iff_ne]; omega
            have hn1 : ¬ i + 1 < n := fun h => hb2 (hir h)
            clear hb2 hc
            have HH := hide h8
            have HIR := hide hir
            clear h8 hir
            go_wp2
            go_loopw [8] (fun s8 wr => ∃ (k : Nat) (M : Nat → Int), s8 = .int .i64 k ∧ i - r ≤ k ∧ k ≤ i + 1 ∧ BM M ∧ Heap w wr [HP.q b ⟨(List.range' k (i + 1 - k)).map (EF X), H0⟩, HP.slw (.slice (some ⟨k1, 0, none⟩) 64 64) 1 64 (bytes 64 M), HP.slw (.slice (some ⟨k2, 0, none⟩) 64 64) 1 64 (bytes 64 M)]) (fun s8 _ => i + 1 - (intOf s8).toNat)
            case atStart => exact ⟨i - r, M, by go_num, Nat.le_refl _, by omega, hM, by rw [show i + 1 - (i - r) = r + 1 by omega]; exact unhide HH⟩
            case round =>
              obtain ⟨k, M, rfl, hsk, hk, hM, hJ⟩ := hrel
              clear HH
              by_cases hki : k ≤ i
              · obtain ⟨hz, hat⟩ := unhide HX k (by omega)
                obtain ⟨ab2, ao2, hA2, ⟨c0, c1, c2, c3, c4⟩, hab⟩ := hat _ hJ.below
                injection hA2 with hA2
                injection hA2 with q1 q2
                subst q1 q2
                have HJ := hide hJ
                clear hJ hat
                go_wp2_with fail
                refine (right_y (unhide HJ) (X k) hz).mono ?_
                rintro r_ w5 ⟨y, hyz, hy, rfl, h5⟩
                clear c0 c1 c2 c3 c4 hab HJ hz
                have hypc : (X k).pc = y.pc := by rw [hyz]; rfl
                have hyst : (X k).store = y.store := by rw [hyz]; rfl
                clear hyz
                have h6 := h5.new #[.bool y.store, .int .i64 y.at_, .int .i64 y.size, .int .u64 y.v, .int .u64 y.pc] 54
                obtain ⟨kb, hkb⟩ : ∃ k, w5.heap.size = k := ⟨_, rfl⟩
                rw [hkb] at h6
                have Hkb := hide hkb
                replace h6 := h6.f2
                clear hkb h5

                cases hst : (X k).store with
                | true =>
                  rw [← hyst, hst] at h6 ⊢
                  obtain ⟨d0, d1, d2, d3, d4⟩ := cells5 h6.f2.heap
                  have hxl := lt_of_heap' h6.f2.heap
                  have hw : IntKind.u64.wrap y.at_ = y.at_ := by rw [IntKind.wrap_u64]; have := hy.a0; have := hy.a1; have := hy.sz; omega
                  have HA := hide (show 0 ≤ y.at_ ∧ y.at_ < 18446744073709551616 by have := hy.a0; have := hy.a1; have := hy.sz; omega)
                  have hkk : ((k : Int) != (k : Int)) = false := by simp
                  obtain ⟨R, hRd⟩ : ∃ R, (List.range' (k + 1) (i - k)).map (EF X) = R := ⟨_, rfl⟩
                  have hRR : ∀ x ∈ R, x.read = false := fun x hx => by rw [← hRd] at hx; obtain ⟨j, _, rfl⟩ := List.mem_map.1 hx; rfl
                  rw [range_cons X hki, show EF X k = Ent.fresh (k : Int) y.pc true by rw [← hypc]; unfold EF; rw [hst], hRd] at h6
                  have HRd := hide hRd
                  have E := hide (first_store hy hRR k)
                  clear hRR hRd
                  go_wp2_with fail
                  rw [unhide Hkb]
                  refine (where_h h6 k y.at_ y.size (unhide HA)).mono ?_
                  rintro r w8 ⟨v1, rfl, h8⟩
                  rw [(unhide E).1] at h8 ⊢
                  replace h8 := h8.tail
                  dsimp only at h8 ⊢
                  clear h6
                  clear d0 d1 d2 d3 d4 hxl
                  obtain ⟨d0, d1, d2, d3, d4⟩ := cells5 h8.f2.heap
                  have hxl := lt_of_heap' h8.f2.heap
                  go_wp2_with fail
                  refine (data_h h8 k y.v hy.v).mono ?_
                  rintro r w9 ⟨rfl, h9⟩
                  dsimp only at h9 ⊢
                  rw [(unhide E).2.2] at h9
                  rw [(unhide E).2.1]
                  clear h8
                  have RDY : Hid (popQ ⟨({ (placeE (Ent.fresh (k : Int) y.pc true) y.at_ y.size) with data := true, v := y.v } : Ent) :: R, H0⟩ = (((k : Int), true), ⟨R, H0⟩)) := hide (pop_ready rfl)
                  clear d0 d1 d2 d3 d4 hxl
                  obtain ⟨d0, d1, d2, d3, d4⟩ := cells5 h9.f2.heap
                  have hxl := lt_of_heap' h9.f2.heap
                  go_wp2_with fail
                  refine (pop_h h9).mono ?_
                  rintro r w12 ⟨rfl, h12⟩
                  rw [unhide RDY] at h12 ⊢
                  dsimp only at h12 ⊢
                  clear h9
                  try clear d0 d1 d2 d3 d4 hxl
                  obtain ⟨d0, d1, d2, d3, d4⟩ := cells5 h12.f2.heap
                  have hxl := lt_of_heap' h12.f2.heap
                  go_wp2_with fail
                  refine (write_i h12.f3 hy y.v hy.v).mono ?_
                  rintro r w13 ⟨rfl, h13⟩
                  clear h12
                  clear d0 d1 d2 d3 d4 hxl
                  obtain ⟨d0, d1, d2, d3, d4⟩ := cells5 h13.f3.heap
                  have hxl := lt_of_heap' h13.f3.heap
                  go_wp2_with fail
                  refine (write_i h13.f4 hy y.v hy.v).mono ?_
                  rintro r w14 ⟨rfl, h14⟩
                  clear h13
                  clear d0 d1 d2 d3 d4 hxl
                  have hN := h14.f4.tail.f2.f3
                  have HN := hide hN
                  clear hN h14
                  go_wp2
                  exact ⟨⟨k + 1, wrM M y.at_.toNat y.size.toNat y.v, by go_num, by omega, by omega, wrM_bm hM _ _ _, by rw [show i + 1 - (k + 1) = i - k by omega, unhide HRd]; exact unhide HN⟩, by simp [intOf]; omega⟩
                | false =>
                  rw [← hyst, hst] at h6 ⊢
                  obtain ⟨d0, d1, d2, d3, d4⟩ := cells5 h6.f2.heap
                  have hxl := lt_of_heap' h6.f2.heap
                  have hw : IntKind.u64.wrap y.at_ = y.at_ := by rw [IntKind.wrap_u64]; have := hy.a0; have := hy.a1; have := hy.sz; omega
                  have HA := hide (show 0 ≤ y.at_ ∧ y.at_ < 18446744073709551616 by have := hy.a0; have := hy.a1; have := hy.sz; omega)
                  have hkk : ((k : Int) != (k : Int)) = false := by simp
                  obtain ⟨R, hRd⟩ : ∃ R, (List.range' (k + 1) (i - k)).map (EF X) = R := ⟨_, rfl⟩
                  have hRR : ∀ x ∈ R, x.read = false := fun x hx => by rw [← hRd] at hx; obtain ⟨j, _, rfl⟩ := List.mem_map.1 hx; rfl
                  rw [range_cons X hki, show EF X k = Ent.fresh (k : Int) y.pc false by rw [← hypc]; unfold EF; rw [hst], hRd] at h6
                  have HRd := hide hRd
                  have E := hide (first_load hy hRR k)
                  clear hRR hRd
                  go_wp2_with fail
                  rw [unhide Hkb]
                  refine (where_h h6 k y.at_ y.size (unhide HA)).mono ?_
                  rintro r w8 ⟨v1, rfl, h8⟩
                  rw [(unhide E).1] at h8 ⊢
                  replace h8 := h8.tail
                  dsimp only at h8 ⊢
                  clear h6
                  clear d0 d1 d2 d3 d4 hxl
                  obtain ⟨d0, d1, d2, d3, d4⟩ := cells5 h8.f2.heap
                  have hxl := lt_of_heap' h8.f2.heap
                  go_wp2_with fail
                  refine (look_h h8 k).mono ?_
                  rintro r w9 ⟨rfl, h9⟩
                  rw [(unhide E).2.1]
                  unfold GotS.cs
                  dsimp only
                  clear h8
                  have h10 := h9.new #[.bool false, .int .u8 0, .int .u64 0] 37
                  obtain ⟨kg, hkg⟩ : ∃ k, w9.heap.size = k := ⟨_, rfl⟩
                  rw [hkg] at h10
                  have Hkg := hide hkg
                  replace h10 := h10.f2
                  have H10 := hide h10
                  clear h9 hkg h10 d0 d1 d2 d3 d4 hxl
                  go_upto_region 25 with fail
                  rw [unhide Hkg]
                  have h10 := unhide H10
                  clear H10 Hkg
                  obtain ⟨vals, e0, e1, e2, e3, e4, e5, e6, e7, e8, e9, e10, e11, e12, e13, e14, e15, e16, e17, e18, e19, e20, e21, e22, e23, e24, e25, e26, e27, e28, e29, e30, e31⟩ : ∃ vals : Nat → Value, vals 0 = .bool true ∧ vals 1 = .bool false ∧ vals 2 = .bool false ∧ vals 3 = .pointer (some ⟨kg, 0, none⟩) ∧ vals 4 = .bool false ∧ vals 5 = .bool false ∧ vals 6 = .bool false ∧ vals 7 = .pointer (some ⟨kg, 1, none⟩) ∧ vals 8 = .int .u8 0 ∧ vals 9 = .bool false ∧ vals 10 = .bool false ∧ vals 11 = .bool false ∧ vals 12 = .pointer (some ⟨b, 0, none⟩) ∧ vals 13 = .int .i64 (k : Int) ∧ vals 14 = .bool true ∧ vals 15 = .bool false ∧ vals 16 = .bool false ∧ vals 17 = .bool false ∧ vals 18 = .slice (some ⟨k1, 0, none⟩) 64 64 ∧ vals 19 = .pointer (some ⟨kb, 1, none⟩) ∧ vals 20 = .int .i64 y.at_ ∧ vals 21 = .pointer (some ⟨kb, 2, none⟩) ∧ vals 22 = .int .i64 y.size ∧ vals 23 = .int .u64 (rdM M y.at_.toNat y.size.toNat) ∧ vals 24 = .slice (some ⟨k2, 0, none⟩) 64 64 ∧ vals 25 = .pointer (some ⟨kb, 1, none⟩) ∧ vals 26 = .int .i64 y.at_ ∧ vals 27 = .pointer (some ⟨kb, 2, none⟩) ∧ vals 28 = .int .i64 y.size ∧ vals 29 = .int .u64 (rdM M y.at_.toNat y.size.toNat) ∧ vals 30 = .bool false ∧ vals 31 = .bool false :=
                    ⟨fun k_ => match k_ with
                      | 0 => .bool true
                      | 1 => .bool false
                      | 2 => .bool false
                      | 3 => .pointer (some ⟨kg, 0, none⟩)
                      | 4 => .bool false
                      | 5 => .bool false
                      | 6 => .bool false
                      | 7 => .pointer (some ⟨kg, 1, none⟩)
                      | 8 => .int .u8 0
                      | 9 => .bool false
                      | 10 => .bool false
                      | 11 => .bool false
                      | 12 => .pointer (some ⟨b, 0, none⟩)
                      | 13 => .int .i64 (k : Int)
                      | 14 => .bool true
                      | 15 => .bool false
                      | 16 => .bool false
                      | 17 => .bool false
                      | 18 => .slice (some ⟨k1, 0, none⟩) 64 64
                      | 19 => .pointer (some ⟨kb, 1, none⟩)
                      | 20 => .int .i64 y.at_
                      | 21 => .pointer (some ⟨kb, 2, none⟩)
                      | 22 => .int .i64 y.size
                      | 23 => .int .u64 (rdM M y.at_.toNat y.size.toNat)
                      | 24 => .slice (some ⟨k2, 0, none⟩) 64 64
                      | 25 => .pointer (some ⟨kb, 1, none⟩)
                      | 26 => .int .i64 y.at_
                      | 27 => .pointer (some ⟨kb, 2, none⟩)
                      | 28 => .int .i64 y.size
                      | 29 => .int .u64 (rdM M y.at_.toNat y.size.toNat)
                      | 30 => .bool false
                      | _ => .bool false
                      , rfl, rfl, rfl, rfl, rfl, rfl, rfl, rfl, rfl, rfl, rfl, rfl, rfl, rfl, rfl, rfl, rfl, rfl, rfl, rfl, rfl, rfl, rfl, rfl, rfl, rfl, rfl, rfl, rfl, rfl, rfl, rfl⟩
                  refine wp_region_V (J1 14 (fun a1 w_ => Heap w w_ [HP.q b ⟨(bif a1 then ({ (placeE (Ent.fresh (k : Int) y.pc false) y.at_ y.size) with read := true } : Ent) else (placeE (Ent.fresh (k : Int) y.pc false) y.at_ y.size)) :: R, H0⟩, HP.blk kg #[.bool false, .int .u8 0, .int .u64 0] 37, HP.blk kb #[.bool false, .int .i64 y.at_, .int .i64 y.size, .int .u64 y.v, .int .u64 y.pc] 54, HP.slw (.slice (some ⟨k1, 0, none⟩) 64 64) 1 64 (bytes 64 M), HP.slw (.slice (some ⟨k2, 0, none⟩) 64 64) 1 64 (bytes 64 M)])) vals fol (by kernel_rfl) (J1.start ?_) ?_ ?_
                  · exact h10.drew
                  · show wpV _ _ _ _ 0 (_ :: _) _
                    refine wpV_cons e0 (j1val (by decide) (.bool true) fun a1 w_ hK => ?_) ?_
                    · exact ⟨by kernel_rfl, by kernel_rfl⟩
                    refine wpV_cons e1 (j1val (by decide) (.bool false) fun a1 w_ hK => ?_) ?_
                    · exact ⟨by kernel_rfl, by kernel_rfl⟩
                    refine wpV_cons e2 (j1val (by decide) (.bool false) fun a1 w_ hK => ?_) ?_
                    · exact ⟨by kernel_rfl, by kernel_rfl⟩
                    refine wpV_cons e3 (j1val (by decide) (.pointer (some ⟨kg, 0, none⟩)) fun a1 w_ hK => ?_) ?_
                    · exact ⟨by kernel_rfl, by kernel_rfl⟩
                    refine wpV_cons e4 (j1op (by decide) (Instr.loadAt 4 (.pointer (some ⟨kg, 0, none⟩))) (.bool false) fun a1 w_ hK => ?_) ?_
                    · exact ⟨by kernel_rfl, by kernel_rfl, run_load1 (by kernel_rfl) ((cells3f hK.f2.heap).1)⟩
                    refine wpV_cons e5 (j1val (by decide) (.bool false) fun a1 w_ hK => ?_) ?_
                    · exact ⟨by kernel_rfl, by kernel_rfl⟩
                    refine wpV_cons e6 (j1val (by decide) (.bool false) fun a1 w_ hK => ?_) ?_
                    · exact ⟨by kernel_rfl, by kernel_rfl⟩
                    refine wpV_cons e7 (j1val (by decide) (.pointer (some ⟨kg, 1, none⟩)) fun a1 w_ hK => ?_) ?_
                    · exact ⟨by kernel_rfl, by kernel_rfl⟩
                    refine wpV_cons e8 (j1op (by decide) (Instr.loadAt 5 (.pointer (some ⟨kg, 1, none⟩))) (.int .u8 0) fun a1 w_ hK => ?_) ?_
                    · exact ⟨by kernel_rfl, by kernel_rfl, run_load1 (by kernel_rfl) ((cells3f hK.f2.heap).2.1)⟩
                    refine wpV_cons e9 (j1val (by decide) (.bool false) fun a1 w_ hK => ?_) ?_
                    · exact ⟨by kernel_rfl, by kernel_rfl⟩
                    refine wpV_cons e10 (j1val (by decide) (.bool false) fun a1 w_ hK => ?_) ?_
                    · exact ⟨by kernel_rfl, by kernel_rfl⟩
                    refine wpV_cons e11 (j1val (by decide) (.bool false) fun a1 w_ hK => ?_) ?_
                    · exact ⟨by kernel_rfl, by kernel_rfl⟩
                    refine wpV_cons e12 (j1val (by decide) (.pointer (some ⟨b, 0, none⟩)) fun a1 w_ hK => ?_) ?_
                    · exact ⟨by kernel_rfl, by kernel_rfl⟩
                    refine wpV_cons e13 (j1val (by decide) (.int .i64 (k : Int)) fun a1 w_ hK => ?_) ?_
                    · exact ⟨by kernel_rfl, by kernel_rfl⟩
                    refine wpV_cons e14 (j1ecall 22 #[.pointer (some ⟨b, 0, none⟩), .int .i64 (k : Int)] (.bool true) fun w_ hK => ?_) ?_
                    · exact ⟨by kernel_rfl, by kernel_rfl, by have hK' : Heap w w_ (HP.q b ⟨(placeE (Ent.fresh (k : Int) y.pc false) y.at_ y.size) :: R, H0⟩ :: _) := hK; refine (done_h hK' k).mono fun e w' ⟨hr, hw⟩ => ?_; rw [(unhide E).2.2] at hr hw; exact ⟨hr, hw⟩⟩
                    refine wpV_cons e15 (j1val (by decide) (.bool false) fun a1 w_ hK => ?_) ?_
                    · exact ⟨by kernel_rfl, by kernel_rfl⟩
                    refine wpV_cons e16 (j1val (by decide) (.bool false) fun a1 w_ hK => ?_) ?_
                    · exact ⟨by kernel_rfl, by kernel_rfl⟩
                    refine wpV_cons e17 (j1val (by decide) (.bool false) fun a1 w_ hK => ?_) ?_
                    · exact ⟨by kernel_rfl, by kernel_rfl⟩
                    refine wpV_cons e18 (j1val (by decide) (.slice (some ⟨k1, 0, none⟩) 64 64) fun a1 w_ hK => ?_) ?_
                    · exact ⟨by kernel_rfl, by kernel_rfl⟩
                    refine wpV_cons e19 (j1val (by decide) (.pointer (some ⟨kb, 1, none⟩)) fun a1 w_ hK => ?_) ?_
                    · exact ⟨by kernel_rfl, by kernel_rfl⟩
                    refine wpV_cons e20 (j1op (by decide) (Instr.loadAt 3 (.pointer (some ⟨kb, 1, none⟩))) (.int .i64 y.at_) fun a1 w_ hK => ?_) ?_
                    · exact ⟨by kernel_rfl, by kernel_rfl, run_load1 (by kernel_rfl) ((cells5 hK.f3.heap).2.1)⟩
                    refine wpV_cons e21 (j1val (by decide) (.pointer (some ⟨kb, 2, none⟩)) fun a1 w_ hK => ?_) ?_
                    · exact ⟨by kernel_rfl, by kernel_rfl⟩
                    refine wpV_cons e22 (j1op (by decide) (Instr.loadAt 3 (.pointer (some ⟨kb, 2, none⟩))) (.int .i64 y.size) fun a1 w_ hK => ?_) ?_
                    · exact ⟨by kernel_rfl, by kernel_rfl, run_load1 (by kernel_rfl) ((cells5 hK.f3.heap).2.2.1)⟩
                    refine wpV_cons e23 (j1call (by decide) 32 #[.slice (some ⟨k1, 0, none⟩) 64 64, .int .i64 y.at_, .int .i64 y.size] (.int .u64 (rdM M y.at_.toNat y.size.toNat)) fun a1 w_ hK => ?_) ?_
                    · exact ⟨by kernel_rfl, by kernel_rfl, (read_i hM (Heap.f4 hK) hy).mono fun e w' ⟨hr, hw⟩ => ⟨hr, hw.b4⟩⟩
                    refine wpV_cons e24 (j1val (by decide) (.slice (some ⟨k2, 0, none⟩) 64 64) fun a1 w_ hK => ?_) ?_
                    · exact ⟨by kernel_rfl, by kernel_rfl⟩
                    refine wpV_cons e25 (j1val (by decide) (.pointer (some ⟨kb, 1, none⟩)) fun a1 w_ hK => ?_) ?_
                    · exact ⟨by kernel_rfl, by kernel_rfl⟩
                    refine wpV_cons e26 (j1op (by decide) (Instr.loadAt 3 (.pointer (some ⟨kb, 1, none⟩))) (.int .i64 y.at_) fun a1 w_ hK => ?_) ?_
                    · exact ⟨by kernel_rfl, by kernel_rfl, run_load1 (by kernel_rfl) ((cells5 hK.f3.heap).2.1)⟩
                    refine wpV_cons e27 (j1val (by decide) (.pointer (some ⟨kb, 2, none⟩)) fun a1 w_ hK => ?_) ?_
                    · exact ⟨by kernel_rfl, by kernel_rfl⟩
                    refine wpV_cons e28 (j1op (by decide) (Instr.loadAt 3 (.pointer (some ⟨kb, 2, none⟩))) (.int .i64 y.size) fun a1 w_ hK => ?_) ?_
                    · exact ⟨by kernel_rfl, by kernel_rfl, run_load1 (by kernel_rfl) ((cells5 hK.f3.heap).2.2.1)⟩
                    refine wpV_cons e29 (j1call (by decide) 32 #[.slice (some ⟨k2, 0, none⟩) 64 64, .int .i64 y.at_, .int .i64 y.size] (.int .u64 (rdM M y.at_.toNat y.size.toNat)) fun a1 w_ hK => ?_) ?_
                    · exact ⟨by kernel_rfl, by kernel_rfl, (read_i hM (Heap.f5 hK) hy).mono fun e w' ⟨hr, hw⟩ => ⟨hr, hw.b5⟩⟩
                    refine wpV_cons e30 (j1op (by decide) (binOp .neq 28 (.int .u64 (rdM M y.at_.toNat y.size.toNat)) (.int .u64 (rdM M y.at_.toNat y.size.toNat))) (.bool false) fun a1 w_ hK => ?_) ?_
                    · exact ⟨by kernel_rfl, by kernel_rfl, ne64 _ w_⟩
                    refine wpV_cons e31 (j1val (by decide) (.bool false) fun a1 w_ hK => ?_) wpV_nil
                    · exact ⟨by kernel_rfl, by kernel_rfl⟩
                  · intro w_ hJ2
                    have h11 := hJ2.done (by decide)
                    clear hJ2
                    simp only [cond_true] at h11
                    simp only [fillG, Nat.zero_add, Nat.reduceAdd, e0, e1, e2, e3, e4, e5, e6, e7, e8, e9, e10, e11, e12, e13, e14, e15, e16, e17, e18, e19, e20, e21, e22, e23, e24, e25, e26, e27, e28, e29, e30, e31, Act.put, List.setIfInBounds_toArray, List.set_cons_succ, List.set_cons_zero]
                    clear e0 e1 e2 e3 e4 e5 e6 e7 e8 e9 e10 e11 e12 e13 e14 e15 e16 e17 e18 e19 e20 e21 e22 e23 e24 e25 e26 e27 e28 e29 e30 e31
                    clear h10
                    have RDY : Hid (popQ ⟨({ (placeE (Ent.fresh (k : Int) y.pc false) y.at_ y.size) with read := true } : Ent) :: R, H0⟩ = (((k : Int), true), ⟨R, H0⟩)) := hide (pop_ready rfl)
                    obtain ⟨d0, d1, d2, d3, d4⟩ := cells5 h11.f3.heap
                    have hxl := lt_of_heap' h11.f3.heap
                    go_wp2_with fail
                    refine (pop_h h11).mono ?_
                    rintro r w12 ⟨rfl, h12⟩
                    rw [unhide RDY] at h12 ⊢
                    dsimp only at h12 ⊢
                    clear h11
                    try clear d0 d1 d2 d3 d4 hxl
                    obtain ⟨d0, d1, d2, d3, d4⟩ := cells5 h12.f3.heap
                    have hxl := lt_of_heap' h12.f3.heap
                    have HN := hide h12.f3.tail.f2.tail
                    clear h12
                    go_wp2
                    exact ⟨⟨k + 1, M, by go_num, by omega, by omega, hM, by rw [show i + 1 - (k + 1) = i - k by omega, unhide HRd]; exact unhide HN⟩, by simp [intOf]; omega⟩
              · obtain rfl : k = i + 1 := by omega
                rw [show i + 1 - (i + 1) = 0 by omega] at hJ
                have hJ : Heap w wr [HP.q b ⟨[], H0⟩, HP.slw (.slice (some ⟨k1, 0, none⟩) 64 64) 1 64 (bytes 64 M), HP.slw (.slice (some ⟨k2, 0, none⟩) 64 64) 1 64 (bytes 64 M)] := hJ
                go_wp2_with fail
                refine (count_h hJ).mono ?_
                rintro r_ w6 ⟨rfl, h6⟩
                rw [show nLd (⟨[], H0⟩ : Qs).l = 0 from rfl, show nSt (⟨[], H0⟩ : Qs).l = 0 from rfl]
                have H6 := hide h6
                clear h6 hJ
                go_wp2
                exact ⟨⟨i + 1, M, [], by go_num, by omega, hM, fun h => by rw [show (i + 1) % 3 = 0 by have := unhide HIR h; have := unhide HR; omega]; rfl, unhide H6⟩, by simp [intOf]; omega⟩
    · obtain rfl : i = n := by omega
      have H := hide hJ.below
      clear hJ
      go_wp2
      go_ret
      exact ⟨rfl, unhide H⟩
end Go.Proofs.Ytdmkgomcomcfhaa
