/- Layer 23: LsqAlone: the plain law and the walk. -/
import Derived.Test.YtdmkgomcomcfhaaQ19
namespace Go.Proofs.Ytdmkgomcomcfhaa
open Go.RowKit

/-- Stores below 64. -/
structure AI (l : List Ent) (k : Nat) : Prop where
  len : l.length = k
  all : ∀ e ∈ l, e.tag < (k : Int) ∧ e.store = true ∧ e.placed = true ∧ e.read = false ∧ 0 ≤ e.at_ ∧ e.at_ + e.size ≤ 64 ∧ 0 < e.size ∧ e.size ≤ 8
theorem AI.ld {l : List Ent} {k : Nat} (h : AI l k) : nLd l = 0 ∧ nSt l = k := by
  have h1 : nLd l = 0 := by
    unfold nLd
    rw [List.countP_eq_zero]
    intro x hx
    simp [(h.all x hx).2.1]
  have := cnt l
  have := h.len
  omega
theorem AI.snoc {l : List Ent} {k : Nat} (h : AI l k) {e : Ent} (he : e.tag = (k : Int) ∧ e.store = true ∧ e.placed = true ∧ e.read = false ∧ 0 ≤ e.at_ ∧ e.at_ + e.size ≤ 64 ∧ 0 < e.size ∧ e.size ≤ 8) : AI (l ++ [e]) (k + 1) := by
  refine ⟨by rw [List.length_append, h.len]; rfl, fun x hx => ?_⟩
  rcases List.mem_append.1 hx with h1 | h1
  · have := h.all x h1
    exact ⟨by omega, this.2⟩
  · rw [List.mem_singleton.1 h1]
    exact ⟨by omega, he.2⟩
theorem alone_step {l : List Ent} {k : Nat} (h : AI l k) (hk : k < 8) {y : OpS} (hy : YOk y) :
    comeQ ⟨l, H0⟩ (Ent.fresh (k : Int) y.pc true) = ⟨l ++ [(Ent.fresh (k : Int) y.pc true)], H0⟩ ∧ whereQ ⟨l ++ [(Ent.fresh (k : Int) y.pc true)], H0⟩ (k : Int) y.at_ y.size = (([], true), ⟨l ++ [(placeE (Ent.fresh (k : Int) y.pc true) y.at_ y.size)], H0⟩) ∧ dataQ ⟨l ++ [(placeE (Ent.fresh (k : Int) y.pc true) y.at_ y.size)], H0⟩ (k : Int) y.v = ⟨l ++ [({ placeE (Ent.fresh (k : Int) y.pc true) y.at_ y.size with data := true, v := y.v } : Ent)], H0⟩ ∧ AI (l ++ [(placeE (Ent.fresh (k : Int) y.pc true) y.at_ y.size)]) (k + 1) ∧ AI (l ++ [({ placeE (Ent.fresh (k : Int) y.pc true) y.at_ y.size with data := true, v := y.v } : Ent)]) (k + 1) := by
  have ht : ∀ e ∈ l, e.tag < (k : Int) := fun e he => (h.all e he).1
  have htn : ∀ e ∈ l, e.tag ≠ (k : Int) := fun e he => by have := ht e he; omega
  have hs : 0 < y.size ∧ y.size ≤ 8 := by rcases hy.sz with h | h | h | h <;> omega
  refine ⟨come_ok (e := (Ent.fresh (k : Int) y.pc true)) ht (by show (if true then _ else _); rw [if_pos rfl]; show nSt l < 8; rw [h.ld.2]; exact hk), where_mid (l := l) (r := []) (e := (Ent.fresh (k : Int) y.pc true)) (h := H0) htn rfl (okSize_iff.2 hy.sz) hy.al (fun _ x hx => by simp at hx), (data_mid (l := l) (r := []) (e := (placeE (Ent.fresh (k : Int) y.pc true) y.at_ y.size)) (h := H0) htn rfl rfl y.v).2, h.snoc ⟨rfl, rfl, rfl, rfl, hy.a0, hy.a1, hs⟩, h.snoc ⟨rfl, rfl, rfl, rfl, hy.a0, hy.a1, hs⟩⟩
theorem alone_giver {l : List Ent} {k : Nat} (h : AI l k) (r : List Ent) {a : Int} (a0 : 64 ≤ a) (a1 : a < 9223372036854775808) : ∀ n, n ≤ k → giver (l ++ r) a n = none := by
  intro n
  induction n with
  | zero => intro _; rfl
  | succ n ih =>
    intro hn
    obtain ⟨e, he⟩ : ∃ e, l[n]? = some e := ⟨_, List.getElem?_eq_getElem (by rw [h.len]; omega)⟩
    obtain ⟨_, _, hp, _, h0, h1, h2, h3⟩ := h.all e (List.mem_of_getElem? he)
    rw [giver_at (by rw [List.getElem?_append_left (by rw [h.len]; omega)]; exact he), ih (by omega), has_iff hp h0 (by omega) ⟨h2, h3⟩ (by omega) a1, decide_eq_false (by omega)]
    simp
theorem alone_got {l : List Ent} {k : Nat} (h : AI l k) (e : Ent) (r : List Ent) (h0 : 64 ≤ e.at_) : ∀ i : Nat, e.at_ + i ≤ 200 → gotN (l ++ r) e k false i = ⟨false, 0, 0⟩ := by
  intro i
  induction i with
  | zero => intro _; rfl
  | succ i ih =>
    intro hi
    rw [gotN_up, ih (by omega)]
    unfold gotStep
    rw [wrapA_small (by omega) (by omega), alone_giver h r (by omega) (by omega) k (Nat.le_refl _)]
theorem alone_look {l : List Ent} {k : Nat} (h : AI l k) {e : Ent} (ht : e.tag = (k : Int)) (hs : e.store = false) (hp : e.placed = true) (h0 : 64 ≤ e.at_) (h1 : e.at_ + e.size ≤ 200) (h2 : 0 < e.size) (r : List Ent) : lookQ ⟨l ++ e :: r, H0⟩ (k : Int) = (⟨false, 0, 0⟩, true) := by
  rw [← ht, look_mid (fun x hx => by have := (h.all x hx).1; omega) hs hp]
  have hw : waitN ⟨l ++ e :: r, H0⟩ e l.length = false := by
    unfold waitN
    dsimp only
    rw [List.take_left, List.any_eq_false]
    intro x hx
    rw [(h.all x hx).2.2.1]
    simp
  have hg := alone_got h e (e :: r) h0 e.size.toNat (by omega)
  unfold lookG
  rw [hw, h.len]
  dsimp only
  rw [hg]
  rfl
theorem alone_load {l : List Ent} {k : Nat} (h : AI l k) {y : OpS} (hy : YOk y) :
    comeQ ⟨l, H0⟩ (Ent.fresh (k : Int) 4 false) = ⟨l ++ [(Ent.fresh (k : Int) 4 false)], H0⟩ ∧ mayCome l (k : Int) false = true ∧ whereQ ⟨l ++ [(Ent.fresh (k : Int) 4 false)], H0⟩ (k : Int) (64 + y.at_) y.size = (([], true), ⟨l ++ [(placeE (Ent.fresh (k : Int) 4 false) (64 + y.at_) y.size)], H0⟩) ∧ (∀ r, lookQ ⟨l ++ (placeE (Ent.fresh (k : Int) 4 false) (64 + y.at_) y.size) :: r, H0⟩ (k : Int) = (⟨false, 0, 0⟩, true)) ∧
    doneQ ⟨l ++ [(placeE (Ent.fresh (k : Int) 4 false) (64 + y.at_) y.size)], H0⟩ (k : Int) = (true, ⟨l ++ [({ placeE (Ent.fresh (k : Int) 4 false) (64 + y.at_) y.size with read := true } : Ent)], H0⟩) ∧ (∀ r, lookQ ⟨l ++ ({ placeE (Ent.fresh (k : Int) 4 false) (64 + y.at_) y.size with read := true } : Ent) :: r, H0⟩ (k : Int) = (⟨false, 0, 0⟩, true)) := by
  have ht : ∀ e ∈ l, e.tag < (k : Int) := fun e he => (h.all e he).1
  have htn : ∀ e ∈ l, e.tag ≠ (k : Int) := fun e he => by have := ht e he; omega
  have hs : 0 < y.size ∧ y.size ≤ 8 := by rcases hy.sz with h | h | h | h <;> omega
  have h0 := hy.a0
  have h1 := hy.a1
  have l1 : ∀ r, lookQ ⟨l ++ (placeE (Ent.fresh (k : Int) 4 false) (64 + y.at_) y.size) :: r, H0⟩ (k : Int) = (⟨false, 0, 0⟩, true) := alone_look h (e := (placeE (Ent.fresh (k : Int) 4 false) (64 + y.at_) y.size)) rfl rfl rfl (by show 64 ≤ 64 + y.at_; omega) (by show 64 + y.at_ + y.size ≤ 200; omega) hs.1
  have l2 : ∀ r, lookQ ⟨l ++ ({ placeE (Ent.fresh (k : Int) 4 false) (64 + y.at_) y.size with read := true } : Ent) :: r, H0⟩ (k : Int) = (⟨false, 0, 0⟩, true) := alone_look h (e := ({ placeE (Ent.fresh (k : Int) 4 false) (64 + y.at_) y.size with read := true } : Ent)) rfl rfl rfl (by show 64 ≤ 64 + y.at_; omega) (by show 64 + y.at_ + y.size ≤ 200; omega) hs.1
  refine ⟨come_ok (e := (Ent.fresh (k : Int) 4 false)) ht (by show (if false then _ else _); rw [if_neg (by simp)]; show nLd l < 8; rw [h.ld.1]; decide), mayCome_ok ht (by rw [if_neg (by simp), h.ld.1]; decide), where_mid (l := l) (r := []) (e := (Ent.fresh (k : Int) 4 false)) (h := H0) htn rfl (okSize_iff.2 hy.sz) (by have := hy.al; rcases hy.sz with h | h | h | h <;> rw [h] at this ⊢ <;> omega) (fun h2 => by cases h2), l1, done_mid (l := l) (r := []) (e := (placeE (Ent.fresh (k : Int) 4 false) (64 + y.at_) y.size)) (h := H0) htn (l1 []) rfl, l2⟩
theorem come_or (q : Qs) (e : Ent) : comeQ q e = ⟨q.l ++ [e], q.h⟩ ∨ comeQ q e = q := by
  unfold comeQ
  split
  · exact .inl rfl
  · exact .inr rfl
theorem alone_later {l R : List Ent} {k i : Nat} (h : AI l k) {y x : OpS} (_hy : YOk y) (hR : ∀ e ∈ R, (k : Int) < e.tag ∧ e.tag ≤ k + i ∧ e.read = false) (hx : YOk x) : ∃ (R' : List Ent) (s : Bool),
    whereQ (comeQ ⟨l ++ ({ placeE (Ent.fresh (k : Int) 4 false) (64 + y.at_) y.size with read := true } : Ent) :: R, H0⟩ (Ent.fresh ((k : Int) + 1 + (i : Int)) x.pc true)) ((k : Int) + 1 + (i : Int)) (64 + x.at_) x.size = (([], s), ⟨l ++ ({ placeE (Ent.fresh (k : Int) 4 false) (64 + y.at_) y.size with read := true } : Ent) :: R', H0⟩) ∧ True ∧ (∀ e ∈ R', (k : Int) < e.tag ∧ e.tag ≤ k + (i + 1 : Nat) ∧ e.read = false) := by
  have htn : ∀ e ∈ l ++ ({ placeE (Ent.fresh (k : Int) 4 false) (64 + y.at_) y.size with read := true } : Ent) :: R, e.tag ≠ (k : Int) + 1 + (i : Int) := by
    intro e he
    rcases List.mem_append.1 he with h1 | h1
    · have := (h.all e h1).1; omega
    · rcases List.mem_cons.1 h1 with h2 | h2
      · rw [h2]; show (k : Int) ≠ _; omega
      · have := hR e h2; omega
  rcases come_or ⟨l ++ ({ placeE (Ent.fresh (k : Int) 4 false) (64 + y.at_) y.size with read := true } : Ent) :: R, H0⟩ (Ent.fresh ((k : Int) + 1 + (i : Int)) x.pc true) with e1 | e1
  · rw [e1]
    refine ⟨R ++ [placeE (Ent.fresh ((k : Int) + 1 + (i : Int)) x.pc true) (64 + x.at_) x.size], true, ?_, trivial, fun e he => ?_⟩
    · have h9 := where_mid (l := l ++ ({ placeE (Ent.fresh (k : Int) 4 false) (64 + y.at_) y.size with read := true } : Ent) :: R) (r := []) (e := Ent.fresh ((k : Int) + 1 + (i : Int)) x.pc true) (h := H0) htn rfl (okSize_iff.2 hx.sz) (a := 64 + x.at_) (by have := hx.al; rcases hx.sz with h | h | h | h <;> rw [h] at this ⊢ <;> omega) (fun _ x hx => by simp at hx)
      refine h9.trans ?_
      simp
    · rcases List.mem_append.1 he with h1 | h1
      · have := hR e h1
        exact ⟨this.1, by omega, this.2.2⟩
      · rw [List.mem_singleton.1 h1]
        exact ⟨by show (k : Int) < (k : Int) + 1 + (i : Int); omega, by show (k : Int) + 1 + (i : Int) ≤ _; omega, rfl⟩
  · rw [e1]
    exact ⟨R, false, where_no htn, trivial, fun e he => by have := hR e he; exact ⟨this.1, by omega, this.2.2⟩⟩

set_option maxRecDepth 100000 in
set_option maxHeartbeats 8000000 in
theorem alone_walk (size : Int) (hsz : -9223372036854775808 ≤ size ∧ size < 9223372036854775808) (A A2 : Option Addr) (n cap n2 cap2 : Nat) (w : World) (hS : SlArg [none, some .i64, some .i64, some .u64, some .u64] w A n) (hn : n ≤ 4398046511104)
    (hS2 : SlArg [none, some .i64, some .i64, some .u64, some .u64] w A2 n2) (hn2 : n2 ≤ 4398046511104) :
    Calls Try.prog 6 #[.slice A n cap, .slice A2 n2 cap2, .int .i64 size] w fun e w' => e = .returned (.bool true) ∧ Below w.heap.size w w' := by
  have HS := hide hS
  have HS2 := hide hS2
  have HSZ := hide hsz
  clear hS hS2 hsz
  go_enter Try.func6, Try.ntmps6
  go_wp2_with fail
  refine (fixed_h (Heap.nil w)).mono ?_
  rintro r w1 ⟨rfl, h1⟩
  go_wp2_with fail
  refine (new_h h1).mono ?_
  rintro r w2 ⟨b, rfl, h2⟩
  clear h1
  unfold ptr
  go_wp2
  go_loopw [8, 9] (fun s8 s9 wr => ∃ (k : Nat) (l : List Ent), s8 = .int .i64 k ∧ s9 = .int .i64 k ∧ k ≤ 8 ∧ k ≤ n ∧ AI l k ∧ Heap w wr [HP.q b ⟨l, H0⟩]) (fun _ s9 _ => n - (intOf s9).toNat)
  case atStart => exact ⟨0, [], rfl, rfl, by simp, by simp, ⟨rfl, fun e he => by simp at he⟩, h2⟩
  case round =>
    obtain ⟨k, l, rfl, rfl, hk8, hkn, hI, hJ⟩ := hrel
    clear h2
    by_cases hlt : k < n ∧ k < 8
    · obtain ⟨hlt, hlt8⟩ := hlt
      obtain ⟨ab, ao, rfl, z, hz, ⟨c0, c1, c2, c3, c4⟩, hab⟩ := op_at (unhide HS) hJ.below hlt
      have HJ := hide hJ
      have HI := hide hI
      clear hJ hI
      go_wp2_with fail
      refine (right_y (unhide HJ) z hz).mono ?_
      rintro r w5 ⟨y, hyz, hy, rfl, h5⟩
      have hI := unhide HI
      clear hyz c0 c1 c2 c3 c4 hab HJ hz HI
      have h6 := h5.new #[.bool y.store, .int .i64 y.at_, .int .i64 y.size, .int .u64 y.v, .int .u64 y.pc] 54
      obtain ⟨kb, hkb⟩ : ∃ k, w5.heap.size = k := ⟨_, rfl⟩
      rw [hkb] at h6
      have Hkb := hide hkb
      replace h6 := h6.f2
      clear hkb h5
      obtain ⟨d0, d1, d2, d3, d4⟩ := cells5 h6.f2.heap
      have hxl := lt_of_heap' h6.f2.heap
      have hw : IntKind.u64.wrap y.at_ = y.at_ := by rw [IntKind.wrap_u64]; have := hy.a0; have := hy.a1; have := hy.sz; omega
      have hki : -9223372036854775808 ≤ (k : Int) ∧ (k : Int) < 9223372036854775808 := by omega
      obtain ⟨e1, e2, e3, i1, i2⟩ := alone_step hI hlt8 hy
      have E := hide (And.intro e1 (And.intro e2 e3))
      have I := hide (And.intro i1 i2)
      have HA := hide (show 0 ≤ y.at_ ∧ y.at_ < 18446744073709551616 by have := hy.a0; have := hy.a1; have := hy.sz; omega)
      have Hki := hide hki
      clear e1 e2 e3 i1 i2 hki hI
      go_wp2_with fail
      rw [unhide Hkb]
      refine (store_h h6 k y.pc (unhide Hki) hy.pc).mono ?_
      rintro r w7 ⟨rfl, h7⟩
      dsimp only at h7 ⊢
      rw [(unhide E).1] at h7
      generalize mayCome l (k : Int) true = mc
      clear h6
      clear d0 d1 d2 d3 d4 hxl
      obtain ⟨d0, d1, d2, d3, d4⟩ := cells5 h7.f2.heap
      have hxl := lt_of_heap' h7.f2.heap
      go_wp2_with fail
      refine (where_h h7 k y.at_ y.size (unhide HA)).mono ?_
      rintro r w8 ⟨v1, rfl, h8⟩
      rw [(unhide E).2.1] at h8 ⊢
      replace h8 := h8.tail
      dsimp only at h8 ⊢
      clear h7
      clear d0 d1 d2 d3 d4 hxl
      obtain ⟨d0, d1, d2, d3, d4⟩ := cells5 h8.f2.heap
      have hxl := lt_of_heap' h8.f2.heap
      by_cases hev : k % 2 = 0
      · have hz : ((k : Int).tmod 2 == 0) = true := by rw [Int.tmod_eq_emod_of_nonneg (by omega), beq_iff_eq]; omega
        go_wp2_with fail
        refine (data_h h8 k y.v hy.v).mono ?_
        rintro r w9 ⟨rfl, h9⟩
        rw [(unhide E).2.2] at h9
        clear h8
        generalize (dataN _ (k : Int)).isSome = mc2
        go_wp2
        exact ⟨⟨k + 1, _, by go_num, by go_num, by omega, by omega, (unhide I).2, h9.f2.tail⟩, by simp [intOf]; omega⟩
      · have hz : ((k : Int).tmod 2 == 0) = false := by rw [Int.tmod_eq_emod_of_nonneg (by omega), beq_eq_false_iff_ne]; omega
        go_wp2
        exact ⟨⟨k + 1, _, by go_num, by go_num, by omega, by omega, (unhide I).1, h8.f2.tail⟩, by simp [intOf]; omega⟩
    · by_cases h1 : k < n
      · have h2 : ¬ k < 8 := fun h => hlt ⟨h1, h⟩
        clear hlt
        have Hx0 : OpS.ok ⟨false, 0, size, 0, 0⟩ := ⟨by dsimp only; omega, unhide HSZ, by dsimp only; omega, by dsimp only; omega⟩
        have hR := right_y hJ ⟨false, 0, size, 0, 0⟩ Hx0
        dsimp only at hR
        have HR := hide hR
        have HI := hide hI
        clear hR hJ Hx0 hI
        go_wp2_with fail
        refine (unhide HR).mono ?_
        rintro r w5 ⟨y, hyz, hy, rfl, h5⟩
        clear hyz HR
        have h6 := h5.new #[.bool y.store, .int .i64 y.at_, .int .i64 y.size, .int .u64 y.v, .int .u64 y.pc] 54
        obtain ⟨kb, hkb⟩ : ∃ k, w5.heap.size = k := ⟨_, rfl⟩
        rw [hkb] at h6
        have Hkb := hide hkb
        replace h6 := h6.f2
        clear hkb h5
        obtain ⟨d0, d1, d2, d3, d4⟩ := cells5 h6.f2.heap
        have hxl := lt_of_heap' h6.f2.heap
        have ha64 : 0 ≤ 64 + y.at_ ∧ 64 + y.at_ < 18446744073709551616 := by have := hy.a0; have := hy.a1; have := hy.sz; omega
        have hw0 : IntKind.i64.wrap (64 + y.at_) = 64 + y.at_ := by rw [wrap_i64]; have := hy.a0; have := hy.a1; have := hy.sz; split <;> omega
        have hw : IntKind.u64.wrap (64 + y.at_) = 64 + y.at_ := by rw [IntKind.wrap_u64]; omega
        have hki : -9223372036854775808 ≤ (k : Int) ∧ (k : Int) < 9223372036854775808 := by omega
        obtain ⟨e1, e2, e3, e4, e5⟩ := alone_load (unhide HI) hy
        have E := hide (And.intro e1 (And.intro e2 (And.intro e3 (And.intro e4 e5))))
        have HA := hide ha64
        have Hki := hide hki
        clear e1 e2 e3 e4 e5 ha64 hki
        go_wp2_with fail
        rw [unhide Hkb]
        refine (load_h h6 k 4 (unhide Hki) (by decide)).mono ?_
        rintro r w7 ⟨rfl, h7⟩
        dsimp only at h7 ⊢
        rw [(unhide E).1] at h7
        rw [(unhide E).2.1]
        clear h6
        clear d0 d1 d2 d3 d4 hxl
        obtain ⟨d0, d1, d2, d3, d4⟩ := cells5 h7.f2.heap
        have hxl := lt_of_heap' h7.f2.heap
        go_wp2_with fail
        refine (where_h h7 k (64 + y.at_) y.size (unhide HA)).mono ?_
        rintro r w8 ⟨v1, rfl, h8⟩
        rw [(unhide E).2.2.1] at h8 ⊢
        replace h8 := h8.tail
        dsimp only at h8 ⊢
        clear h7
        clear d0 d1 d2 d3 d4 hxl
        go_wp2_with fail
        refine (look_h h8 k).mono ?_
        rintro r w9 ⟨rfl, h9⟩
        rw [(unhide E).2.2.2.1 []]
        unfold GotS.cs
        dsimp only
        clear h8
        have h10 := h9.new #[.bool false, .int .u8 0, .int .u64 0] 37
        obtain ⟨kg, hkg⟩ : ∃ k, w9.heap.size = k := ⟨_, rfl⟩
        rw [hkg] at h10
        replace h10 := h10.f2
        obtain ⟨g0, g1, g2, _, _, _⟩ := cells3f h10.f2.heap
        have hgl := lt_of_heap' h10.f2.heap
        have Hkg := hide hkg
        clear h9 hkg
        go_wp2_with fail
        rw [unhide Hkg]
        refine (done_h h10 k).mono ?_
        rintro r w11 ⟨rfl, h11⟩
        rw [(unhide E).2.2.2.2.1] at h11 ⊢
        dsimp only at h11 ⊢
        clear h10 g0 g1 g2 hgl
        have h12 : Heap w w11 [HP.q b ⟨l ++ ({ placeE (Ent.fresh (k : Int) 4 false) (64 + y.at_) y.size with read := true } : Ent) :: [], H0⟩, HP.blk kg #[.bool false, .int .u8 0, .int .u64 0] 37] := h11.two
        have H12 := hide h12
        clear h11 h12 Hkg Hkb
        go_wp2
        go_loopw [16] (fun s16 wr => ∃ (i : Nat) (R : List Ent), s16 = .int .i64 i ∧ i ≤ n2 ∧ (∀ e ∈ R, (k : Int) < e.tag ∧ e.tag ≤ k + i ∧ e.read = false) ∧ Heap w wr [HP.q b ⟨l ++ ({ placeE (Ent.fresh (k : Int) 4 false) (64 + y.at_) y.size with read := true } : Ent) :: R, H0⟩, HP.blk kg #[.bool false, .int .u8 0, .int .u64 0] 37]) (fun s16 _ => n2 - (intOf s16).toNat)
        case atStart => exact ⟨0, [], rfl, Nat.zero_le _, by simp, unhide H12⟩
        case round =>
          obtain ⟨i, R, rfl, hi, hR, hJ⟩ := hrel
          have HRR := hide hR
          clear hR H12
          by_cases hin : i < n2
          · obtain ⟨ab2, ao2, rfl, z, hz, ⟨c0, c1, c2, c3, c4⟩, hab⟩ := op_at (unhide HS2) hJ.below hin
            have HJ := hide hJ
            clear hJ
            go_wp2_with fail
            refine (right_y (unhide HJ) z hz).mono ?_
            rintro r w13 ⟨x, hyz, hx, rfl, h13⟩
            clear hyz c0 c1 c2 c3 c4 hab HJ hz
            have h14 := h13.new #[.bool x.store, .int .i64 x.at_, .int .i64 x.size, .int .u64 x.v, .int .u64 x.pc] 54
            obtain ⟨kc, hkc⟩ : ∃ k, w13.heap.size = k := ⟨_, rfl⟩
            rw [hkc] at h14
            have Hkc := hide hkc
            replace h14 := h14.f2
            clear hkc h13
            obtain ⟨d0, d1, d2, d3, d4⟩ := cells5 h14.f2.heap
            have hxl := lt_of_heap' h14.f2.heap
            have ha64 : 0 ≤ 64 + x.at_ ∧ 64 + x.at_ < 18446744073709551616 := by have := hx.a0; have := hx.a1; have := hx.sz; omega
            have hw0 : IntKind.i64.wrap (64 + x.at_) = 64 + x.at_ := by rw [wrap_i64]; have := hx.a0; have := hx.a1; have := hx.sz; split <;> omega
            have hw : IntKind.u64.wrap (64 + x.at_) = 64 + x.at_ := by rw [IntKind.wrap_u64]; omega
            have hk1 : IntKind.i64.wrap ((k : Int) + 1) = (k : Int) + 1 := by rw [wrap_i64]; split <;> omega
            have hk2 : IntKind.i64.wrap ((k : Int) + 1 + (i : Int)) = (k : Int) + 1 + (i : Int) := by rw [wrap_i64]; split <;> omega
            have hki : -9223372036854775808 ≤ (k : Int) + 1 + (i : Int) ∧ (k : Int) + 1 + (i : Int) < 9223372036854775808 := by omega
            obtain ⟨R', s', e1, e2, i2⟩ := alone_later (unhide HI) hy (unhide HRR) hx
            have E := hide (And.intro e1 (And.intro e2 i2))
            have HA := hide ha64
            have Hki := hide hki
            clear e1 e2 i2 ha64 hki
            go_wp2_with fail
            rw [unhide Hkc]
            refine (store_h h14 ((k : Int) + 1 + (i : Int)) x.pc (unhide Hki) hx.pc).mono ?_
            rintro r w15 ⟨rfl, h15⟩
            dsimp only at h15 ⊢
            generalize mayCome (l ++ ({ placeE (Ent.fresh (k : Int) 4 false) (64 + y.at_) y.size with read := true } : Ent) :: R) ((k : Int) + 1 + (i : Int)) true = mc
            clear h14
            clear d0 d1 d2 d3 d4 hxl
            obtain ⟨d0, d1, d2, d3, d4⟩ := cells5 h15.f2.heap
            have hxl := lt_of_heap' h15.f2.heap
            go_wp2_with fail
            refine (where_h h15 ((k : Int) + 1 + (i : Int)) (64 + x.at_) x.size (unhide HA)).mono ?_
            rintro r w16 ⟨v2, rfl, h16⟩
            rw [(unhide E).1] at h16 ⊢
            dsimp only at h16 ⊢
            clear h15
            obtain ⟨Av, cv, rfl, _⟩ := h16.slw.parts
            replace h16 := h16.tail
            clear d0 d1 d2 d3 d4 hxl
            go_wp2
            exact ⟨⟨i + 1, R', by go_num, by omega, (unhide E).2.2, h16.f2.tail⟩, by simp [intOf]; omega⟩
          · obtain rfl : i = n2 := by omega
            have HJ := hide hJ
            clear hJ
            go_wp2_with fail
            refine (look_h (unhide HJ) k).mono ?_
            rintro r w13 ⟨rfl, h13⟩
            rw [(unhide E).2.2.2.2.2 R]
            unfold GotS.cs
            dsimp only
            have h14 := h13.new #[.bool false, .int .u8 0, .int .u64 0] 37
            obtain ⟨kh, hkh⟩ : ∃ k, w13.heap.size = k := ⟨_, rfl⟩
            rw [hkh] at h14
            obtain ⟨g0, g1, g2, _, _, _⟩ := cells3f h14.f3.heap
            have hgl := lt_of_heap' h14.f3.heap
            obtain ⟨f0, f1, f2, _, _, _⟩ := cells3f h14.heap
            have hfl := lt_of_heap' h14.heap
            have Hkh := hide hkh
            have H14 := hide h14.below
            clear h13 h14 hkh HJ
            rw [← unhide Hkh] at f0 f1 f2 hfl
            go_wp2
            go_ret
            exact ⟨rfl, unhide H14⟩
      · clear hlt
        have Hx0 : OpS.ok ⟨false, 0, size, 0, 0⟩ := ⟨by dsimp only; omega, unhide HSZ, by dsimp only; omega, by dsimp only; omega⟩
        have hR := right_y hJ ⟨false, 0, size, 0, 0⟩ Hx0
        dsimp only at hR
        have HR := hide hR
        have HI := hide hI
        clear hR hJ Hx0 hI
        go_wp2_with fail
        refine (unhide HR).mono ?_
        rintro r w5 ⟨y, hyz, hy, rfl, h5⟩
        clear hyz HR
        have h6 := h5.new #[.bool y.store, .int .i64 y.at_, .int .i64 y.size, .int .u64 y.v, .int .u64 y.pc] 54
        obtain ⟨kb, hkb⟩ : ∃ k, w5.heap.size = k := ⟨_, rfl⟩
        rw [hkb] at h6
        have Hkb := hide hkb
        replace h6 := h6.f2
        clear hkb h5
        obtain ⟨d0, d1, d2, d3, d4⟩ := cells5 h6.f2.heap
        have hxl := lt_of_heap' h6.f2.heap
        have ha64 : 0 ≤ 64 + y.at_ ∧ 64 + y.at_ < 18446744073709551616 := by have := hy.a0; have := hy.a1; have := hy.sz; omega
        have hw0 : IntKind.i64.wrap (64 + y.at_) = 64 + y.at_ := by rw [wrap_i64]; have := hy.a0; have := hy.a1; have := hy.sz; split <;> omega
        have hw : IntKind.u64.wrap (64 + y.at_) = 64 + y.at_ := by rw [IntKind.wrap_u64]; omega
        have hki : -9223372036854775808 ≤ (k : Int) ∧ (k : Int) < 9223372036854775808 := by omega
        obtain ⟨e1, e2, e3, e4, e5⟩ := alone_load (unhide HI) hy
        have E := hide (And.intro e1 (And.intro e2 (And.intro e3 (And.intro e4 e5))))
        have HA := hide ha64
        have Hki := hide hki
        clear e1 e2 e3 e4 e5 ha64 hki
        go_wp2_with fail
        rw [unhide Hkb]
        refine (load_h h6 k 4 (unhide Hki) (by decide)).mono ?_
        rintro r w7 ⟨rfl, h7⟩
        dsimp only at h7 ⊢
        rw [(unhide E).1] at h7
        rw [(unhide E).2.1]
        clear h6
        clear d0 d1 d2 d3 d4 hxl
        obtain ⟨d0, d1, d2, d3, d4⟩ := cells5 h7.f2.heap
        have hxl := lt_of_heap' h7.f2.heap
        go_wp2_with fail
        refine (where_h h7 k (64 + y.at_) y.size (unhide HA)).mono ?_
        rintro r w8 ⟨v1, rfl, h8⟩
        rw [(unhide E).2.2.1] at h8 ⊢
        replace h8 := h8.tail
        dsimp only at h8 ⊢
        clear h7
        clear d0 d1 d2 d3 d4 hxl
        go_wp2_with fail
        refine (look_h h8 k).mono ?_
        rintro r w9 ⟨rfl, h9⟩
        rw [(unhide E).2.2.2.1 []]
        unfold GotS.cs
        dsimp only
        clear h8
        have h10 := h9.new #[.bool false, .int .u8 0, .int .u64 0] 37
        obtain ⟨kg, hkg⟩ : ∃ k, w9.heap.size = k := ⟨_, rfl⟩
        rw [hkg] at h10
        replace h10 := h10.f2
        obtain ⟨g0, g1, g2, _, _, _⟩ := cells3f h10.f2.heap
        have hgl := lt_of_heap' h10.f2.heap
        have Hkg := hide hkg
        clear h9 hkg
        go_wp2_with fail
        rw [unhide Hkg]
        refine (done_h h10 k).mono ?_
        rintro r w11 ⟨rfl, h11⟩
        rw [(unhide E).2.2.2.2.1] at h11 ⊢
        dsimp only at h11 ⊢
        clear h10 g0 g1 g2 hgl
        have h12 : Heap w w11 [HP.q b ⟨l ++ ({ placeE (Ent.fresh (k : Int) 4 false) (64 + y.at_) y.size with read := true } : Ent) :: [], H0⟩, HP.blk kg #[.bool false, .int .u8 0, .int .u64 0] 37] := h11.two
        have H12 := hide h12
        clear h11 h12 Hkg Hkb
        go_wp2
        go_loopw [16] (fun s16 wr => ∃ (i : Nat) (R : List Ent), s16 = .int .i64 i ∧ i ≤ n2 ∧ (∀ e ∈ R, (k : Int) < e.tag ∧ e.tag ≤ k + i ∧ e.read = false) ∧ Heap w wr [HP.q b ⟨l ++ ({ placeE (Ent.fresh (k : Int) 4 false) (64 + y.at_) y.size with read := true } : Ent) :: R, H0⟩, HP.blk kg #[.bool false, .int .u8 0, .int .u64 0] 37]) (fun s16 _ => n2 - (intOf s16).toNat)
        case atStart => exact ⟨0, [], rfl, Nat.zero_le _, by simp, unhide H12⟩
        case round =>
          obtain ⟨i, R, rfl, hi, hR, hJ⟩ := hrel
          have HRR := hide hR
          clear hR H12
          by_cases hin : i < n2
          · obtain ⟨ab2, ao2, rfl, z, hz, ⟨c0, c1, c2, c3, c4⟩, hab⟩ := op_at (unhide HS2) hJ.below hin
            have HJ := hide hJ
            clear hJ
            go_wp2_with fail
            refine (right_y (unhide HJ) z hz).mono ?_
            rintro r w13 ⟨x, hyz, hx, rfl, h13⟩
            clear hyz c0 c1 c2 c3 c4 hab HJ hz
            have h14 := h13.new #[.bool x.store, .int .i64 x.at_, .int .i64 x.size, .int .u64 x.v, .int .u64 x.pc] 54
            obtain ⟨kc, hkc⟩ : ∃ k, w13.heap.size = k := ⟨_, rfl⟩
            rw [hkc] at h14
            have Hkc := hide hkc
            replace h14 := h14.f2
            clear hkc h13
            obtain ⟨d0, d1, d2, d3, d4⟩ := cells5 h14.f2.heap
            have hxl := lt_of_heap' h14.f2.heap
            have ha64 : 0 ≤ 64 + x.at_ ∧ 64 + x.at_ < 18446744073709551616 := by have := hx.a0; have := hx.a1; have := hx.sz; omega
            have hw0 : IntKind.i64.wrap (64 + x.at_) = 64 + x.at_ := by rw [wrap_i64]; have := hx.a0; have := hx.a1; have := hx.sz; split <;> omega
            have hw : IntKind.u64.wrap (64 + x.at_) = 64 + x.at_ := by rw [IntKind.wrap_u64]; omega
            have hk1 : IntKind.i64.wrap ((k : Int) + 1) = (k : Int) + 1 := by rw [wrap_i64]; split <;> omega
            have hk2 : IntKind.i64.wrap ((k : Int) + 1 + (i : Int)) = (k : Int) + 1 + (i : Int) := by rw [wrap_i64]; split <;> omega
            have hki : -9223372036854775808 ≤ (k : Int) + 1 + (i : Int) ∧ (k : Int) + 1 + (i : Int) < 9223372036854775808 := by omega
            obtain ⟨R', s', e1, e2, i2⟩ := alone_later (unhide HI) hy (unhide HRR) hx
            have E := hide (And.intro e1 (And.intro e2 i2))
            have HA := hide ha64
            have Hki := hide hki
            clear e1 e2 i2 ha64 hki
            go_wp2_with fail
            rw [unhide Hkc]
            refine (store_h h14 ((k : Int) + 1 + (i : Int)) x.pc (unhide Hki) hx.pc).mono ?_
            rintro r w15 ⟨rfl, h15⟩
            dsimp only at h15 ⊢
            generalize mayCome (l ++ ({ placeE (Ent.fresh (k : Int) 4 false) (64 + y.at_) y.size with read := true } : Ent) :: R) ((k : Int) + 1 + (i : Int)) true = mc
            clear h14
            clear d0 d1 d2 d3 d4 hxl
            obtain ⟨d0, d1, d2, d3, d4⟩ := cells5 h15.f2.heap
            have hxl := lt_of_heap' h15.f2.heap
            go_wp2_with fail
            refine (where_h h15 ((k : Int) + 1 + (i : Int)) (64 + x.at_) x.size (unhide HA)).mono ?_
            rintro r w16 ⟨v2, rfl, h16⟩
            rw [(unhide E).1] at h16 ⊢
            dsimp only at h16 ⊢
            clear h15
            obtain ⟨Av, cv, rfl, _⟩ := h16.slw.parts
            replace h16 := h16.tail
            clear d0 d1 d2 d3 d4 hxl
            go_wp2
            exact ⟨⟨i + 1, R', by go_num, by omega, (unhide E).2.2, h16.f2.tail⟩, by simp [intOf]; omega⟩
          · obtain rfl : i = n2 := by omega
            have HJ := hide hJ
            clear hJ
            go_wp2_with fail
            refine (look_h (unhide HJ) k).mono ?_
            rintro r w13 ⟨rfl, h13⟩
            rw [(unhide E).2.2.2.2.2 R]
            unfold GotS.cs
            dsimp only
            have h14 := h13.new #[.bool false, .int .u8 0, .int .u64 0] 37
            obtain ⟨kh, hkh⟩ : ∃ k, w13.heap.size = k := ⟨_, rfl⟩
            rw [hkh] at h14
            obtain ⟨g0, g1, g2, _, _, _⟩ := cells3f h14.f3.heap
            have hgl := lt_of_heap' h14.f3.heap
            obtain ⟨f0, f1, f2, _, _, _⟩ := cells3f h14.heap
            have hfl := lt_of_heap' h14.heap
            have Hkh := hide hkh
            have H14 := hide h14.below
            clear h13 h14 hkh HJ
            rw [← unhide Hkh] at f0 f1 f2 hfl
            go_wp2
            go_ret
            exact ⟨rfl, unhide H14⟩
end Go.Proofs.Ytdmkgomcomcfhaa
