/- Layer 15: a fence takes what it names: the walk. -/
import Derived.Test.YtlkkmpfhhfaioaaT20
namespace Go.Proofs.Ytlkkmpfhhfaioaa
open Go.RowKit

/-- Each page begins where a page of its level may. -/
def Al (S : Slots) : Prop := ∀ n e, S n = some e → e.at_ % sizeI e.lv = 0
theorem Al.putS {S : Slots} (h : Al S) {e : E} (hw : e.wf) (sd : Int) : Al (putS S sd e) := by
  intro n f hf
  unfold Go.Proofs.Ytlkkmpfhhfaioaa.putS at hf
  cases hb : bad e with
  | true => rw [hb] at hf; exact h n f hf
  | false =>
    rw [hb] at hf
    simp only [Bool.false_eq_true, if_false, put] at hf
    split at hf
    · injection hf with hf; subst hf; exact (ok_of e hw hb).2.2
    · exact h n f hf
theorem S0_al : Al S0 := by simp [Al, S0]
theorem nm12 (x : Int) (h0 : 0 ≤ x) (h1 : x < 18446744073709551616) : bits .andNot .u64 x 4095 = x / 4096 * 4096 := by
  rw [u64_andNot x 4095 h0 h1 (by omega) (by omega)]
  have : x.toNat &&& (18446744073709551615 - (4095 : Int).toNat) = x.toNat / 4096 * 4096 := nat_and_high 12 52 x.toNat (by omega)
  rw [this]; omega
theorem nm21 (x : Int) (h0 : 0 ≤ x) (h1 : x < 18446744073709551616) : bits .andNot .u64 x 2097151 = x / 2097152 * 2097152 := by
  rw [u64_andNot x 2097151 h0 h1 (by omega) (by omega)]
  have : x.toNat &&& (18446744073709551615 - (2097151 : Int).toNat) = x.toNat / 2097152 * 2097152 := nat_and_high 21 43 x.toNat (by omega)
  rw [this]; omega
theorem nm30 (x : Int) (h0 : 0 ≤ x) (h1 : x < 18446744073709551616) : bits .andNot .u64 x 1073741823 = x / 1073741824 * 1073741824 := by
  rw [u64_andNot x 1073741823 h0 h1 (by omega) (by omega)]
  have : x.toNat &&& (18446744073709551615 - (1073741823 : Int).toNat) = x.toNat / 1073741824 * 1073741824 := nat_and_high 30 34 x.toNat (by omega)
  rw [this]; omega
theorem has_al {e : E} (hal : e.at_ % sizeI e.lv = 0) (a : Int) : hasB e a = decide (e.at_ = a / sizeI e.lv * sizeI e.lv) := by
  unfold hasB
  have hp := sizeI_pos e.lv
  unfold sizeI at *
  generalize (2 : Int) ^ (12 + 9 * e.lv.toNat) = s at *
  have h1 := Int.emod_add_mul_ediv e.at_ s
  rw [hal, Int.zero_add] at h1
  rw [Bool.eq_iff_iff, decide_eq_true_eq, decide_eq_true_eq]
  constructor
  · intro h; rw [← h, Int.mul_comm]; exact h1.symm
  · intro h
    have : e.at_ / s = a / s := by
      rw [h, Int.mul_ediv_cancel _ (by omega)]
    exact this
def cnt (P : E → Bool) (es : List E) (j : Nat) : Nat := ((es.take j).filter P).length
theorem cnt_step {P : E → Bool} {es : List E} {j : Nat} {e : E} (h : es[j]? = some e) (hp : P e = true) : cnt P es (j + 1) = cnt P es j + 1 := by
  unfold cnt
  rw [List.take_add_one, h, List.filter_append]
  simp [hp]
theorem cnt_stay {P : E → Bool} {es : List E} {j : Nat} {e : E} (h : es[j]? = some e) (hp : P e = false) : cnt P es (j + 1) = cnt P es j := by
  unfold cnt
  rw [List.take_add_one, h, List.filter_append]
  simp [hp]
theorem cnt_all {P : E → Bool} {es : List E} : cnt P es es.length = (es.filter P).length := by unfold cnt; rw [List.take_length]
theorem cnt_le {P : E → Bool} {es : List E} (j : Nat) : cnt P es j ≤ es.length :=
  Nat.le_trans (List.length_filter_le _ _) (by rw [List.length_take]; omega)
theorem filt_at {P : E → Bool} {es : List E} {j : Nat} {e : E} (h : es[j]? = some e) (hp : P e = true) : (es.filter P)[cnt P es j]? = some e := by
  obtain ⟨hj, he⟩ := List.getElem?_eq_some_iff.1 h
  have h1 : es = es.take j ++ e :: es.drop (j + 1) := by
    rw [← he, ← List.drop_eq_getElem_cons hj, List.take_append_drop]
  unfold cnt
  conv => lhs; rw [h1, List.filter_append]
  rw [List.take_append_of_le_length (by rw [List.length_take]; omega), List.take_take, Nat.min_self, List.getElem?_append_right (Nat.le_refl _), Nat.sub_self, List.filter_cons_of_pos hp]
  rfl
theorem kept_fence (S : Slots) (p : Fn) : ∀ k, k ≤ 8 → kept (fenK S p 8) k = (kept S k).filter fun e => !goes p e := by
  intro k
  induction k with
  | zero => intro _; rfl
  | succ k ih =>
    intro hk
    have hf : fenK S p 8 k = fen1 p (S k) := by unfold fenK; rw [if_pos (by omega)]
    cases hs : S k with
    | none => rw [kept_none hs, kept_none (by rw [hf, hs]; rfl)]; exact ih (by omega)
    | some e =>
      rw [kept_some hs, List.filter_append, ← ih (by omega)]
      cases hg : goes p e with
      | true => rw [kept_none (by rw [hf, hs]; simp [fen1, hg])]; simp [hg]
      | false => rw [kept_some (e := e) (by rw [hf, hs]; simp [fen1, hg])]; simp [hg]
theorem kept_mem {S : Slots} {k : Nat} {e : E} (h : e ∈ kept S k) : ∃ n, n < k ∧ S n = some e := by
  unfold kept at h
  obtain ⟨n, hn, he⟩ := List.mem_filterMap.1 h
  exact ⟨n, List.mem_range.1 hn, he⟩
theorem kept_allgone (S : Slots) (a sp : Int) : kept (fenK S ⟨false, a, false, sp⟩ 8) 8 = [] := by
  rw [kept_fence S _ 8 (by omega)]
  simp [goes]

set_option maxRecDepth 100000 in
set_option maxHeartbeats 4000000 in
theorem fences_walk (seed : Int) (s0 : 0 ≤ seed) (s1 : seed < 18446744073709551616) (A : Option Addr) (n cap : Nat) (bA : Bool) (a : Int) (a0 : 0 ≤ a) (a1 : a < 18446744073709551616) (bS : Bool) (sp : Int) (w : World) (hS : SlArg [some .i64, some .u64, some .i64, some .u64, none, some .u64] w A n) (hn : n ≤ 4398046511104) :
    Calls Try.prog 7 #[.int .u64 seed, .slice A n cap, .bool bA, .int .u64 a, .bool bS, .int .u64 sp] w fun e w' => e = .returned (.bool true) ∧ Below w.heap.size w w' := by
  have HS := hide hS
  clear hS
  go_enter Try.func7, Try.ntmps7
  go_wp2_with fail
  refine (fixed_h (Heap.nil w)).mono ?_
  rintro r w1 ⟨rfl, h1⟩
  go_wp2_with fail
  refine (new_h h1 s0 s1).mono ?_
  rintro r w2 ⟨b, rfl, h2⟩
  clear h1
  have HA0 := hide a0
  have HA1 := hide a1
  clear a0 a1
  go_wp2
  go_loopw [14] (fun i wr => ∃ (k : Nat) (sd : Int) (S : Slots), i = .int .i64 k ∧ k ≤ n ∧ Al S ∧ Heap w wr [HP.tl b sd S]) (fun i _ => n - (intOf i).toNat)
  case atStart => exact ⟨0, seed, S0, rfl, Nat.zero_le _, S0_al, h2⟩
  case round =>
    obtain ⟨k, sd, S, rfl, hk, hal, hJ⟩ := hrel
    clear h2
    have Hal := hide hal
    clear hal
    by_cases hlt : k < n
    · obtain ⟨ab, ao, rfl, kd, at_, lv, sq, gl, lf, ⟨x0, x1, x2, x3, x4, x5⟩, hwf, hab⟩ := step_at (unhide HS) hJ.below hlt
      go_wp2_with fail
      refine (entry_any kd at_ lv sq gl lf _).mono ?_
      rintro r w5 ⟨rfl, hg⟩
      have h5 := hJ.grown hg
      clear hg
      go_wp2_with fail
      refine (put_h (e := (⟨at_, lv, sq, gl, lf⟩ : E)) h5 hwf).mono ?_
      rintro r w6 ⟨rfl, h6⟩
      clear h5
      go_wp2
      exact ⟨⟨k + 1, _, _, by go_num, by omega, (unhide Hal).putS hwf _, h6⟩, by simp [intOf]; omega⟩
    · obtain rfl : k = n := by omega
      have hI := hide hJ.tlInv
      have hkl := kept_len S 8
      go_wp2_with fail
      refine (all_h hJ).mono ?_
      rintro r w4 ⟨v, rfl, h4⟩
      obtain ⟨A15, cap15, rfl, _⟩ := h4.slw.parts
      go_wp2_with fail
      refine (fence_h h4.f2 bA a bS sp (unhide HA0) (unhide HA1)).mono ?_
      rintro r w5 ⟨rfl, h5⟩
      clear h4
      go_wp2_with fail
      refine (all_h h5).mono ?_
      rintro r w6 ⟨v, rfl, h6⟩
      obtain ⟨A16, cap16, rfl, _⟩ := h6.slw.parts
      clear h5 hJ
      obtain ⟨p, hp⟩ : ∃ p : Fn, p = ⟨bA, a, bS, sp⟩ := ⟨_, rfl⟩
      rw [← hp] at h6 ⊢
      have hf := kept_fence S p 8 (by omega)
      have HK : Hid (∀ e ∈ kept S 8, e.ok ∧ e.at_ % sizeI e.lv = 0) := hide fun e he => by
        obtain ⟨m, _, hm⟩ := kept_mem he
        exact ⟨(unhide hI).ok m e hm, unhide Hal m e hm⟩
      generalize kept S 8 = es at *
      have Hp := hide hp
      clear hp
      generalize fenK S p 8 = S' at *
      generalize kept S' 8 = fs at *
      have HF := hide hf.symm
      have hfl : fs.length ≤ es.length := by rw [hf]; exact List.length_filter_le _ _
      have hfc : cnt (fun f => !goes p f) es es.length = fs.length := by rw [cnt_all, hf]
      have Hfc := hide hfc
      clear hf hfc
      go_wp2
      go_loopw [17, 18] (fun kv jv wr => ∃ j : Nat, jv = .int .i64 j ∧ j ≤ es.length ∧ kv = .int .i64 (cnt (fun f => !goes p f) es j) ∧ Heap w wr [HP.slw (.slice A16 fs.length cap16) 5 fs.length (ecs fs), HP.tl b sd S', HP.slw (.slice A15 es.length cap15) 5 es.length (ecs es)]) (fun _ jv _ => es.length - (intOf jv).toNat)
      case atStart => exact ⟨0, rfl, Nat.zero_le _, rfl, h6⟩
      case round =>
        obtain ⟨j, rfl, hj, rfl, hJ⟩ := hrel
        clear h6
        by_cases hjm : j < es.length
        · obtain ⟨e, he⟩ : ∃ e, es[j]? = some e := ⟨_, List.getElem?_eq_getElem hjm⟩
          obtain ⟨g, o, _, h1, hgl, _, c0, c1, c2, c3, c4⟩ := cellsE hJ.f3.slw he
          injection h1 with hA1 _ hA2
          subst hA1 hA2
          obtain ⟨hok, hal⟩ := unhide HK e (List.mem_of_getElem? he)
          have hlv := lv_cases hok
          have HX := hide (has_al hal a)
          have HO := hide hok
          have HE := hide he
          have hp := unhide Hp
          clear he hok hal
          obtain ⟨x, lv, sp', gl, lf⟩ := e
          simp only at hlv c0 c1 c2 c3 c4
          have J1 := hJ.new #[.int .u64 x, .int .i64 lv, .int .u64 sp', .bool gl, .int .u64 lf] 33
          have c5 := cells5 J1.heap
          have hxl := lt_of_heap' J1.heap
          rcases hlv with rfl | rfl | rfl
          · obtain ⟨X, hX⟩ : ∃ X, bits .andNot .u64 a 4095 = X := ⟨_, rfl⟩
            replace HX : Hid (hasB ⟨x, 0, sp', gl, lf⟩ a = decide (x = X)) := hide (by
              rw [unhide HX, ← hX, nm12 a (unhide HA0) (unhide HA1)]
              rfl)
            cases bA with
            | false =>
              cases bS with
              | false =>
                have hgo : Hid (goes p ⟨x, 0, sp', gl, lf⟩ = true) := hide (by rw [hp, goes, unhide HX]; simp [*])
                go_wp2
                exact ⟨⟨j + 1, by go_num, by omega, by rw [cnt_stay (unhide HE) (by rw [unhide hgo]; rfl)], J1.tail⟩, by simp [intOf]; omega⟩
              | true =>
                cases gl with
                | true =>
                  have hgo : Hid (goes p ⟨x, 0, sp', true, lf⟩ = false) := hide (by rw [hp, goes, unhide HX]; simp [*])
                  have hcs := cnt_step (unhide HE) (P := fun f => !goes p f) (by rw [unhide hgo]; rfl)
                  have hat := filt_at (unhide HE) (P := fun f => !goes p f) (by rw [unhide hgo]; rfl)
                  rw [unhide HF] at hat
                  obtain ⟨g2, o2, _, h2, hgl2, _, d0, d1, d2, d3, d4⟩ := cellsE J1.f2.slw hat
                  injection h2 with hB1 _ hB2
                  subst hB1 hB2
                  have hkl : cnt (fun f => !goes p f) es j < fs.length := (List.getElem?_eq_some_iff.1 hat).1
                  have heq := eq33n ⟨x, 0, sp', true, lf⟩ (unhide HO)
                  have hcs := hide hcs
                  generalize cnt (fun f => !goes p f) es j = k at *
                  clear hat
                  have hge : decide ((fs.length : Int) ≤ (k : Int)) = false := decide_eq_false (by omega)
                  have hk0 : (0 : Int) ≤ (k : Int) := by omega
                  have hk1 : (k : Int) < (fs.length : Int) := by omega
                  go_wp2
                  go_quiet (fail)
                  go_wp2
                  go_roundw
                  case rel => exact ⟨j + 1, by go_num, by omega, by rw [unhide hcs]; go_num, J1.tail.drewN _⟩
                  case measure => simp [intOf]; omega
                | false =>
                  by_cases hsp : sp' = sp
                  · have z : (sp' == sp) = true := beq_iff_eq.2 hsp
                    have hgo : Hid (goes p ⟨x, 0, sp', false, lf⟩ = true) := hide (by rw [hp, goes, unhide HX]; simp [*])
                    clear hsp
                    go_wp2
                    exact ⟨⟨j + 1, by go_num, by omega, by rw [cnt_stay (unhide HE) (by rw [unhide hgo]; rfl)], J1.tail⟩, by simp [intOf]; omega⟩
                  · have z : (sp' == sp) = false := beq_eq_false_iff_ne.2 hsp
                    have hgo : Hid (goes p ⟨x, 0, sp', false, lf⟩ = false) := hide (by rw [hp, goes, unhide HX]; simp [*])
                    clear hsp
                    have hcs := cnt_step (unhide HE) (P := fun f => !goes p f) (by rw [unhide hgo]; rfl)
                    have hat := filt_at (unhide HE) (P := fun f => !goes p f) (by rw [unhide hgo]; rfl)
                    rw [unhide HF] at hat
                    obtain ⟨g2, o2, _, h2, hgl2, _, d0, d1, d2, d3, d4⟩ := cellsE J1.f2.slw hat
                    injection h2 with hB1 _ hB2
                    subst hB1 hB2
                    have hkl : cnt (fun f => !goes p f) es j < fs.length := (List.getElem?_eq_some_iff.1 hat).1
                    have heq := eq33n ⟨x, 0, sp', false, lf⟩ (unhide HO)
                    have hcs := hide hcs
                    generalize cnt (fun f => !goes p f) es j = k at *
                    clear hat
                    have hge : decide ((fs.length : Int) ≤ (k : Int)) = false := decide_eq_false (by omega)
                    have hk0 : (0 : Int) ≤ (k : Int) := by omega
                    have hk1 : (k : Int) < (fs.length : Int) := by omega
                    go_wp2
                    go_quiet (fail)
                    go_wp2
                    go_roundw
                    case rel => exact ⟨j + 1, by go_num, by omega, by rw [unhide hcs]; go_num, J1.tail.drewN _⟩
                    case measure => simp [intOf]; omega
            | true =>
              by_cases hxX : x = X
              · have zx : (x == X) = true := beq_iff_eq.2 hxX
                cases bS with
                | false =>
                  have hgo : Hid (goes p ⟨x, 0, sp', gl, lf⟩ = true) := hide (by rw [hp, goes, unhide HX]; simp [*])
                  clear hxX
                  go_wp2
                  exact ⟨⟨j + 1, by go_num, by omega, by rw [cnt_stay (unhide HE) (by rw [unhide hgo]; rfl)], J1.tail⟩, by simp [intOf]; omega⟩
                | true =>
                  cases gl with
                  | true =>
                    have hgo : Hid (goes p ⟨x, 0, sp', true, lf⟩ = false) := hide (by rw [hp, goes, unhide HX]; simp [*])
                    clear hxX
                    have hcs := cnt_step (unhide HE) (P := fun f => !goes p f) (by rw [unhide hgo]; rfl)
                    have hat := filt_at (unhide HE) (P := fun f => !goes p f) (by rw [unhide hgo]; rfl)
                    rw [unhide HF] at hat
                    obtain ⟨g2, o2, _, h2, hgl2, _, d0, d1, d2, d3, d4⟩ := cellsE J1.f2.slw hat
                    injection h2 with hB1 _ hB2
                    subst hB1 hB2
                    have hkl : cnt (fun f => !goes p f) es j < fs.length := (List.getElem?_eq_some_iff.1 hat).1
                    have heq := eq33n ⟨x, 0, sp', true, lf⟩ (unhide HO)
                    have hcs := hide hcs
                    generalize cnt (fun f => !goes p f) es j = k at *
                    clear hat
                    have hge : decide ((fs.length : Int) ≤ (k : Int)) = false := decide_eq_false (by omega)
                    have hk0 : (0 : Int) ≤ (k : Int) := by omega
                    have hk1 : (k : Int) < (fs.length : Int) := by omega
                    go_wp2
                    go_quiet (fail)
                    go_wp2
                    go_roundw
                    case rel => exact ⟨j + 1, by go_num, by omega, by rw [unhide hcs]; go_num, J1.tail.drewN _⟩
                    case measure => simp [intOf]; omega
                  | false =>
                    by_cases hsp : sp' = sp
                    · have z : (sp' == sp) = true := beq_iff_eq.2 hsp
                      have hgo : Hid (goes p ⟨x, 0, sp', false, lf⟩ = true) := hide (by rw [hp, goes, unhide HX]; simp [*])
                      clear hxX
                      clear hsp
                      go_wp2
                      exact ⟨⟨j + 1, by go_num, by omega, by rw [cnt_stay (unhide HE) (by rw [unhide hgo]; rfl)], J1.tail⟩, by simp [intOf]; omega⟩
                    · have z : (sp' == sp) = false := beq_eq_false_iff_ne.2 hsp
                      have hgo : Hid (goes p ⟨x, 0, sp', false, lf⟩ = false) := hide (by rw [hp, goes, unhide HX]; simp [*])
                      clear hxX
                      clear hsp
                      have hcs := cnt_step (unhide HE) (P := fun f => !goes p f) (by rw [unhide hgo]; rfl)
                      have hat := filt_at (unhide HE) (P := fun f => !goes p f) (by rw [unhide hgo]; rfl)
                      rw [unhide HF] at hat
                      obtain ⟨g2, o2, _, h2, hgl2, _, d0, d1, d2, d3, d4⟩ := cellsE J1.f2.slw hat
                      injection h2 with hB1 _ hB2
                      subst hB1 hB2
                      have hkl : cnt (fun f => !goes p f) es j < fs.length := (List.getElem?_eq_some_iff.1 hat).1
                      have heq := eq33n ⟨x, 0, sp', false, lf⟩ (unhide HO)
                      have hcs := hide hcs
                      generalize cnt (fun f => !goes p f) es j = k at *
                      clear hat
                      have hge : decide ((fs.length : Int) ≤ (k : Int)) = false := decide_eq_false (by omega)
                      have hk0 : (0 : Int) ≤ (k : Int) := by omega
                      have hk1 : (k : Int) < (fs.length : Int) := by omega
                      go_wp2
                      go_quiet (fail)
                      go_wp2
                      go_roundw
                      case rel => exact ⟨j + 1, by go_num, by omega, by rw [unhide hcs]; go_num, J1.tail.drewN _⟩
                      case measure => simp [intOf]; omega
              · have zx : (x == X) = false := beq_eq_false_iff_ne.2 hxX
                have hgo : Hid (goes p ⟨x, 0, sp', gl, lf⟩ = false) := hide (by rw [hp, goes, unhide HX]; simp [*])
                clear hxX
                have hcs := cnt_step (unhide HE) (P := fun f => !goes p f) (by rw [unhide hgo]; rfl)
                have hat := filt_at (unhide HE) (P := fun f => !goes p f) (by rw [unhide hgo]; rfl)
                rw [unhide HF] at hat
                obtain ⟨g2, o2, _, h2, hgl2, _, d0, d1, d2, d3, d4⟩ := cellsE J1.f2.slw hat
                injection h2 with hB1 _ hB2
                subst hB1 hB2
                have hkl : cnt (fun f => !goes p f) es j < fs.length := (List.getElem?_eq_some_iff.1 hat).1
                have heq := eq33n ⟨x, 0, sp', gl, lf⟩ (unhide HO)
                have hcs := hide hcs
                generalize cnt (fun f => !goes p f) es j = k at *
                clear hat
                have hge : decide ((fs.length : Int) ≤ (k : Int)) = false := decide_eq_false (by omega)
                have hk0 : (0 : Int) ≤ (k : Int) := by omega
                have hk1 : (k : Int) < (fs.length : Int) := by omega
                go_wp2
                go_quiet (fail)
                go_wp2
                go_roundw
                case rel => exact ⟨j + 1, by go_num, by omega, by rw [unhide hcs]; go_num, J1.tail.drewN _⟩
                case measure => simp [intOf]; omega
          · obtain ⟨X, hX⟩ : ∃ X, bits .andNot .u64 a 2097151 = X := ⟨_, rfl⟩
            replace HX : Hid (hasB ⟨x, 1, sp', gl, lf⟩ a = decide (x = X)) := hide (by
              rw [unhide HX, ← hX, nm21 a (unhide HA0) (unhide HA1)]
              rfl)
            cases bA with
            | false =>
              cases bS with
              | false =>
                have hgo : Hid (goes p ⟨x, 1, sp', gl, lf⟩ = true) := hide (by rw [hp, goes, unhide HX]; simp [*])
                go_wp2
                exact ⟨⟨j + 1, by go_num, by omega, by rw [cnt_stay (unhide HE) (by rw [unhide hgo]; rfl)], J1.tail⟩, by simp [intOf]; omega⟩
              | true =>
                cases gl with
                | true =>
                  have hgo : Hid (goes p ⟨x, 1, sp', true, lf⟩ = false) := hide (by rw [hp, goes, unhide HX]; simp [*])
                  have hcs := cnt_step (unhide HE) (P := fun f => !goes p f) (by rw [unhide hgo]; rfl)
                  have hat := filt_at (unhide HE) (P := fun f => !goes p f) (by rw [unhide hgo]; rfl)
                  rw [unhide HF] at hat
                  obtain ⟨g2, o2, _, h2, hgl2, _, d0, d1, d2, d3, d4⟩ := cellsE J1.f2.slw hat
                  injection h2 with hB1 _ hB2
                  subst hB1 hB2
                  have hkl : cnt (fun f => !goes p f) es j < fs.length := (List.getElem?_eq_some_iff.1 hat).1
                  have heq := eq33n ⟨x, 1, sp', true, lf⟩ (unhide HO)
                  have hcs := hide hcs
                  generalize cnt (fun f => !goes p f) es j = k at *
                  clear hat
                  have hge : decide ((fs.length : Int) ≤ (k : Int)) = false := decide_eq_false (by omega)
                  have hk0 : (0 : Int) ≤ (k : Int) := by omega
                  have hk1 : (k : Int) < (fs.length : Int) := by omega
                  go_wp2
                  go_quiet (fail)
                  go_wp2
                  go_roundw
                  case rel => exact ⟨j + 1, by go_num, by omega, by rw [unhide hcs]; go_num, J1.tail.drewN _⟩
                  case measure => simp [intOf]; omega
                | false =>
                  by_cases hsp : sp' = sp
                  · have z : (sp' == sp) = true := beq_iff_eq.2 hsp
                    have hgo : Hid (goes p ⟨x, 1, sp', false, lf⟩ = true) := hide (by rw [hp, goes, unhide HX]; simp [*])
                    clear hsp
                    go_wp2
                    exact ⟨⟨j + 1, by go_num, by omega, by rw [cnt_stay (unhide HE) (by rw [unhide hgo]; rfl)], J1.tail⟩, by simp [intOf]; omega⟩
                  · have z : (sp' == sp) = false := beq_eq_false_iff_ne.2 hsp
                    have hgo : Hid (goes p ⟨x, 1, sp', false, lf⟩ = false) := hide (by rw [hp, goes, unhide HX]; simp [*])
                    clear hsp
                    have hcs := cnt_step (unhide HE) (P := fun f => !goes p f) (by rw [unhide hgo]; rfl)
                    have hat := filt_at (unhide HE) (P := fun f => !goes p f) (by rw [unhide hgo]; rfl)
                    rw [unhide HF] at hat
                    obtain ⟨g2, o2, _, h2, hgl2, _, d0, d1, d2, d3, d4⟩ := cellsE J1.f2.slw hat
                    injection h2 with hB1 _ hB2
                    subst hB1 hB2
                    have hkl : cnt (fun f => !goes p f) es j < fs.length := (List.getElem?_eq_some_iff.1 hat).1
                    have heq := eq33n ⟨x, 1, sp', false, lf⟩ (unhide HO)
                    have hcs := hide hcs
                    generalize cnt (fun f => !goes p f) es j = k at *
                    clear hat
                    have hge : decide ((fs.length : Int) ≤ (k : Int)) = false := decide_eq_false (by omega)
                    have hk0 : (0 : Int) ≤ (k : Int) := by omega
                    have hk1 : (k : Int) < (fs.length : Int) := by omega
                    go_wp2
                    go_quiet (fail)
                    go_wp2
                    go_roundw
                    case rel => exact ⟨j + 1, by go_num, by omega, by rw [unhide hcs]; go_num, J1.tail.drewN _⟩
                    case measure => simp [intOf]; omega
            | true =>
              by_cases hxX : x = X
              · have zx : (x == X) = true := beq_iff_eq.2 hxX
                cases bS with
                | false =>
                  have hgo : Hid (goes p ⟨x, 1, sp', gl, lf⟩ = true) := hide (by rw [hp, goes, unhide HX]; simp [*])
                  clear hxX
                  go_wp2
                  exact ⟨⟨j + 1, by go_num, by omega, by rw [cnt_stay (unhide HE) (by rw [unhide hgo]; rfl)], J1.tail⟩, by simp [intOf]; omega⟩
                | true =>
                  cases gl with
                  | true =>
                    have hgo : Hid (goes p ⟨x, 1, sp', true, lf⟩ = false) := hide (by rw [hp, goes, unhide HX]; simp [*])
                    clear hxX
                    have hcs := cnt_step (unhide HE) (P := fun f => !goes p f) (by rw [unhide hgo]; rfl)
                    have hat := filt_at (unhide HE) (P := fun f => !goes p f) (by rw [unhide hgo]; rfl)
                    rw [unhide HF] at hat
                    obtain ⟨g2, o2, _, h2, hgl2, _, d0, d1, d2, d3, d4⟩ := cellsE J1.f2.slw hat
                    injection h2 with hB1 _ hB2
                    subst hB1 hB2
                    have hkl : cnt (fun f => !goes p f) es j < fs.length := (List.getElem?_eq_some_iff.1 hat).1
                    have heq := eq33n ⟨x, 1, sp', true, lf⟩ (unhide HO)
                    have hcs := hide hcs
                    generalize cnt (fun f => !goes p f) es j = k at *
                    clear hat
                    have hge : decide ((fs.length : Int) ≤ (k : Int)) = false := decide_eq_false (by omega)
                    have hk0 : (0 : Int) ≤ (k : Int) := by omega
                    have hk1 : (k : Int) < (fs.length : Int) := by omega
                    go_wp2
                    go_quiet (fail)
                    go_wp2
                    go_roundw
                    case rel => exact ⟨j + 1, by go_num, by omega, by rw [unhide hcs]; go_num, J1.tail.drewN _⟩
                    case measure => simp [intOf]; omega
                  | false =>
                    by_cases hsp : sp' = sp
                    · have z : (sp' == sp) = true := beq_iff_eq.2 hsp
                      have hgo : Hid (goes p ⟨x, 1, sp', false, lf⟩ = true) := hide (by rw [hp, goes, unhide HX]; simp [*])
                      clear hxX
                      clear hsp
                      go_wp2
                      exact ⟨⟨j + 1, by go_num, by omega, by rw [cnt_stay (unhide HE) (by rw [unhide hgo]; rfl)], J1.tail⟩, by simp [intOf]; omega⟩
                    · have z : (sp' == sp) = false := beq_eq_false_iff_ne.2 hsp
                      have hgo : Hid (goes p ⟨x, 1, sp', false, lf⟩ = false) := hide (by rw [hp, goes, unhide HX]; simp [*])
                      clear hxX
                      clear hsp
                      have hcs := cnt_step (unhide HE) (P := fun f => !goes p f) (by rw [unhide hgo]; rfl)
                      have hat := filt_at (unhide HE) (P := fun f => !goes p f) (by rw [unhide hgo]; rfl)
                      rw [unhide HF] at hat
                      obtain ⟨g2, o2, _, h2, hgl2, _, d0, d1, d2, d3, d4⟩ := cellsE J1.f2.slw hat
                      injection h2 with hB1 _ hB2
                      subst hB1 hB2
                      have hkl : cnt (fun f => !goes p f) es j < fs.length := (List.getElem?_eq_some_iff.1 hat).1
                      have heq := eq33n ⟨x, 1, sp', false, lf⟩ (unhide HO)
                      have hcs := hide hcs
                      generalize cnt (fun f => !goes p f) es j = k at *
                      clear hat
                      have hge : decide ((fs.length : Int) ≤ (k : Int)) = false := decide_eq_false (by omega)
                      have hk0 : (0 : Int) ≤ (k : Int) := by omega
                      have hk1 : (k : Int) < (fs.length : Int) := by omega
                      go_wp2
                      go_quiet (fail)
                      go_wp2
                      go_roundw
                      case rel => exact ⟨j + 1, by go_num, by omega, by rw [unhide hcs]; go_num, J1.tail.drewN _⟩
                      case measure => simp [intOf]; omega
              · have zx : (x == X) = false := beq_eq_false_iff_ne.2 hxX
                have hgo : Hid (goes p ⟨x, 1, sp', gl, lf⟩ = false) := hide (by rw [hp, goes, unhide HX]; simp [*])
                clear hxX
                have hcs := cnt_step (unhide HE) (P := fun f => !goes p f) (by rw [unhide hgo]; rfl)
                have hat := filt_at (unhide HE) (P := fun f => !goes p f) (by rw [unhide hgo]; rfl)
                rw [unhide HF] at hat
                obtain ⟨g2, o2, _, h2, hgl2, _, d0, d1, d2, d3, d4⟩ := cellsE J1.f2.slw hat
                injection h2 with hB1 _ hB2
                subst hB1 hB2
                have hkl : cnt (fun f => !goes p f) es j < fs.length := (List.getElem?_eq_some_iff.1 hat).1
                have heq := eq33n ⟨x, 1, sp', gl, lf⟩ (unhide HO)
                have hcs := hide hcs
                generalize cnt (fun f => !goes p f) es j = k at *
                clear hat
                have hge : decide ((fs.length : Int) ≤ (k : Int)) = false := decide_eq_false (by omega)
                have hk0 : (0 : Int) ≤ (k : Int) := by omega
                have hk1 : (k : Int) < (fs.length : Int) := by omega
                go_wp2
                go_quiet (fail)
                go_wp2
                go_roundw
                case rel => exact ⟨j + 1, by go_num, by omega, by rw [unhide hcs]; go_num, J1.tail.drewN _⟩
                case measure => simp [intOf]; omega
          · obtain ⟨X, hX⟩ : ∃ X, bits .andNot .u64 a 1073741823 = X := ⟨_, rfl⟩
            replace HX : Hid (hasB ⟨x, 2, sp', gl, lf⟩ a = decide (x = X)) := hide (by
              rw [unhide HX, ← hX, nm30 a (unhide HA0) (unhide HA1)]
              rfl)
            cases bA with
            | false =>
              cases bS with
              | false =>
                have hgo : Hid (goes p ⟨x, 2, sp', gl, lf⟩ = true) := hide (by rw [hp, goes, unhide HX]; simp [*])
                go_wp2
                exact ⟨⟨j + 1, by go_num, by omega, by rw [cnt_stay (unhide HE) (by rw [unhide hgo]; rfl)], J1.tail⟩, by simp [intOf]; omega⟩
              | true =>
                cases gl with
                | true =>
                  have hgo : Hid (goes p ⟨x, 2, sp', true, lf⟩ = false) := hide (by rw [hp, goes, unhide HX]; simp [*])
                  have hcs := cnt_step (unhide HE) (P := fun f => !goes p f) (by rw [unhide hgo]; rfl)
                  have hat := filt_at (unhide HE) (P := fun f => !goes p f) (by rw [unhide hgo]; rfl)
                  rw [unhide HF] at hat
                  obtain ⟨g2, o2, _, h2, hgl2, _, d0, d1, d2, d3, d4⟩ := cellsE J1.f2.slw hat
                  injection h2 with hB1 _ hB2
                  subst hB1 hB2
                  have hkl : cnt (fun f => !goes p f) es j < fs.length := (List.getElem?_eq_some_iff.1 hat).1
                  have heq := eq33n ⟨x, 2, sp', true, lf⟩ (unhide HO)
                  have hcs := hide hcs
                  generalize cnt (fun f => !goes p f) es j = k at *
                  clear hat
                  have hge : decide ((fs.length : Int) ≤ (k : Int)) = false := decide_eq_false (by omega)
                  have hk0 : (0 : Int) ≤ (k : Int) := by omega
                  have hk1 : (k : Int) < (fs.length : Int) := by omega
                  go_wp2
                  go_quiet (fail)
                  go_wp2
                  go_roundw
                  case rel => exact ⟨j + 1, by go_num, by omega, by rw [unhide hcs]; go_num, J1.tail.drewN _⟩
                  case measure => simp [intOf]; omega
                | false =>
                  by_cases hsp : sp' = sp
                  · have z : (sp' == sp) = true := beq_iff_eq.2 hsp
                    have hgo : Hid (goes p ⟨x, 2, sp', false, lf⟩ = true) := hide (by rw [hp, goes, unhide HX]; simp [*])
                    clear hsp
                    go_wp2
                    exact ⟨⟨j + 1, by go_num, by omega, by rw [cnt_stay (unhide HE) (by rw [unhide hgo]; rfl)], J1.tail⟩, by simp [intOf]; omega⟩
                  · have z : (sp' == sp) = false := beq_eq_false_iff_ne.2 hsp
                    have hgo : Hid (goes p ⟨x, 2, sp', false, lf⟩ = false) := hide (by rw [hp, goes, unhide HX]; simp [*])
                    clear hsp
                    have hcs := cnt_step (unhide HE) (P := fun f => !goes p f) (by rw [unhide hgo]; rfl)
                    have hat := filt_at (unhide HE) (P := fun f => !goes p f) (by rw [unhide hgo]; rfl)
                    rw [unhide HF] at hat
                    obtain ⟨g2, o2, _, h2, hgl2, _, d0, d1, d2, d3, d4⟩ := cellsE J1.f2.slw hat
                    injection h2 with hB1 _ hB2
                    subst hB1 hB2
                    have hkl : cnt (fun f => !goes p f) es j < fs.length := (List.getElem?_eq_some_iff.1 hat).1
                    have heq := eq33n ⟨x, 2, sp', false, lf⟩ (unhide HO)
                    have hcs := hide hcs
                    generalize cnt (fun f => !goes p f) es j = k at *
                    clear hat
                    have hge : decide ((fs.length : Int) ≤ (k : Int)) = false := decide_eq_false (by omega)
                    have hk0 : (0 : Int) ≤ (k : Int) := by omega
                    have hk1 : (k : Int) < (fs.length : Int) := by omega
                    go_wp2
                    go_quiet (fail)
                    go_wp2
                    go_roundw
                    case rel => exact ⟨j + 1, by go_num, by omega, by rw [unhide hcs]; go_num, J1.tail.drewN _⟩
                    case measure => simp [intOf]; omega
            | true =>
              by_cases hxX : x = X
              · have zx : (x == X) = true := beq_iff_eq.2 hxX
                cases bS with
                | false =>
                  have hgo : Hid (goes p ⟨x, 2, sp', gl, lf⟩ = true) := hide (by rw [hp, goes, unhide HX]; simp [*])
                  clear hxX
                  go_wp2
                  exact ⟨⟨j + 1, by go_num, by omega, by rw [cnt_stay (unhide HE) (by rw [unhide hgo]; rfl)], J1.tail⟩, by simp [intOf]; omega⟩
                | true =>
                  cases gl with
                  | true =>
                    have hgo : Hid (goes p ⟨x, 2, sp', true, lf⟩ = false) := hide (by rw [hp, goes, unhide HX]; simp [*])
                    clear hxX
                    have hcs := cnt_step (unhide HE) (P := fun f => !goes p f) (by rw [unhide hgo]; rfl)
                    have hat := filt_at (unhide HE) (P := fun f => !goes p f) (by rw [unhide hgo]; rfl)
                    rw [unhide HF] at hat
                    obtain ⟨g2, o2, _, h2, hgl2, _, d0, d1, d2, d3, d4⟩ := cellsE J1.f2.slw hat
                    injection h2 with hB1 _ hB2
                    subst hB1 hB2
                    have hkl : cnt (fun f => !goes p f) es j < fs.length := (List.getElem?_eq_some_iff.1 hat).1
                    have heq := eq33n ⟨x, 2, sp', true, lf⟩ (unhide HO)
                    have hcs := hide hcs
                    generalize cnt (fun f => !goes p f) es j = k at *
                    clear hat
                    have hge : decide ((fs.length : Int) ≤ (k : Int)) = false := decide_eq_false (by omega)
                    have hk0 : (0 : Int) ≤ (k : Int) := by omega
                    have hk1 : (k : Int) < (fs.length : Int) := by omega
                    go_wp2
                    go_quiet (fail)
                    go_wp2
                    go_roundw
                    case rel => exact ⟨j + 1, by go_num, by omega, by rw [unhide hcs]; go_num, J1.tail.drewN _⟩
                    case measure => simp [intOf]; omega
                  | false =>
                    by_cases hsp : sp' = sp
                    · have z : (sp' == sp) = true := beq_iff_eq.2 hsp
                      have hgo : Hid (goes p ⟨x, 2, sp', false, lf⟩ = true) := hide (by rw [hp, goes, unhide HX]; simp [*])
                      clear hxX
                      clear hsp
                      go_wp2
                      exact ⟨⟨j + 1, by go_num, by omega, by rw [cnt_stay (unhide HE) (by rw [unhide hgo]; rfl)], J1.tail⟩, by simp [intOf]; omega⟩
                    · have z : (sp' == sp) = false := beq_eq_false_iff_ne.2 hsp
                      have hgo : Hid (goes p ⟨x, 2, sp', false, lf⟩ = false) := hide (by rw [hp, goes, unhide HX]; simp [*])
                      clear hxX
                      clear hsp
                      have hcs := cnt_step (unhide HE) (P := fun f => !goes p f) (by rw [unhide hgo]; rfl)
                      have hat := filt_at (unhide HE) (P := fun f => !goes p f) (by rw [unhide hgo]; rfl)
                      rw [unhide HF] at hat
                      obtain ⟨g2, o2, _, h2, hgl2, _, d0, d1, d2, d3, d4⟩ := cellsE J1.f2.slw hat
                      injection h2 with hB1 _ hB2
                      subst hB1 hB2
                      have hkl : cnt (fun f => !goes p f) es j < fs.length := (List.getElem?_eq_some_iff.1 hat).1
                      have heq := eq33n ⟨x, 2, sp', false, lf⟩ (unhide HO)
                      have hcs := hide hcs
                      generalize cnt (fun f => !goes p f) es j = k at *
                      clear hat
                      have hge : decide ((fs.length : Int) ≤ (k : Int)) = false := decide_eq_false (by omega)
                      have hk0 : (0 : Int) ≤ (k : Int) := by omega
                      have hk1 : (k : Int) < (fs.length : Int) := by omega
                      go_wp2
                      go_quiet (fail)
                      go_wp2
                      go_roundw
                      case rel => exact ⟨j + 1, by go_num, by omega, by rw [unhide hcs]; go_num, J1.tail.drewN _⟩
                      case measure => simp [intOf]; omega
              · have zx : (x == X) = false := beq_eq_false_iff_ne.2 hxX
                have hgo : Hid (goes p ⟨x, 2, sp', gl, lf⟩ = false) := hide (by rw [hp, goes, unhide HX]; simp [*])
                clear hxX
                have hcs := cnt_step (unhide HE) (P := fun f => !goes p f) (by rw [unhide hgo]; rfl)
                have hat := filt_at (unhide HE) (P := fun f => !goes p f) (by rw [unhide hgo]; rfl)
                rw [unhide HF] at hat
                obtain ⟨g2, o2, _, h2, hgl2, _, d0, d1, d2, d3, d4⟩ := cellsE J1.f2.slw hat
                injection h2 with hB1 _ hB2
                subst hB1 hB2
                have hkl : cnt (fun f => !goes p f) es j < fs.length := (List.getElem?_eq_some_iff.1 hat).1
                have heq := eq33n ⟨x, 2, sp', gl, lf⟩ (unhide HO)
                have hcs := hide hcs
                generalize cnt (fun f => !goes p f) es j = k at *
                clear hat
                have hge : decide ((fs.length : Int) ≤ (k : Int)) = false := decide_eq_false (by omega)
                have hk0 : (0 : Int) ≤ (k : Int) := by omega
                have hk1 : (k : Int) < (fs.length : Int) := by omega
                go_wp2
                go_quiet (fail)
                go_wp2
                go_roundw
                case rel => exact ⟨j + 1, by go_num, by omega, by rw [unhide hcs]; go_num, J1.tail.drewN _⟩
                case measure => simp [intOf]; omega
        · obtain rfl : j = es.length := by omega
          rw [unhide Hfc]
          go_wp2_with fail
          refine (fence_h hJ.f2 false a false sp (unhide HA0) (unhide HA1)).mono ?_
          rintro r w8 ⟨rfl, h8⟩
          go_wp2_with fail
          refine (all_h h8).mono ?_
          rintro r w9 ⟨v, rfl, h9⟩
          rw [kept_allgone] at h9
          obtain ⟨A9, cap9, rfl, _⟩ := h9.slw.parts
          clear h8
          go_wp2
          go_ret
          exact ⟨rfl, h9.below⟩
end Go.Proofs.Ytlkkmpfhhfaioaa
