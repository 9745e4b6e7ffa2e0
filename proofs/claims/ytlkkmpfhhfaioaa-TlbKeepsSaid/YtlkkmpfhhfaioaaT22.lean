/- Layer 15: an entry serves its page: the walk. -/
import Derived.Test.YtlkkmpfhhfaioaaT21
import Derived.Deep.DeepCutAuto
namespace Go.Proofs.Ytlkkmpfhhfaioaa
open Go.RowKit

theorem find_one (e : E) (q a : Int) : findS (put S0 0 (some e)) q a = if (hasB e a && (e.gl || decide (e.sp = q))) = true then some e else none := by
  by_cases h : (hasB e a && (e.gl || decide (e.sp = q))) = true
  · rw [if_pos h]
    refine findS_at (k := 0) (by omega) (fun j hj => by omega) ?_
    simp only [hit, put, if_pos]
    rw [if_pos h]
  · rw [if_neg h]
    refine findS_none fun j hj => ?_
    by_cases h0 : j = 0
    · subst h0
      simp only [hit, put, if_pos]
      rw [if_neg h]
    · simp only [hit, put, if_neg h0, S0]
theorem putS_one (e : E) (hb : bad e = false) (sd : Int) : putS S0 sd e = put S0 0 (some e) := by
  unfold putS
  rw [hb]
  have h1 : place S0 e.key = none := by unfold place; exact List.find?_eq_none.2 (fun x _ => by simp [S0])
  have h2 : slot S0 sd = 0 := by unfold slot; rw [show freeN S0 = some 0 from by kernel_rfl]
  rw [h1, h2]
  rfl
theorem eq33e (e : E) (he : e.ok) (w : World) : (binOp .eql 33 (.agg #[.int .u64 e.at_, .int .i64 e.lv, .int .u64 e.sp, .bool e.gl, .int .u64 e.lf]) (.agg #[.int .u64 e.at_, .int .i64 e.lv, .int .u64 e.sp, .bool e.gl, .int .u64 e.lf])).run Try.prog w = .ok (.bool true) w :=
  run_eql_same flat33 named33 kt33 (formed33 _ _ _ _ _) (fits_e he)
theorem load_es {w : World} {g o cap n i : Nat} {es : List E} {e : E} (h : Sl w 5 (.slice (some ⟨g, o, none⟩) n cap) n (ecs es)) (hi : es[i]? = some e) :
    (Instr.loadAt 33 (.pointer (some ⟨g, o + i * 5, none⟩))).run Try.prog w = .ok (.agg #[.int .u64 e.at_, .int .i64 e.lv, .int .u64 e.sp, .bool e.gl, .int .u64 e.lf]) w := by
  obtain ⟨g', o', _, hv, _, _, d0, d1, d2, d3, d4⟩ := cellsE h hi
  injection hv with hv _ _
  injection hv with hv
  injection hv with e1 e2
  subst e1 e2
  refine run_loadAt_mid w g (o + i * 5) 33 [.int .u64 e.at_, .int .i64 e.lv, .int .u64 e.sp, .bool e.gl, .int .u64 e.lf] _ (fun j v hj => ?_) Try.underlying33 rfl (by kernel_rfl)
  have h5 : j = 0 ∨ j = 1 ∨ j = 2 ∨ j = 3 ∨ j = 4 := by
    have := (List.getElem?_eq_some_iff.1 hj).1
    simp at this
    omega
  rcases h5 with rfl | rfl | rfl | rfl | rfl <;> (simp at hj; subst hj; assumption)
theorem eqg33 {op : BinOp} {x y : Operand} {A B : Array Value} {v : Value} {w : World} (h : (binOp op 33 (.agg A) (.agg B)).run Try.prog w = .ok v w) : (do eqGuard op 33 x y (.agg A) (.agg B); binOp op 33 (.agg A) (.agg B) : Sem Value).run Try.prog w = .ok v w := by
  simp only [Sem.run_bind, run_eqGuard_agg (P := Try.prog) w op 33 x y A B (by kernel_rfl), Result.andThen_ok, h]
theorem kept_one (e : E) : kept (put S0 0 (some e)) 8 = [e] := by kernel_rfl

set_option maxRecDepth 100000 in
set_option maxHeartbeats 4000000 in
theorem pages_walk (kd at_ lv sp : Int) (gl : Bool) (lf : Int) (a0 : 0 ≤ at_) (a1 : at_ < 18446744073709551616) (l0 : -9223372036854775808 ≤ lv) (l1 : lv < 9223372036854775808) (p0 : 0 ≤ sp) (p1 : sp < 18446744073709551616) (f0 : 0 ≤ lf) (f1 : lf < 18446744073709551616)
    (s2 : Int) (at2 : Int) (t0 : 0 ≤ at2) (t1 : at2 < 18446744073709551616) (aw : Int) (w0' : 0 ≤ aw) (w1' : aw < 18446744073709551616) (w : World) :
    Calls Try.prog 6 #[.agg #[.int .i64 kd, .int .u64 at_, .int .i64 lv, .int .u64 sp, .bool gl, .int .u64 lf], .int .u64 s2, .int .u64 at2, .int .u64 aw] w fun e w' => e = .returned (.bool true) ∧ Below w.heap.size w w' := by
  go_enter Try.func6, Try.ntmps6
  have J0 := (Heap.nil w).new #[.int .i64 kd, .int .u64 at_, .int .i64 lv, .int .u64 sp, .bool gl, .int .u64 lf] 30
  have c6 := cells6 J0.heap
  have hxl := lt_of_heap' J0.heap
  go_wp2_with fail
  refine (fixed_h J0).mono ?_
  rintro r w1 ⟨rfl, h1⟩
  clear c6 hxl
  have c6 := cells6 h1.heap
  have hxl := lt_of_heap' h1.heap
  obtain ⟨m, hm⟩ : ∃ m, lv.tmod 3 = m := ⟨_, rfl⟩
  have hm3 : -2 ≤ m ∧ m ≤ 2 := by
    rcases Int.lt_or_le lv 0 with h | h
    · have := Int.tmod_eq_emod_of_nonneg (a := -lv) (b := 3) (by omega)
      rw [Int.neg_tmod] at this; omega
    · have := Int.tmod_eq_emod_of_nonneg (a := lv) (b := 3) h
      omega
  have hfin := hide (h1.tail.below)
  go_upto_if 29 with fail
  go_cut [9] (fun s9 wx => ∃ l : Int, s9 = .int .i64 l ∧ (l = 0 ∨ l = 1 ∨ l = 2) ∧ wx = w1)
  case first =>
    by_cases hneg : m < 0
    · have hd : decide (m < 0) = true := decide_eq_true hneg
      go_wp2
      go_meet
      exact ⟨-m, by go_num, by omega, rfl⟩
    · have hd : decide (m < 0) = false := decide_eq_false hneg
      go_wp2
      go_meet
      exact ⟨m, rfl, by omega, rfl⟩
  case rest =>
    obtain ⟨l, rfl, hl, rfl⟩ := hcut
    clear hm hm3
    have J1 := h1
    clear h1
    rcases hl with rfl | rfl | rfl
    · obtain ⟨X, hX⟩ : ∃ X, bits .andNot .u64 at_ 4095 = X := ⟨_, rfl⟩
      obtain ⟨R, hR⟩ : ∃ R, bits .and .u64 aw 4095 = R := ⟨_, rfl⟩
      obtain ⟨Y, hY⟩ : ∃ Y, bits .andNot .u64 at2 4095 = Y := ⟨_, rfl⟩
      obtain ⟨F, hF⟩ : ∃ F, bits .or .u64 X R = F := ⟨_, rfl⟩
      have HX : Hid (X = at_ / 4096 * 4096) := hide (by rw [← hX, nm12 at_ a0 a1])
      have HR : Hid (R = aw % 4096) := hide (by rw [← hR, mask12 aw w0' w1'])
      have HY : Hid (Y = at2 / 4096 * 4096) := hide (by rw [← hY, nm12 at2 t0 t1])
      have HF : Hid (F = X + aw % 4096) := hide (by
        rw [← hF, unhide HR, unhide HX]
        refine u64_orParts 12 _ _ (by omega) (by omega) (by omega) (by omega) ?_ ?_
        · show (at_ / 4096 * 4096).toNat % 4096 = 0; omega
        · show (aw % 4096).toNat < 4096; omega)
      have hs : sizeI 0 = 4096 := by kernel_rfl
      have hwf : (⟨X, 0, sp % 65536, gl, lf⟩ : E).wf := by
        have := unhide HX
        exact ⟨by show 0 ≤ X; omega, by show X < 18446744073709551616; omega, by show -9223372036854775808 ≤ (0 : Int); decide, by show (0 : Int) < 9223372036854775808; decide, by show 0 ≤ sp % 65536; omega, by show sp % 65536 < 18446744073709551616; omega, f0, f1⟩
      have hbad : bad (⟨X, 0, sp % 65536, gl, lf⟩ : E) = false := by
        unfold bad; have := unhide HX
        simp only [Bool.or_eq_false_iff, decide_eq_false_iff_not, Bool.not_eq_false', decide_eq_true_eq, hs]
        exact ⟨⟨⟨by omega, by omega⟩, by omega⟩, by omega⟩
      have hok := (ok_of (⟨X, 0, sp % 65536, gl, lf⟩ : E) hwf hbad).1
      have HO := hide hok
      have hxb : 0 ≤ X ∧ X < 18446744073709551616 ∧ X % 4096 = 0 := by have := unhide HX; omega
      have hfind : ∀ (q a : Int), findS (put S0 0 (some (⟨X, 0, sp % 65536, gl, lf⟩ : E))) q a = if a / 4096 = X / 4096 ∧ (gl = true ∨ q = sp % 65536) then some (⟨X, 0, sp % 65536, gl, lf⟩ : E) else none := fun q a => by
        rw [find_one]
        unfold hasB
        show (if (decide (X / 4096 = a / 4096) && (gl || decide (sp % 65536 = q))) = true then _ else _) = _
        simp only [Bool.and_eq_true, Bool.or_eq_true, decide_eq_true_eq]
        by_cases c1 : a / 4096 = X / 4096
        · simp [c1, eq_comm]
        · rw [if_neg (fun c => c1 c.1.symm), if_neg (fun c => c1 c.1)]
      have Hfind := hide hfind
      have Hxb := hide hxb
      have Hwf := hide hwf
      have Hbad := hide hbad
      have HFB : Hid (0 ≤ F ∧ F < 18446744073709551616 ∧ F / 4096 = X / 4096) := hide (by have := unhide HF; have := unhide HX; omega)
      clear hfind hxb hok hwf hbad
      have J2 := J1.new #[.int .u64 X, .int .i64 0, .int .u64 (sp % 65536), .bool gl, .int .u64 lf] 33
      go_wp2_with fail
      refine (new_h J2 f0 f1).mono ?_
      rintro r w3 ⟨b, rfl, h3⟩
      clear J1 J2 c6
      have c5 := cells5 h3.f2.heap
      have c6 := cells6 h3.f3.heap
      have hyl := lt_of_heap' h3.f2.heap
      have hxl := lt_of_heap' h3.f3.heap
      go_wp2_with fail
      refine (put_yes (e := (⟨X, 0, sp % 65536, gl, lf⟩ : E)) h3 (unhide Hwf) (unhide Hbad)).mono ?_
      rintro r w4 ⟨rfl, h4⟩
      rw [putS_one (⟨X, 0, sp % 65536, gl, lf⟩ : E) (unhide Hbad)] at h4
      clear h3 c5 c6
      have c5 := cells5 h4.f2.heap
      have c6 := cells6 h4.f3.heap
      have hyl := lt_of_heap' h4.f2.heap
      have hxl := lt_of_heap' h4.f3.heap
      go_wp2_with fail
      refine (find_hit (e := (⟨X, 0, sp % 65536, gl, lf⟩ : E)) h4 (unhide HFB).1 (unhide HFB).2.1 (by rw [unhide Hfind, if_pos ⟨(unhide HFB).2.2, .inr rfl⟩])).mono ?_
      rintro r w5 ⟨rfl, h5⟩
      have h6 := h5.new #[.int .u64 X, .int .i64 0, .int .u64 (sp % 65536), .bool gl, .int .u64 lf] 33
      clear h4 h5 c5 c6
      have c5 := cells5 h6.f3.heap
      have c5' := cells5 h6.heap
      have hyl := lt_of_heap' h6.f3.heap
      have heq := eq33n (⟨X, 0, sp % 65536, gl, lf⟩ : E) (unhide HO)
      by_cases yx : Y = X
      · have zy : (Y == X) = true := beq_iff_eq.2 yx
        have yx := hide yx
        cases gl with
        | true =>
          go_wp2_with fail
          refine (find_hit (e := (⟨X, 0, sp % 65536, true, lf⟩ : E)) h6.f2 t0 t1 (by rw [unhide Hfind, if_pos (by have := unhide HY; have := unhide Hxb; exact ⟨by omega, by simp⟩)])).mono ?_
          rintro r w7 ⟨rfl, h7⟩
          have h8 := h7.new #[.int .u64 X, .int .i64 0, .int .u64 (sp % 65536), .bool true, .int .u64 lf] 33
          clear h6 h7 c5 c5'
          have c5 := cells5 h8.f4.heap
          have c5' := cells5 h8.heap
          have hyl := lt_of_heap' h8.f4.heap
          skip
          go_wp2_with fail
          skip
          refine (find_miss h8.f2 ?b0 ?b1 ?b2).mono ?_
          case b0 => simp only [IntKind.wrap_u64]; omega
          case b1 => simp only [IntKind.wrap_u64]; omega
          case b2 =>
            rw [unhide Hfind, if_neg]
            rintro ⟨c, _⟩
            simp only [IntKind.wrap_u64] at c
            have := unhide Hxb
            omega
          rintro r w9 ⟨rfl, h9⟩
          have h10 := (h9.new #[.int .u64 0, .int .i64 0, .int .u64 0, .bool false, .int .u64 0] 33).tail.f2.tail.f2.tail
          clear h8 h9 c5 c5'
          have c5 := cells5 h10.f2.heap
          have hyl := lt_of_heap' h10.f2.heap
          skip
          go_wp2_with fail
          skip
          refine (find_miss h10 ?b0 ?b1 ?b2).mono ?_
          case b0 => simp only [IntKind.wrap_u64]; omega
          case b1 => simp only [IntKind.wrap_u64]; omega
          case b2 =>
            rw [unhide Hfind, if_neg]
            rintro ⟨c, _⟩
            simp only [IntKind.wrap_u64] at c
            have := unhide Hxb
            omega
          rintro r w11 ⟨rfl, h11⟩
          have h12 := (h11.new #[.int .u64 0, .int .i64 0, .int .u64 0, .bool false, .int .u64 0] 33).tail
          clear h10 h11 c5
          go_wp2_with fail
          refine (all_h h12).mono ?_
          rintro r w13 ⟨v, rfl, h13⟩
          rw [kept_one] at h13
          simp only [List.length_cons, List.length_nil, Nat.zero_add] at h13
          obtain ⟨g1, o1, cap1, hv, hgl, _, d0, d1, d2, d3, d4⟩ := cellsE (i := 0) (e := (⟨X, 0, sp % 65536, true, lf⟩ : E)) h13.slw rfl
          subst hv
          have h13 := h13.three
          have HE := hide (eq33e ⟨X, 0, sp % 65536, true, lf⟩ (unhide HO))
          clear h12 d0 d1 d2 d3 d4
          go_wp2_with fail
          refine wp_region_F (fun w_ => Heap w w_ [HP.slw (.slice (some ⟨g1, o1, none⟩) 1 cap1) 5 1 (ecs [(⟨X, 0, sp % 65536, true, lf⟩ : E)]), HP.tl b (putSeed S0 lf ⟨X, 0, sp % 65536, true, lf⟩) (put S0 0 (some ⟨X, 0, sp % 65536, true, lf⟩)), HP.blk wc.heap.size #[.int .u64 X, .int .i64 0, .int .u64 (sp % 65536), .bool true, .int .u64 lf] 33]) GN (fun k_ v_ w_ => match k_ with
              | 0 => v_ = .bool false
              | 1 => v_ = .bool true
              | 2 => v_ = .bool true
              | 3 => v_ = .bool false
              | 4 => v_ = .bool true
              | 5 => v_ = .bool true
              | 6 => v_ = .bool true
              | 7 => v_ = .slice (some ⟨g1, o1, none⟩) 1 cap1
              | 8 => v_ = .int .i64 1
              | 9 => v_ = .bool true
              | 10 => v_ = .bool true
              | 11 => v_ = .bool true
              | 12 => v_ = .slice (some ⟨g1, o1, none⟩) 1 cap1
              | 13 => v_ = .pointer (some ⟨g1, o1 + 0 * 5, none⟩)
              | 14 => v_ = .agg #[.int .u64 X, .int .i64 0, .int .u64 (sp % 65536), .bool true, .int .u64 lf]
              | 15 => v_ = .agg #[.int .u64 X, .int .i64 0, .int .u64 (sp % 65536), .bool true, .int .u64 lf]
              | 16 => v_ = .bool true
              | 17 => v_ = .bool true
              | _ => v_ = .bool true) fol (by kernel_rfl) ?_ ?_ ?_ ?_
          · exact h13.drew
          · intro k_ v_ w_ w2_ h1 hg
            split at h1 <;> exact h1
          · intro vals
            show wpG _ _ _ _ _ _ 0 (_ :: _) _
            refine wpG_cons (gval (.bool false) GN.refl fun w_ hJ hd => ?_) ?_
            · exact ⟨by kernel_rfl, by kernel_rfl, rfl⟩
            refine wpG_cons (gval (.bool true) GN.refl fun w_ hJ hd => ?_) ?_
            · have e0 : vals 0 = _ := hd 0 (by decide) (by kernel_rfl)
              rw [e0]
              exact ⟨by kernel_rfl, by kernel_rfl, rfl⟩
            refine wpG_cons (gval (.bool true) GN.refl fun w_ hJ hd => ?_) ?_
            · have e1 : vals 1 = _ := hd 1 (by decide) (by kernel_rfl)
              rw [e1]
              exact ⟨by kernel_rfl, by kernel_rfl, rfl⟩
            refine wpG_cons (gval (.bool false) GN.refl fun w_ hJ hd => ?_) ?_
            · have e2 : vals 2 = _ := hd 2 (by decide) (by kernel_rfl)
              rw [e2]
              exact ⟨by kernel_rfl, by kernel_rfl, rfl⟩
            refine wpG_cons (gval (.bool true) GN.refl fun w_ hJ hd => ?_) ?_
            · have e3 : vals 3 = _ := hd 3 (by decide) (by kernel_rfl)
              have e2 : vals 2 = _ := hd 2 (by decide) (by kernel_rfl)
              rw [e3, e2]
              exact ⟨by kernel_rfl, by kernel_rfl, rfl⟩
            refine wpG_cons (gval (.bool true) GN.refl fun w_ hJ hd => ?_) ?_
            · have e2 : vals 2 = _ := hd 2 (by decide) (by kernel_rfl)
              have e4 : vals 4 = _ := hd 4 (by decide) (by kernel_rfl)
              rw [e2, e4]
              exact ⟨by kernel_rfl, by kernel_rfl, rfl⟩
            refine wpG_cons (gval (.bool true) GN.refl fun w_ hJ hd => ?_) ?_
            · have e5 : vals 5 = _ := hd 5 (by decide) (by kernel_rfl)
              rw [e5]
              exact ⟨by kernel_rfl, by kernel_rfl, rfl⟩
            refine wpG_cons (gval (.slice (some ⟨g1, o1, none⟩) 1 cap1) GN.refl fun w_ hJ hd => ?_) ?_
            · have e6 : vals 6 = _ := hd 6 (by decide) (by kernel_rfl)
              rw [e6]
              exact ⟨by kernel_rfl, by kernel_rfl, rfl⟩
            refine wpG_cons (gval (.int .i64 1) GN.refl fun w_ hJ hd => ?_) ?_
            · have e7 : vals 7 = _ := hd 7 (by decide) (by kernel_rfl)
              have e6 : vals 6 = _ := hd 6 (by decide) (by kernel_rfl)
              rw [e7, e6]
              exact ⟨by kernel_rfl, by kernel_rfl, rfl⟩
            refine wpG_cons (gval (.bool true) GN.refl fun w_ hJ hd => ?_) ?_
            · have e8 : vals 8 = _ := hd 8 (by decide) (by kernel_rfl)
              have e6 : vals 6 = _ := hd 6 (by decide) (by kernel_rfl)
              rw [e8, e6]
              exact ⟨by kernel_rfl, by kernel_rfl, rfl⟩
            refine wpG_cons (gval (.bool true) GN.refl fun w_ hJ hd => ?_) ?_
            · have e6 : vals 6 = _ := hd 6 (by decide) (by kernel_rfl)
              have e9 : vals 9 = _ := hd 9 (by decide) (by kernel_rfl)
              rw [e6, e9]
              exact ⟨by kernel_rfl, by kernel_rfl, rfl⟩
            refine wpG_cons (gval (.bool true) GN.refl fun w_ hJ hd => ?_) ?_
            · have e10 : vals 10 = _ := hd 10 (by decide) (by kernel_rfl)
              rw [e10]
              exact ⟨by kernel_rfl, by kernel_rfl, rfl⟩
            refine wpG_cons (gval (.slice (some ⟨g1, o1, none⟩) 1 cap1) GN.refl fun w_ hJ hd => ?_) ?_
            · have e11 : vals 11 = _ := hd 11 (by decide) (by kernel_rfl)
              rw [e11]
              exact ⟨by kernel_rfl, by kernel_rfl, rfl⟩
            refine wpG_cons (gval (.pointer (some ⟨g1, o1 + 0 * 5, none⟩)) GN.refl fun w_ hJ hd => ?_) ?_
            · have e12 : vals 12 = _ := hd 12 (by decide) (by kernel_rfl)
              have e11 : vals 11 = _ := hd 11 (by decide) (by kernel_rfl)
              rw [e12, e11]
              exact ⟨by kernel_rfl, by kernel_rfl, rfl⟩
            refine wpG_cons (gop (Instr.loadAt 33 (.pointer (some ⟨g1, o1 + 0 * 5, none⟩))) (.agg #[.int .u64 X, .int .i64 0, .int .u64 (sp % 65536), .bool true, .int .u64 lf]) GN.refl fun w_ hJ hd => ?_) ?_
            · have e13 : vals 13 = _ := hd 13 (by decide) (by kernel_rfl)
              have e11 : vals 11 = _ := hd 11 (by decide) (by kernel_rfl)
              rw [e13, e11]
              exact ⟨by kernel_rfl, by kernel_rfl, load_es (i := 0) (e := (⟨X, 0, sp % 65536, true, lf⟩ : E)) hJ.slw rfl, rfl⟩
            refine wpG_cons (gop (Instr.loadAt 33 (.pointer (some ⟨wc.heap.size, 0, none⟩))) (.agg #[.int .u64 X, .int .i64 0, .int .u64 (sp % 65536), .bool true, .int .u64 lf]) GN.refl fun w_ hJ hd => ?_) ?_
            · have e11 : vals 11 = _ := hd 11 (by decide) (by kernel_rfl)
              rw [e11]
              exact ⟨by kernel_rfl, by kernel_rfl, load_box hJ.f3.heap, rfl⟩
            refine wpG_cons (gop ((do eqGuard .eql 33 (.tmp 158) (.tmp 159) (.agg #[.int .u64 X, .int .i64 0, .int .u64 (sp % 65536), .bool true, .int .u64 lf]) (.agg #[.int .u64 X, .int .i64 0, .int .u64 (sp % 65536), .bool true, .int .u64 lf]); binOp .eql 33 (.agg #[.int .u64 X, .int .i64 0, .int .u64 (sp % 65536), .bool true, .int .u64 lf]) (.agg #[.int .u64 X, .int .i64 0, .int .u64 (sp % 65536), .bool true, .int .u64 lf]))) (.bool true) GN.refl fun w_ hJ hd => ?_) ?_
            · have e14 : vals 14 = _ := hd 14 (by decide) (by kernel_rfl)
              have e15 : vals 15 = _ := hd 15 (by decide) (by kernel_rfl)
              have e11 : vals 11 = _ := hd 11 (by decide) (by kernel_rfl)
              rw [e14, e15, e11]
              exact ⟨by kernel_rfl, by kernel_rfl, eqg33 (unhide HE w_), rfl⟩
            refine wpG_cons (gval (.bool true) GN.refl fun w_ hJ hd => ?_) ?_
            · have e11 : vals 11 = _ := hd 11 (by decide) (by kernel_rfl)
              have e16 : vals 16 = _ := hd 16 (by decide) (by kernel_rfl)
              rw [e11, e16]
              exact ⟨by kernel_rfl, by kernel_rfl, rfl⟩
            refine wpG_cons (gval (.bool true) GN.refl fun w_ hJ hd => ?_) wpG_nil
            · have e17 : vals 17 = _ := hd 17 (by decide) (by kernel_rfl)
              rw [e17]
              exact ⟨by kernel_rfl, by kernel_rfl, rfl⟩
          · intro vals w_ hJ hf
            have e0 : vals 0 = _ := hf 0 (by decide)
            have e1 : vals 1 = _ := hf 1 (by decide)
            have e2 : vals 2 = _ := hf 2 (by decide)
            have e3 : vals 3 = _ := hf 3 (by decide)
            have e4 : vals 4 = _ := hf 4 (by decide)
            have e5 : vals 5 = _ := hf 5 (by decide)
            have e6 : vals 6 = _ := hf 6 (by decide)
            have e7 : vals 7 = _ := hf 7 (by decide)
            have e8 : vals 8 = _ := hf 8 (by decide)
            have e9 : vals 9 = _ := hf 9 (by decide)
            have e10 : vals 10 = _ := hf 10 (by decide)
            have e11 : vals 11 = _ := hf 11 (by decide)
            have e12 : vals 12 = _ := hf 12 (by decide)
            have e13 : vals 13 = _ := hf 13 (by decide)
            have e14 : vals 14 = _ := hf 14 (by decide)
            have e15 : vals 15 = _ := hf 15 (by decide)
            have e16 : vals 16 = _ := hf 16 (by decide)
            have e17 : vals 17 = _ := hf 17 (by decide)
            have e18 : vals 18 = _ := hf 18 (by decide)
            simp only [fillG, Nat.zero_add, Nat.reduceAdd, e0, e1, e2, e3, e4, e5, e6, e7, e8, e9, e10, e11, e12, e13, e14, e15, e16, e17, e18, Act.put, List.setIfInBounds_toArray, List.set_cons_succ, List.set_cons_zero]
            clear e0 e1 e2 e3 e4 e5 e6 e7 e8 e9 e10 e11 e12 e13 e14 e15 e16 e17 e18 hf
            go_wp2
            go_ret
            exact ⟨rfl, hJ.below⟩
        | false =>
          by_cases sq : s2 = sp % 65536
          · have zs : (s2 == sp % 65536) = true := beq_iff_eq.2 sq
            have Hsq := hide sq
            clear sq
            go_wp2_with fail
            refine (find_hit (e := (⟨X, 0, sp % 65536, false, lf⟩ : E)) h6.f2 t0 t1 (by rw [unhide Hfind, if_pos (by have := unhide HY; have := unhide Hxb; exact ⟨by omega, .inr (unhide Hsq)⟩)])).mono ?_
            rintro r w7 ⟨rfl, h7⟩
            have h8 := h7.new #[.int .u64 X, .int .i64 0, .int .u64 (sp % 65536), .bool false, .int .u64 lf] 33
            clear h6 h7 c5 c5'
            have c5 := cells5 h8.f4.heap
            have c5' := cells5 h8.heap
            have hyl := lt_of_heap' h8.f4.heap
            skip
            go_wp2_with fail
            skip
            refine (find_miss h8.f2 ?b0 ?b1 ?b2).mono ?_
            case b0 => simp only [IntKind.wrap_u64]; omega
            case b1 => simp only [IntKind.wrap_u64]; omega
            case b2 =>
              rw [unhide Hfind, if_neg]
              rintro ⟨c, _⟩
              simp only [IntKind.wrap_u64] at c
              have := unhide Hxb
              omega
            rintro r w9 ⟨rfl, h9⟩
            have h10 := (h9.new #[.int .u64 0, .int .i64 0, .int .u64 0, .bool false, .int .u64 0] 33).tail.f2.tail.f2.tail
            clear h8 h9 c5 c5'
            have c5 := cells5 h10.f2.heap
            have hyl := lt_of_heap' h10.f2.heap
            skip
            go_wp2_with fail
            skip
            refine (find_miss h10 ?b0 ?b1 ?b2).mono ?_
            case b0 => simp only [IntKind.wrap_u64]; omega
            case b1 => simp only [IntKind.wrap_u64]; omega
            case b2 =>
              rw [unhide Hfind, if_neg]
              rintro ⟨c, _⟩
              simp only [IntKind.wrap_u64] at c
              have := unhide Hxb
              omega
            rintro r w11 ⟨rfl, h11⟩
            have h12 := (h11.new #[.int .u64 0, .int .i64 0, .int .u64 0, .bool false, .int .u64 0] 33).tail
            clear h10 h11 c5
            go_wp2_with fail
            refine (all_h h12).mono ?_
            rintro r w13 ⟨v, rfl, h13⟩
            rw [kept_one] at h13
            simp only [List.length_cons, List.length_nil, Nat.zero_add] at h13
            obtain ⟨g1, o1, cap1, hv, hgl, _, d0, d1, d2, d3, d4⟩ := cellsE (i := 0) (e := (⟨X, 0, sp % 65536, false, lf⟩ : E)) h13.slw rfl
            subst hv
            have h13 := h13.three
            have HE := hide (eq33e ⟨X, 0, sp % 65536, false, lf⟩ (unhide HO))
            clear h12 d0 d1 d2 d3 d4
            go_wp2_with fail
            refine wp_region_F (fun w_ => Heap w w_ [HP.slw (.slice (some ⟨g1, o1, none⟩) 1 cap1) 5 1 (ecs [(⟨X, 0, sp % 65536, false, lf⟩ : E)]), HP.tl b (putSeed S0 lf ⟨X, 0, sp % 65536, false, lf⟩) (put S0 0 (some ⟨X, 0, sp % 65536, false, lf⟩)), HP.blk wc.heap.size #[.int .u64 X, .int .i64 0, .int .u64 (sp % 65536), .bool false, .int .u64 lf] 33]) GN (fun k_ v_ w_ => match k_ with
                | 0 => v_ = .bool false
                | 1 => v_ = .bool true
                | 2 => v_ = .bool true
                | 3 => v_ = .bool false
                | 4 => v_ = .bool true
                | 5 => v_ = .bool true
                | 6 => v_ = .bool true
                | 7 => v_ = .slice (some ⟨g1, o1, none⟩) 1 cap1
                | 8 => v_ = .int .i64 1
                | 9 => v_ = .bool true
                | 10 => v_ = .bool true
                | 11 => v_ = .bool true
                | 12 => v_ = .slice (some ⟨g1, o1, none⟩) 1 cap1
                | 13 => v_ = .pointer (some ⟨g1, o1 + 0 * 5, none⟩)
                | 14 => v_ = .agg #[.int .u64 X, .int .i64 0, .int .u64 (sp % 65536), .bool false, .int .u64 lf]
                | 15 => v_ = .agg #[.int .u64 X, .int .i64 0, .int .u64 (sp % 65536), .bool false, .int .u64 lf]
                | 16 => v_ = .bool true
                | 17 => v_ = .bool true
                | _ => v_ = .bool true) fol (by kernel_rfl) ?_ ?_ ?_ ?_
            · exact h13.drew
            · intro k_ v_ w_ w2_ h1 hg
              split at h1 <;> exact h1
            · intro vals
              show wpG _ _ _ _ _ _ 0 (_ :: _) _
              refine wpG_cons (gval (.bool false) GN.refl fun w_ hJ hd => ?_) ?_
              · exact ⟨by kernel_rfl, by kernel_rfl, rfl⟩
              refine wpG_cons (gval (.bool true) GN.refl fun w_ hJ hd => ?_) ?_
              · have e0 : vals 0 = _ := hd 0 (by decide) (by kernel_rfl)
                rw [e0]
                exact ⟨by kernel_rfl, by kernel_rfl, rfl⟩
              refine wpG_cons (gval (.bool true) GN.refl fun w_ hJ hd => ?_) ?_
              · have e1 : vals 1 = _ := hd 1 (by decide) (by kernel_rfl)
                rw [e1]
                exact ⟨by kernel_rfl, by kernel_rfl, rfl⟩
              refine wpG_cons (gval (.bool false) GN.refl fun w_ hJ hd => ?_) ?_
              · have e2 : vals 2 = _ := hd 2 (by decide) (by kernel_rfl)
                rw [e2]
                exact ⟨by kernel_rfl, by kernel_rfl, rfl⟩
              refine wpG_cons (gval (.bool true) GN.refl fun w_ hJ hd => ?_) ?_
              · have e3 : vals 3 = _ := hd 3 (by decide) (by kernel_rfl)
                have e2 : vals 2 = _ := hd 2 (by decide) (by kernel_rfl)
                rw [e3, e2]
                exact ⟨by kernel_rfl, by kernel_rfl, rfl⟩
              refine wpG_cons (gval (.bool true) GN.refl fun w_ hJ hd => ?_) ?_
              · have e2 : vals 2 = _ := hd 2 (by decide) (by kernel_rfl)
                have e4 : vals 4 = _ := hd 4 (by decide) (by kernel_rfl)
                rw [e2, e4]
                exact ⟨by kernel_rfl, by kernel_rfl, rfl⟩
              refine wpG_cons (gval (.bool true) GN.refl fun w_ hJ hd => ?_) ?_
              · have e5 : vals 5 = _ := hd 5 (by decide) (by kernel_rfl)
                rw [e5]
                exact ⟨by kernel_rfl, by kernel_rfl, rfl⟩
              refine wpG_cons (gval (.slice (some ⟨g1, o1, none⟩) 1 cap1) GN.refl fun w_ hJ hd => ?_) ?_
              · have e6 : vals 6 = _ := hd 6 (by decide) (by kernel_rfl)
                rw [e6]
                exact ⟨by kernel_rfl, by kernel_rfl, rfl⟩
              refine wpG_cons (gval (.int .i64 1) GN.refl fun w_ hJ hd => ?_) ?_
              · have e7 : vals 7 = _ := hd 7 (by decide) (by kernel_rfl)
                have e6 : vals 6 = _ := hd 6 (by decide) (by kernel_rfl)
                rw [e7, e6]
                exact ⟨by kernel_rfl, by kernel_rfl, rfl⟩
              refine wpG_cons (gval (.bool true) GN.refl fun w_ hJ hd => ?_) ?_
              · have e8 : vals 8 = _ := hd 8 (by decide) (by kernel_rfl)
                have e6 : vals 6 = _ := hd 6 (by decide) (by kernel_rfl)
                rw [e8, e6]
                exact ⟨by kernel_rfl, by kernel_rfl, rfl⟩
              refine wpG_cons (gval (.bool true) GN.refl fun w_ hJ hd => ?_) ?_
              · have e6 : vals 6 = _ := hd 6 (by decide) (by kernel_rfl)
                have e9 : vals 9 = _ := hd 9 (by decide) (by kernel_rfl)
                rw [e6, e9]
                exact ⟨by kernel_rfl, by kernel_rfl, rfl⟩
              refine wpG_cons (gval (.bool true) GN.refl fun w_ hJ hd => ?_) ?_
              · have e10 : vals 10 = _ := hd 10 (by decide) (by kernel_rfl)
                rw [e10]
                exact ⟨by kernel_rfl, by kernel_rfl, rfl⟩
              refine wpG_cons (gval (.slice (some ⟨g1, o1, none⟩) 1 cap1) GN.refl fun w_ hJ hd => ?_) ?_
              · have e11 : vals 11 = _ := hd 11 (by decide) (by kernel_rfl)
                rw [e11]
                exact ⟨by kernel_rfl, by kernel_rfl, rfl⟩
              refine wpG_cons (gval (.pointer (some ⟨g1, o1 + 0 * 5, none⟩)) GN.refl fun w_ hJ hd => ?_) ?_
              · have e12 : vals 12 = _ := hd 12 (by decide) (by kernel_rfl)
                have e11 : vals 11 = _ := hd 11 (by decide) (by kernel_rfl)
                rw [e12, e11]
                exact ⟨by kernel_rfl, by kernel_rfl, rfl⟩
              refine wpG_cons (gop (Instr.loadAt 33 (.pointer (some ⟨g1, o1 + 0 * 5, none⟩))) (.agg #[.int .u64 X, .int .i64 0, .int .u64 (sp % 65536), .bool false, .int .u64 lf]) GN.refl fun w_ hJ hd => ?_) ?_
              · have e13 : vals 13 = _ := hd 13 (by decide) (by kernel_rfl)
                have e11 : vals 11 = _ := hd 11 (by decide) (by kernel_rfl)
                rw [e13, e11]
                exact ⟨by kernel_rfl, by kernel_rfl, load_es (i := 0) (e := (⟨X, 0, sp % 65536, false, lf⟩ : E)) hJ.slw rfl, rfl⟩
              refine wpG_cons (gop (Instr.loadAt 33 (.pointer (some ⟨wc.heap.size, 0, none⟩))) (.agg #[.int .u64 X, .int .i64 0, .int .u64 (sp % 65536), .bool false, .int .u64 lf]) GN.refl fun w_ hJ hd => ?_) ?_
              · have e11 : vals 11 = _ := hd 11 (by decide) (by kernel_rfl)
                rw [e11]
                exact ⟨by kernel_rfl, by kernel_rfl, load_box hJ.f3.heap, rfl⟩
              refine wpG_cons (gop ((do eqGuard .eql 33 (.tmp 158) (.tmp 159) (.agg #[.int .u64 X, .int .i64 0, .int .u64 (sp % 65536), .bool false, .int .u64 lf]) (.agg #[.int .u64 X, .int .i64 0, .int .u64 (sp % 65536), .bool false, .int .u64 lf]); binOp .eql 33 (.agg #[.int .u64 X, .int .i64 0, .int .u64 (sp % 65536), .bool false, .int .u64 lf]) (.agg #[.int .u64 X, .int .i64 0, .int .u64 (sp % 65536), .bool false, .int .u64 lf]))) (.bool true) GN.refl fun w_ hJ hd => ?_) ?_
              · have e14 : vals 14 = _ := hd 14 (by decide) (by kernel_rfl)
                have e15 : vals 15 = _ := hd 15 (by decide) (by kernel_rfl)
                have e11 : vals 11 = _ := hd 11 (by decide) (by kernel_rfl)
                rw [e14, e15, e11]
                exact ⟨by kernel_rfl, by kernel_rfl, eqg33 (unhide HE w_), rfl⟩
              refine wpG_cons (gval (.bool true) GN.refl fun w_ hJ hd => ?_) ?_
              · have e11 : vals 11 = _ := hd 11 (by decide) (by kernel_rfl)
                have e16 : vals 16 = _ := hd 16 (by decide) (by kernel_rfl)
                rw [e11, e16]
                exact ⟨by kernel_rfl, by kernel_rfl, rfl⟩
              refine wpG_cons (gval (.bool true) GN.refl fun w_ hJ hd => ?_) wpG_nil
              · have e17 : vals 17 = _ := hd 17 (by decide) (by kernel_rfl)
                rw [e17]
                exact ⟨by kernel_rfl, by kernel_rfl, rfl⟩
            · intro vals w_ hJ hf
              have e0 : vals 0 = _ := hf 0 (by decide)
              have e1 : vals 1 = _ := hf 1 (by decide)
              have e2 : vals 2 = _ := hf 2 (by decide)
              have e3 : vals 3 = _ := hf 3 (by decide)
              have e4 : vals 4 = _ := hf 4 (by decide)
              have e5 : vals 5 = _ := hf 5 (by decide)
              have e6 : vals 6 = _ := hf 6 (by decide)
              have e7 : vals 7 = _ := hf 7 (by decide)
              have e8 : vals 8 = _ := hf 8 (by decide)
              have e9 : vals 9 = _ := hf 9 (by decide)
              have e10 : vals 10 = _ := hf 10 (by decide)
              have e11 : vals 11 = _ := hf 11 (by decide)
              have e12 : vals 12 = _ := hf 12 (by decide)
              have e13 : vals 13 = _ := hf 13 (by decide)
              have e14 : vals 14 = _ := hf 14 (by decide)
              have e15 : vals 15 = _ := hf 15 (by decide)
              have e16 : vals 16 = _ := hf 16 (by decide)
              have e17 : vals 17 = _ := hf 17 (by decide)
              have e18 : vals 18 = _ := hf 18 (by decide)
              simp only [fillG, Nat.zero_add, Nat.reduceAdd, e0, e1, e2, e3, e4, e5, e6, e7, e8, e9, e10, e11, e12, e13, e14, e15, e16, e17, e18, Act.put, List.setIfInBounds_toArray, List.set_cons_succ, List.set_cons_zero]
              clear e0 e1 e2 e3 e4 e5 e6 e7 e8 e9 e10 e11 e12 e13 e14 e15 e16 e17 e18 hf
              go_wp2
              go_ret
              exact ⟨rfl, hJ.below⟩
          · have zs : (s2 == sp % 65536) = false := beq_eq_false_iff_ne.2 sq
            go_wp2_with fail
            refine (find_miss h6.f2 t0 t1 (by rw [unhide Hfind, if_neg (by have := unhide HY; have := unhide Hxb; exact fun c => c.2.elim (fun c => by cases c) sq)])).mono ?_
            rintro r w7 ⟨rfl, h7⟩
            have h8 := h7.new #[.int .u64 0, .int .i64 0, .int .u64 0, .bool false, .int .u64 0] 33
            clear h6 h7 c5 c5'
            have c5 := cells5 h8.f4.heap
            have c5' := cells5 h8.heap
            have hyl := lt_of_heap' h8.f4.heap
            have heq0 := eq33n E.zero E.zero_ok
            skip
            go_wp2_with fail
            skip
            refine (find_miss h8.f2 ?b0 ?b1 ?b2).mono ?_
            case b0 => simp only [IntKind.wrap_u64]; omega
            case b1 => simp only [IntKind.wrap_u64]; omega
            case b2 =>
              rw [unhide Hfind, if_neg]
              rintro ⟨c, _⟩
              simp only [IntKind.wrap_u64] at c
              have := unhide Hxb
              omega
            rintro r w9 ⟨rfl, h9⟩
            have h10 := (h9.new #[.int .u64 0, .int .i64 0, .int .u64 0, .bool false, .int .u64 0] 33).tail.f2.tail.f2.tail
            clear h8 h9 c5 c5'
            have c5 := cells5 h10.f2.heap
            have hyl := lt_of_heap' h10.f2.heap
            skip
            go_wp2_with fail
            skip
            refine (find_miss h10 ?b0 ?b1 ?b2).mono ?_
            case b0 => simp only [IntKind.wrap_u64]; omega
            case b1 => simp only [IntKind.wrap_u64]; omega
            case b2 =>
              rw [unhide Hfind, if_neg]
              rintro ⟨c, _⟩
              simp only [IntKind.wrap_u64] at c
              have := unhide Hxb
              omega
            rintro r w11 ⟨rfl, h11⟩
            have h12 := (h11.new #[.int .u64 0, .int .i64 0, .int .u64 0, .bool false, .int .u64 0] 33).tail
            clear h10 h11 c5
            go_wp2_with fail
            refine (all_h h12).mono ?_
            rintro r w13 ⟨v, rfl, h13⟩
            rw [kept_one] at h13
            simp only [List.length_cons, List.length_nil, Nat.zero_add] at h13
            obtain ⟨g1, o1, cap1, hv, hgl, _, d0, d1, d2, d3, d4⟩ := cellsE (i := 0) (e := (⟨X, 0, sp % 65536, false, lf⟩ : E)) h13.slw rfl
            subst hv
            have h13 := h13.three
            have HE := hide (eq33e ⟨X, 0, sp % 65536, false, lf⟩ (unhide HO))
            clear h12 d0 d1 d2 d3 d4
            go_wp2_with fail
            refine wp_region_F (fun w_ => Heap w w_ [HP.slw (.slice (some ⟨g1, o1, none⟩) 1 cap1) 5 1 (ecs [(⟨X, 0, sp % 65536, false, lf⟩ : E)]), HP.tl b (putSeed S0 lf ⟨X, 0, sp % 65536, false, lf⟩) (put S0 0 (some ⟨X, 0, sp % 65536, false, lf⟩)), HP.blk wc.heap.size #[.int .u64 X, .int .i64 0, .int .u64 (sp % 65536), .bool false, .int .u64 lf] 33]) GN (fun k_ v_ w_ => match k_ with
                | 0 => v_ = .bool false
                | 1 => v_ = .bool true
                | 2 => v_ = .bool true
                | 3 => v_ = .bool false
                | 4 => v_ = .bool true
                | 5 => v_ = .bool true
                | 6 => v_ = .bool true
                | 7 => v_ = .slice (some ⟨g1, o1, none⟩) 1 cap1
                | 8 => v_ = .int .i64 1
                | 9 => v_ = .bool true
                | 10 => v_ = .bool true
                | 11 => v_ = .bool true
                | 12 => v_ = .slice (some ⟨g1, o1, none⟩) 1 cap1
                | 13 => v_ = .pointer (some ⟨g1, o1 + 0 * 5, none⟩)
                | 14 => v_ = .agg #[.int .u64 X, .int .i64 0, .int .u64 (sp % 65536), .bool false, .int .u64 lf]
                | 15 => v_ = .agg #[.int .u64 X, .int .i64 0, .int .u64 (sp % 65536), .bool false, .int .u64 lf]
                | 16 => v_ = .bool true
                | 17 => v_ = .bool true
                | _ => v_ = .bool true) fol (by kernel_rfl) ?_ ?_ ?_ ?_
            · exact h13.drew
            · intro k_ v_ w_ w2_ h1 hg
              split at h1 <;> exact h1
            · intro vals
              show wpG _ _ _ _ _ _ 0 (_ :: _) _
              refine wpG_cons (gval (.bool false) GN.refl fun w_ hJ hd => ?_) ?_
              · exact ⟨by kernel_rfl, by kernel_rfl, rfl⟩
              refine wpG_cons (gval (.bool true) GN.refl fun w_ hJ hd => ?_) ?_
              · have e0 : vals 0 = _ := hd 0 (by decide) (by kernel_rfl)
                rw [e0]
                exact ⟨by kernel_rfl, by kernel_rfl, rfl⟩
              refine wpG_cons (gval (.bool true) GN.refl fun w_ hJ hd => ?_) ?_
              · have e1 : vals 1 = _ := hd 1 (by decide) (by kernel_rfl)
                rw [e1]
                exact ⟨by kernel_rfl, by kernel_rfl, rfl⟩
              refine wpG_cons (gval (.bool false) GN.refl fun w_ hJ hd => ?_) ?_
              · have e2 : vals 2 = _ := hd 2 (by decide) (by kernel_rfl)
                rw [e2]
                exact ⟨by kernel_rfl, by kernel_rfl, rfl⟩
              refine wpG_cons (gval (.bool true) GN.refl fun w_ hJ hd => ?_) ?_
              · have e3 : vals 3 = _ := hd 3 (by decide) (by kernel_rfl)
                have e2 : vals 2 = _ := hd 2 (by decide) (by kernel_rfl)
                rw [e3, e2]
                exact ⟨by kernel_rfl, by kernel_rfl, rfl⟩
              refine wpG_cons (gval (.bool true) GN.refl fun w_ hJ hd => ?_) ?_
              · have e2 : vals 2 = _ := hd 2 (by decide) (by kernel_rfl)
                have e4 : vals 4 = _ := hd 4 (by decide) (by kernel_rfl)
                rw [e2, e4]
                exact ⟨by kernel_rfl, by kernel_rfl, rfl⟩
              refine wpG_cons (gval (.bool true) GN.refl fun w_ hJ hd => ?_) ?_
              · have e5 : vals 5 = _ := hd 5 (by decide) (by kernel_rfl)
                rw [e5]
                exact ⟨by kernel_rfl, by kernel_rfl, rfl⟩
              refine wpG_cons (gval (.slice (some ⟨g1, o1, none⟩) 1 cap1) GN.refl fun w_ hJ hd => ?_) ?_
              · have e6 : vals 6 = _ := hd 6 (by decide) (by kernel_rfl)
                rw [e6]
                exact ⟨by kernel_rfl, by kernel_rfl, rfl⟩
              refine wpG_cons (gval (.int .i64 1) GN.refl fun w_ hJ hd => ?_) ?_
              · have e7 : vals 7 = _ := hd 7 (by decide) (by kernel_rfl)
                have e6 : vals 6 = _ := hd 6 (by decide) (by kernel_rfl)
                rw [e7, e6]
                exact ⟨by kernel_rfl, by kernel_rfl, rfl⟩
              refine wpG_cons (gval (.bool true) GN.refl fun w_ hJ hd => ?_) ?_
              · have e8 : vals 8 = _ := hd 8 (by decide) (by kernel_rfl)
                have e6 : vals 6 = _ := hd 6 (by decide) (by kernel_rfl)
                rw [e8, e6]
                exact ⟨by kernel_rfl, by kernel_rfl, rfl⟩
              refine wpG_cons (gval (.bool true) GN.refl fun w_ hJ hd => ?_) ?_
              · have e6 : vals 6 = _ := hd 6 (by decide) (by kernel_rfl)
                have e9 : vals 9 = _ := hd 9 (by decide) (by kernel_rfl)
                rw [e6, e9]
                exact ⟨by kernel_rfl, by kernel_rfl, rfl⟩
              refine wpG_cons (gval (.bool true) GN.refl fun w_ hJ hd => ?_) ?_
              · have e10 : vals 10 = _ := hd 10 (by decide) (by kernel_rfl)
                rw [e10]
                exact ⟨by kernel_rfl, by kernel_rfl, rfl⟩
              refine wpG_cons (gval (.slice (some ⟨g1, o1, none⟩) 1 cap1) GN.refl fun w_ hJ hd => ?_) ?_
              · have e11 : vals 11 = _ := hd 11 (by decide) (by kernel_rfl)
                rw [e11]
                exact ⟨by kernel_rfl, by kernel_rfl, rfl⟩
              refine wpG_cons (gval (.pointer (some ⟨g1, o1 + 0 * 5, none⟩)) GN.refl fun w_ hJ hd => ?_) ?_
              · have e12 : vals 12 = _ := hd 12 (by decide) (by kernel_rfl)
                have e11 : vals 11 = _ := hd 11 (by decide) (by kernel_rfl)
                rw [e12, e11]
                exact ⟨by kernel_rfl, by kernel_rfl, rfl⟩
              refine wpG_cons (gop (Instr.loadAt 33 (.pointer (some ⟨g1, o1 + 0 * 5, none⟩))) (.agg #[.int .u64 X, .int .i64 0, .int .u64 (sp % 65536), .bool false, .int .u64 lf]) GN.refl fun w_ hJ hd => ?_) ?_
              · have e13 : vals 13 = _ := hd 13 (by decide) (by kernel_rfl)
                have e11 : vals 11 = _ := hd 11 (by decide) (by kernel_rfl)
                rw [e13, e11]
                exact ⟨by kernel_rfl, by kernel_rfl, load_es (i := 0) (e := (⟨X, 0, sp % 65536, false, lf⟩ : E)) hJ.slw rfl, rfl⟩
              refine wpG_cons (gop (Instr.loadAt 33 (.pointer (some ⟨wc.heap.size, 0, none⟩))) (.agg #[.int .u64 X, .int .i64 0, .int .u64 (sp % 65536), .bool false, .int .u64 lf]) GN.refl fun w_ hJ hd => ?_) ?_
              · have e11 : vals 11 = _ := hd 11 (by decide) (by kernel_rfl)
                rw [e11]
                exact ⟨by kernel_rfl, by kernel_rfl, load_box hJ.f3.heap, rfl⟩
              refine wpG_cons (gop ((do eqGuard .eql 33 (.tmp 158) (.tmp 159) (.agg #[.int .u64 X, .int .i64 0, .int .u64 (sp % 65536), .bool false, .int .u64 lf]) (.agg #[.int .u64 X, .int .i64 0, .int .u64 (sp % 65536), .bool false, .int .u64 lf]); binOp .eql 33 (.agg #[.int .u64 X, .int .i64 0, .int .u64 (sp % 65536), .bool false, .int .u64 lf]) (.agg #[.int .u64 X, .int .i64 0, .int .u64 (sp % 65536), .bool false, .int .u64 lf]))) (.bool true) GN.refl fun w_ hJ hd => ?_) ?_
              · have e14 : vals 14 = _ := hd 14 (by decide) (by kernel_rfl)
                have e15 : vals 15 = _ := hd 15 (by decide) (by kernel_rfl)
                have e11 : vals 11 = _ := hd 11 (by decide) (by kernel_rfl)
                rw [e14, e15, e11]
                exact ⟨by kernel_rfl, by kernel_rfl, eqg33 (unhide HE w_), rfl⟩
              refine wpG_cons (gval (.bool true) GN.refl fun w_ hJ hd => ?_) ?_
              · have e11 : vals 11 = _ := hd 11 (by decide) (by kernel_rfl)
                have e16 : vals 16 = _ := hd 16 (by decide) (by kernel_rfl)
                rw [e11, e16]
                exact ⟨by kernel_rfl, by kernel_rfl, rfl⟩
              refine wpG_cons (gval (.bool true) GN.refl fun w_ hJ hd => ?_) wpG_nil
              · have e17 : vals 17 = _ := hd 17 (by decide) (by kernel_rfl)
                rw [e17]
                exact ⟨by kernel_rfl, by kernel_rfl, rfl⟩
            · intro vals w_ hJ hf
              have e0 : vals 0 = _ := hf 0 (by decide)
              have e1 : vals 1 = _ := hf 1 (by decide)
              have e2 : vals 2 = _ := hf 2 (by decide)
              have e3 : vals 3 = _ := hf 3 (by decide)
              have e4 : vals 4 = _ := hf 4 (by decide)
              have e5 : vals 5 = _ := hf 5 (by decide)
              have e6 : vals 6 = _ := hf 6 (by decide)
              have e7 : vals 7 = _ := hf 7 (by decide)
              have e8 : vals 8 = _ := hf 8 (by decide)
              have e9 : vals 9 = _ := hf 9 (by decide)
              have e10 : vals 10 = _ := hf 10 (by decide)
              have e11 : vals 11 = _ := hf 11 (by decide)
              have e12 : vals 12 = _ := hf 12 (by decide)
              have e13 : vals 13 = _ := hf 13 (by decide)
              have e14 : vals 14 = _ := hf 14 (by decide)
              have e15 : vals 15 = _ := hf 15 (by decide)
              have e16 : vals 16 = _ := hf 16 (by decide)
              have e17 : vals 17 = _ := hf 17 (by decide)
              have e18 : vals 18 = _ := hf 18 (by decide)
              simp only [fillG, Nat.zero_add, Nat.reduceAdd, e0, e1, e2, e3, e4, e5, e6, e7, e8, e9, e10, e11, e12, e13, e14, e15, e16, e17, e18, Act.put, List.setIfInBounds_toArray, List.set_cons_succ, List.set_cons_zero]
              clear e0 e1 e2 e3 e4 e5 e6 e7 e8 e9 e10 e11 e12 e13 e14 e15 e16 e17 e18 hf
              go_wp2
              go_ret
              exact ⟨rfl, hJ.below⟩
      · have zy : (Y == X) = false := beq_eq_false_iff_ne.2 yx
        go_wp2_with fail
        refine (find_miss h6.f2 t0 t1 (by rw [unhide Hfind, if_neg (by have := unhide HY; have := unhide Hxb; exact fun c => yx (by omega))])).mono ?_
        rintro r w7 ⟨rfl, h7⟩
        have h8 := h7.new #[.int .u64 0, .int .i64 0, .int .u64 0, .bool false, .int .u64 0] 33
        clear h6 h7 c5 c5'
        have c5 := cells5 h8.f4.heap
        have c5' := cells5 h8.heap
        have hyl := lt_of_heap' h8.f4.heap
        have heq0 := eq33n E.zero E.zero_ok
        skip
        go_wp2_with fail
        skip
        refine (find_miss h8.f2 ?b0 ?b1 ?b2).mono ?_
        case b0 => simp only [IntKind.wrap_u64]; omega
        case b1 => simp only [IntKind.wrap_u64]; omega
        case b2 =>
          rw [unhide Hfind, if_neg]
          rintro ⟨c, _⟩
          simp only [IntKind.wrap_u64] at c
          have := unhide Hxb
          omega
        rintro r w9 ⟨rfl, h9⟩
        have h10 := (h9.new #[.int .u64 0, .int .i64 0, .int .u64 0, .bool false, .int .u64 0] 33).tail.f2.tail.f2.tail
        clear h8 h9 c5 c5'
        have c5 := cells5 h10.f2.heap
        have hyl := lt_of_heap' h10.f2.heap
        skip
        go_wp2_with fail
        skip
        refine (find_miss h10 ?b0 ?b1 ?b2).mono ?_
        case b0 => simp only [IntKind.wrap_u64]; omega
        case b1 => simp only [IntKind.wrap_u64]; omega
        case b2 =>
          rw [unhide Hfind, if_neg]
          rintro ⟨c, _⟩
          simp only [IntKind.wrap_u64] at c
          have := unhide Hxb
          omega
        rintro r w11 ⟨rfl, h11⟩
        have h12 := (h11.new #[.int .u64 0, .int .i64 0, .int .u64 0, .bool false, .int .u64 0] 33).tail
        clear h10 h11 c5
        go_wp2_with fail
        refine (all_h h12).mono ?_
        rintro r w13 ⟨v, rfl, h13⟩
        rw [kept_one] at h13
        simp only [List.length_cons, List.length_nil, Nat.zero_add] at h13
        obtain ⟨g1, o1, cap1, hv, hgl, _, d0, d1, d2, d3, d4⟩ := cellsE (i := 0) (e := (⟨X, 0, sp % 65536, gl, lf⟩ : E)) h13.slw rfl
        subst hv
        have h13 := h13.three
        have HE := hide (eq33e ⟨X, 0, sp % 65536, gl, lf⟩ (unhide HO))
        clear h12 d0 d1 d2 d3 d4
        go_wp2_with fail
        refine wp_region_F (fun w_ => Heap w w_ [HP.slw (.slice (some ⟨g1, o1, none⟩) 1 cap1) 5 1 (ecs [(⟨X, 0, sp % 65536, gl, lf⟩ : E)]), HP.tl b (putSeed S0 lf ⟨X, 0, sp % 65536, gl, lf⟩) (put S0 0 (some ⟨X, 0, sp % 65536, gl, lf⟩)), HP.blk wc.heap.size #[.int .u64 X, .int .i64 0, .int .u64 (sp % 65536), .bool gl, .int .u64 lf] 33]) GN (fun k_ v_ w_ => match k_ with
            | 0 => v_ = .bool false
            | 1 => v_ = .bool true
            | 2 => v_ = .bool true
            | 3 => v_ = .bool false
            | 4 => v_ = .bool true
            | 5 => v_ = .bool true
            | 6 => v_ = .bool true
            | 7 => v_ = .slice (some ⟨g1, o1, none⟩) 1 cap1
            | 8 => v_ = .int .i64 1
            | 9 => v_ = .bool true
            | 10 => v_ = .bool true
            | 11 => v_ = .bool true
            | 12 => v_ = .slice (some ⟨g1, o1, none⟩) 1 cap1
            | 13 => v_ = .pointer (some ⟨g1, o1 + 0 * 5, none⟩)
            | 14 => v_ = .agg #[.int .u64 X, .int .i64 0, .int .u64 (sp % 65536), .bool gl, .int .u64 lf]
            | 15 => v_ = .agg #[.int .u64 X, .int .i64 0, .int .u64 (sp % 65536), .bool gl, .int .u64 lf]
            | 16 => v_ = .bool true
            | 17 => v_ = .bool true
            | _ => v_ = .bool true) fol (by kernel_rfl) ?_ ?_ ?_ ?_
        · exact h13.drew
        · intro k_ v_ w_ w2_ h1 hg
          split at h1 <;> exact h1
        · intro vals
          show wpG _ _ _ _ _ _ 0 (_ :: _) _
          refine wpG_cons (gval (.bool false) GN.refl fun w_ hJ hd => ?_) ?_
          · exact ⟨by kernel_rfl, by kernel_rfl, rfl⟩
          refine wpG_cons (gval (.bool true) GN.refl fun w_ hJ hd => ?_) ?_
          · have e0 : vals 0 = _ := hd 0 (by decide) (by kernel_rfl)
            rw [e0]
            exact ⟨by kernel_rfl, by kernel_rfl, rfl⟩
          refine wpG_cons (gval (.bool true) GN.refl fun w_ hJ hd => ?_) ?_
          · have e1 : vals 1 = _ := hd 1 (by decide) (by kernel_rfl)
            rw [e1]
            exact ⟨by kernel_rfl, by kernel_rfl, rfl⟩
          refine wpG_cons (gval (.bool false) GN.refl fun w_ hJ hd => ?_) ?_
          · have e2 : vals 2 = _ := hd 2 (by decide) (by kernel_rfl)
            rw [e2]
            exact ⟨by kernel_rfl, by kernel_rfl, rfl⟩
          refine wpG_cons (gval (.bool true) GN.refl fun w_ hJ hd => ?_) ?_
          · have e3 : vals 3 = _ := hd 3 (by decide) (by kernel_rfl)
            have e2 : vals 2 = _ := hd 2 (by decide) (by kernel_rfl)
            rw [e3, e2]
            exact ⟨by kernel_rfl, by kernel_rfl, rfl⟩
          refine wpG_cons (gval (.bool true) GN.refl fun w_ hJ hd => ?_) ?_
          · have e2 : vals 2 = _ := hd 2 (by decide) (by kernel_rfl)
            have e4 : vals 4 = _ := hd 4 (by decide) (by kernel_rfl)
            rw [e2, e4]
            exact ⟨by kernel_rfl, by kernel_rfl, rfl⟩
          refine wpG_cons (gval (.bool true) GN.refl fun w_ hJ hd => ?_) ?_
          · have e5 : vals 5 = _ := hd 5 (by decide) (by kernel_rfl)
            rw [e5]
            exact ⟨by kernel_rfl, by kernel_rfl, rfl⟩
          refine wpG_cons (gval (.slice (some ⟨g1, o1, none⟩) 1 cap1) GN.refl fun w_ hJ hd => ?_) ?_
          · have e6 : vals 6 = _ := hd 6 (by decide) (by kernel_rfl)
            rw [e6]
            exact ⟨by kernel_rfl, by kernel_rfl, rfl⟩
          refine wpG_cons (gval (.int .i64 1) GN.refl fun w_ hJ hd => ?_) ?_
          · have e7 : vals 7 = _ := hd 7 (by decide) (by kernel_rfl)
            have e6 : vals 6 = _ := hd 6 (by decide) (by kernel_rfl)
            rw [e7, e6]
            exact ⟨by kernel_rfl, by kernel_rfl, rfl⟩
          refine wpG_cons (gval (.bool true) GN.refl fun w_ hJ hd => ?_) ?_
          · have e8 : vals 8 = _ := hd 8 (by decide) (by kernel_rfl)
            have e6 : vals 6 = _ := hd 6 (by decide) (by kernel_rfl)
            rw [e8, e6]
            exact ⟨by kernel_rfl, by kernel_rfl, rfl⟩
          refine wpG_cons (gval (.bool true) GN.refl fun w_ hJ hd => ?_) ?_
          · have e6 : vals 6 = _ := hd 6 (by decide) (by kernel_rfl)
            have e9 : vals 9 = _ := hd 9 (by decide) (by kernel_rfl)
            rw [e6, e9]
            exact ⟨by kernel_rfl, by kernel_rfl, rfl⟩
          refine wpG_cons (gval (.bool true) GN.refl fun w_ hJ hd => ?_) ?_
          · have e10 : vals 10 = _ := hd 10 (by decide) (by kernel_rfl)
            rw [e10]
            exact ⟨by kernel_rfl, by kernel_rfl, rfl⟩
          refine wpG_cons (gval (.slice (some ⟨g1, o1, none⟩) 1 cap1) GN.refl fun w_ hJ hd => ?_) ?_
          · have e11 : vals 11 = _ := hd 11 (by decide) (by kernel_rfl)
            rw [e11]
            exact ⟨by kernel_rfl, by kernel_rfl, rfl⟩
          refine wpG_cons (gval (.pointer (some ⟨g1, o1 + 0 * 5, none⟩)) GN.refl fun w_ hJ hd => ?_) ?_
          · have e12 : vals 12 = _ := hd 12 (by decide) (by kernel_rfl)
            have e11 : vals 11 = _ := hd 11 (by decide) (by kernel_rfl)
            rw [e12, e11]
            exact ⟨by kernel_rfl, by kernel_rfl, rfl⟩
          refine wpG_cons (gop (Instr.loadAt 33 (.pointer (some ⟨g1, o1 + 0 * 5, none⟩))) (.agg #[.int .u64 X, .int .i64 0, .int .u64 (sp % 65536), .bool gl, .int .u64 lf]) GN.refl fun w_ hJ hd => ?_) ?_
          · have e13 : vals 13 = _ := hd 13 (by decide) (by kernel_rfl)
            have e11 : vals 11 = _ := hd 11 (by decide) (by kernel_rfl)
            rw [e13, e11]
            exact ⟨by kernel_rfl, by kernel_rfl, load_es (i := 0) (e := (⟨X, 0, sp % 65536, gl, lf⟩ : E)) hJ.slw rfl, rfl⟩
          refine wpG_cons (gop (Instr.loadAt 33 (.pointer (some ⟨wc.heap.size, 0, none⟩))) (.agg #[.int .u64 X, .int .i64 0, .int .u64 (sp % 65536), .bool gl, .int .u64 lf]) GN.refl fun w_ hJ hd => ?_) ?_
          · have e11 : vals 11 = _ := hd 11 (by decide) (by kernel_rfl)
            rw [e11]
            exact ⟨by kernel_rfl, by kernel_rfl, load_box hJ.f3.heap, rfl⟩
          refine wpG_cons (gop ((do eqGuard .eql 33 (.tmp 158) (.tmp 159) (.agg #[.int .u64 X, .int .i64 0, .int .u64 (sp % 65536), .bool gl, .int .u64 lf]) (.agg #[.int .u64 X, .int .i64 0, .int .u64 (sp % 65536), .bool gl, .int .u64 lf]); binOp .eql 33 (.agg #[.int .u64 X, .int .i64 0, .int .u64 (sp % 65536), .bool gl, .int .u64 lf]) (.agg #[.int .u64 X, .int .i64 0, .int .u64 (sp % 65536), .bool gl, .int .u64 lf]))) (.bool true) GN.refl fun w_ hJ hd => ?_) ?_
          · have e14 : vals 14 = _ := hd 14 (by decide) (by kernel_rfl)
            have e15 : vals 15 = _ := hd 15 (by decide) (by kernel_rfl)
            have e11 : vals 11 = _ := hd 11 (by decide) (by kernel_rfl)
            rw [e14, e15, e11]
            exact ⟨by kernel_rfl, by kernel_rfl, eqg33 (unhide HE w_), rfl⟩
          refine wpG_cons (gval (.bool true) GN.refl fun w_ hJ hd => ?_) ?_
          · have e11 : vals 11 = _ := hd 11 (by decide) (by kernel_rfl)
            have e16 : vals 16 = _ := hd 16 (by decide) (by kernel_rfl)
            rw [e11, e16]
            exact ⟨by kernel_rfl, by kernel_rfl, rfl⟩
          refine wpG_cons (gval (.bool true) GN.refl fun w_ hJ hd => ?_) wpG_nil
          · have e17 : vals 17 = _ := hd 17 (by decide) (by kernel_rfl)
            rw [e17]
            exact ⟨by kernel_rfl, by kernel_rfl, rfl⟩
        · intro vals w_ hJ hf
          have e0 : vals 0 = _ := hf 0 (by decide)
          have e1 : vals 1 = _ := hf 1 (by decide)
          have e2 : vals 2 = _ := hf 2 (by decide)
          have e3 : vals 3 = _ := hf 3 (by decide)
          have e4 : vals 4 = _ := hf 4 (by decide)
          have e5 : vals 5 = _ := hf 5 (by decide)
          have e6 : vals 6 = _ := hf 6 (by decide)
          have e7 : vals 7 = _ := hf 7 (by decide)
          have e8 : vals 8 = _ := hf 8 (by decide)
          have e9 : vals 9 = _ := hf 9 (by decide)
          have e10 : vals 10 = _ := hf 10 (by decide)
          have e11 : vals 11 = _ := hf 11 (by decide)
          have e12 : vals 12 = _ := hf 12 (by decide)
          have e13 : vals 13 = _ := hf 13 (by decide)
          have e14 : vals 14 = _ := hf 14 (by decide)
          have e15 : vals 15 = _ := hf 15 (by decide)
          have e16 : vals 16 = _ := hf 16 (by decide)
          have e17 : vals 17 = _ := hf 17 (by decide)
          have e18 : vals 18 = _ := hf 18 (by decide)
          simp only [fillG, Nat.zero_add, Nat.reduceAdd, e0, e1, e2, e3, e4, e5, e6, e7, e8, e9, e10, e11, e12, e13, e14, e15, e16, e17, e18, Act.put, List.setIfInBounds_toArray, List.set_cons_succ, List.set_cons_zero]
          clear e0 e1 e2 e3 e4 e5 e6 e7 e8 e9 e10 e11 e12 e13 e14 e15 e16 e17 e18 hf
          go_wp2
          go_ret
          exact ⟨rfl, hJ.below⟩

    · obtain ⟨X, hX⟩ : ∃ X, bits .andNot .u64 at_ 2097151 = X := ⟨_, rfl⟩
      obtain ⟨R, hR⟩ : ∃ R, bits .and .u64 aw 2097151 = R := ⟨_, rfl⟩
      obtain ⟨Y, hY⟩ : ∃ Y, bits .andNot .u64 at2 2097151 = Y := ⟨_, rfl⟩
      obtain ⟨F, hF⟩ : ∃ F, bits .or .u64 X R = F := ⟨_, rfl⟩
      have HX : Hid (X = at_ / 2097152 * 2097152) := hide (by rw [← hX, nm21 at_ a0 a1])
      have HR : Hid (R = aw % 2097152) := hide (by rw [← hR, mask21 aw w0' w1'])
      have HY : Hid (Y = at2 / 2097152 * 2097152) := hide (by rw [← hY, nm21 at2 t0 t1])
      have HF : Hid (F = X + aw % 2097152) := hide (by
        rw [← hF, unhide HR, unhide HX]
        refine u64_orParts 21 _ _ (by omega) (by omega) (by omega) (by omega) ?_ ?_
        · show (at_ / 2097152 * 2097152).toNat % 2097152 = 0; omega
        · show (aw % 2097152).toNat < 2097152; omega)
      have hs : sizeI 1 = 2097152 := by kernel_rfl
      have hwf : (⟨X, 1, sp % 65536, gl, lf⟩ : E).wf := by
        have := unhide HX
        exact ⟨by show 0 ≤ X; omega, by show X < 18446744073709551616; omega, by show -9223372036854775808 ≤ (1 : Int); decide, by show (1 : Int) < 9223372036854775808; decide, by show 0 ≤ sp % 65536; omega, by show sp % 65536 < 18446744073709551616; omega, f0, f1⟩
      have hbad : bad (⟨X, 1, sp % 65536, gl, lf⟩ : E) = false := by
        unfold bad; have := unhide HX
        simp only [Bool.or_eq_false_iff, decide_eq_false_iff_not, Bool.not_eq_false', decide_eq_true_eq, hs]
        exact ⟨⟨⟨by omega, by omega⟩, by omega⟩, by omega⟩
      have hok := (ok_of (⟨X, 1, sp % 65536, gl, lf⟩ : E) hwf hbad).1
      have HO := hide hok
      have hxb : 0 ≤ X ∧ X < 18446744073709551616 ∧ X % 2097152 = 0 := by have := unhide HX; omega
      have hfind : ∀ (q a : Int), findS (put S0 0 (some (⟨X, 1, sp % 65536, gl, lf⟩ : E))) q a = if a / 2097152 = X / 2097152 ∧ (gl = true ∨ q = sp % 65536) then some (⟨X, 1, sp % 65536, gl, lf⟩ : E) else none := fun q a => by
        rw [find_one]
        unfold hasB
        show (if (decide (X / 2097152 = a / 2097152) && (gl || decide (sp % 65536 = q))) = true then _ else _) = _
        simp only [Bool.and_eq_true, Bool.or_eq_true, decide_eq_true_eq]
        by_cases c1 : a / 2097152 = X / 2097152
        · simp [c1, eq_comm]
        · rw [if_neg (fun c => c1 c.1.symm), if_neg (fun c => c1 c.1)]
      have Hfind := hide hfind
      have Hxb := hide hxb
      have Hwf := hide hwf
      have Hbad := hide hbad
      have HFB : Hid (0 ≤ F ∧ F < 18446744073709551616 ∧ F / 2097152 = X / 2097152) := hide (by have := unhide HF; have := unhide HX; omega)
      clear hfind hxb hok hwf hbad
      have J2 := J1.new #[.int .u64 X, .int .i64 1, .int .u64 (sp % 65536), .bool gl, .int .u64 lf] 33
      go_wp2_with fail
      refine (new_h J2 f0 f1).mono ?_
      rintro r w3 ⟨b, rfl, h3⟩
      clear J1 J2 c6
      have c5 := cells5 h3.f2.heap
      have c6 := cells6 h3.f3.heap
      have hyl := lt_of_heap' h3.f2.heap
      have hxl := lt_of_heap' h3.f3.heap
      go_wp2_with fail
      refine (put_yes (e := (⟨X, 1, sp % 65536, gl, lf⟩ : E)) h3 (unhide Hwf) (unhide Hbad)).mono ?_
      rintro r w4 ⟨rfl, h4⟩
      rw [putS_one (⟨X, 1, sp % 65536, gl, lf⟩ : E) (unhide Hbad)] at h4
      clear h3 c5 c6
      have c5 := cells5 h4.f2.heap
      have c6 := cells6 h4.f3.heap
      have hyl := lt_of_heap' h4.f2.heap
      have hxl := lt_of_heap' h4.f3.heap
      go_wp2_with fail
      refine (find_hit (e := (⟨X, 1, sp % 65536, gl, lf⟩ : E)) h4 (unhide HFB).1 (unhide HFB).2.1 (by rw [unhide Hfind, if_pos ⟨(unhide HFB).2.2, .inr rfl⟩])).mono ?_
      rintro r w5 ⟨rfl, h5⟩
      have h6 := h5.new #[.int .u64 X, .int .i64 1, .int .u64 (sp % 65536), .bool gl, .int .u64 lf] 33
      clear h4 h5 c5 c6
      have c5 := cells5 h6.f3.heap
      have c5' := cells5 h6.heap
      have hyl := lt_of_heap' h6.f3.heap
      have heq := eq33n (⟨X, 1, sp % 65536, gl, lf⟩ : E) (unhide HO)
      by_cases yx : Y = X
      · have zy : (Y == X) = true := beq_iff_eq.2 yx
        have yx := hide yx
        cases gl with
        | true =>
          go_wp2_with fail
          refine (find_hit (e := (⟨X, 1, sp % 65536, true, lf⟩ : E)) h6.f2 t0 t1 (by rw [unhide Hfind, if_pos (by have := unhide HY; have := unhide Hxb; exact ⟨by omega, by simp⟩)])).mono ?_
          rintro r w7 ⟨rfl, h7⟩
          have h8 := h7.new #[.int .u64 X, .int .i64 1, .int .u64 (sp % 65536), .bool true, .int .u64 lf] 33
          clear h6 h7 c5 c5'
          have c5 := cells5 h8.f4.heap
          have c5' := cells5 h8.heap
          have hyl := lt_of_heap' h8.f4.heap
          skip
          go_wp2_with fail
          skip
          refine (find_miss h8.f2 ?b0 ?b1 ?b2).mono ?_
          case b0 => simp only [IntKind.wrap_u64]; omega
          case b1 => simp only [IntKind.wrap_u64]; omega
          case b2 =>
            rw [unhide Hfind, if_neg]
            rintro ⟨c, _⟩
            simp only [IntKind.wrap_u64] at c
            have := unhide Hxb
            omega
          rintro r w9 ⟨rfl, h9⟩
          have h10 := (h9.new #[.int .u64 0, .int .i64 0, .int .u64 0, .bool false, .int .u64 0] 33).tail.f2.tail.f2.tail
          clear h8 h9 c5 c5'
          have c5 := cells5 h10.f2.heap
          have hyl := lt_of_heap' h10.f2.heap
          skip
          go_wp2_with fail
          skip
          refine (find_miss h10 ?b0 ?b1 ?b2).mono ?_
          case b0 => simp only [IntKind.wrap_u64]; omega
          case b1 => simp only [IntKind.wrap_u64]; omega
          case b2 =>
            rw [unhide Hfind, if_neg]
            rintro ⟨c, _⟩
            simp only [IntKind.wrap_u64] at c
            have := unhide Hxb
            omega
          rintro r w11 ⟨rfl, h11⟩
          have h12 := (h11.new #[.int .u64 0, .int .i64 0, .int .u64 0, .bool false, .int .u64 0] 33).tail
          clear h10 h11 c5
          go_wp2_with fail
          refine (all_h h12).mono ?_
          rintro r w13 ⟨v, rfl, h13⟩
          rw [kept_one] at h13
          simp only [List.length_cons, List.length_nil, Nat.zero_add] at h13
          obtain ⟨g1, o1, cap1, hv, hgl, _, d0, d1, d2, d3, d4⟩ := cellsE (i := 0) (e := (⟨X, 1, sp % 65536, true, lf⟩ : E)) h13.slw rfl
          subst hv
          have h13 := h13.three
          have HE := hide (eq33e ⟨X, 1, sp % 65536, true, lf⟩ (unhide HO))
          clear h12 d0 d1 d2 d3 d4
          go_wp2_with fail
          refine wp_region_F (fun w_ => Heap w w_ [HP.slw (.slice (some ⟨g1, o1, none⟩) 1 cap1) 5 1 (ecs [(⟨X, 1, sp % 65536, true, lf⟩ : E)]), HP.tl b (putSeed S0 lf ⟨X, 1, sp % 65536, true, lf⟩) (put S0 0 (some ⟨X, 1, sp % 65536, true, lf⟩)), HP.blk wc.heap.size #[.int .u64 X, .int .i64 1, .int .u64 (sp % 65536), .bool true, .int .u64 lf] 33]) GN (fun k_ v_ w_ => match k_ with
              | 0 => v_ = .bool false
              | 1 => v_ = .bool true
              | 2 => v_ = .bool true
              | 3 => v_ = .bool false
              | 4 => v_ = .bool true
              | 5 => v_ = .bool true
              | 6 => v_ = .bool true
              | 7 => v_ = .slice (some ⟨g1, o1, none⟩) 1 cap1
              | 8 => v_ = .int .i64 1
              | 9 => v_ = .bool true
              | 10 => v_ = .bool true
              | 11 => v_ = .bool true
              | 12 => v_ = .slice (some ⟨g1, o1, none⟩) 1 cap1
              | 13 => v_ = .pointer (some ⟨g1, o1 + 0 * 5, none⟩)
              | 14 => v_ = .agg #[.int .u64 X, .int .i64 1, .int .u64 (sp % 65536), .bool true, .int .u64 lf]
              | 15 => v_ = .agg #[.int .u64 X, .int .i64 1, .int .u64 (sp % 65536), .bool true, .int .u64 lf]
              | 16 => v_ = .bool true
              | 17 => v_ = .bool true
              | _ => v_ = .bool true) fol (by kernel_rfl) ?_ ?_ ?_ ?_
          · exact h13.drew
          · intro k_ v_ w_ w2_ h1 hg
            split at h1 <;> exact h1
          · intro vals
            show wpG _ _ _ _ _ _ 0 (_ :: _) _
            refine wpG_cons (gval (.bool false) GN.refl fun w_ hJ hd => ?_) ?_
            · exact ⟨by kernel_rfl, by kernel_rfl, rfl⟩
            refine wpG_cons (gval (.bool true) GN.refl fun w_ hJ hd => ?_) ?_
            · have e0 : vals 0 = _ := hd 0 (by decide) (by kernel_rfl)
              rw [e0]
              exact ⟨by kernel_rfl, by kernel_rfl, rfl⟩
            refine wpG_cons (gval (.bool true) GN.refl fun w_ hJ hd => ?_) ?_
            · have e1 : vals 1 = _ := hd 1 (by decide) (by kernel_rfl)
              rw [e1]
              exact ⟨by kernel_rfl, by kernel_rfl, rfl⟩
            refine wpG_cons (gval (.bool false) GN.refl fun w_ hJ hd => ?_) ?_
            · have e2 : vals 2 = _ := hd 2 (by decide) (by kernel_rfl)
              rw [e2]
              exact ⟨by kernel_rfl, by kernel_rfl, rfl⟩
            refine wpG_cons (gval (.bool true) GN.refl fun w_ hJ hd => ?_) ?_
            · have e3 : vals 3 = _ := hd 3 (by decide) (by kernel_rfl)
              have e2 : vals 2 = _ := hd 2 (by decide) (by kernel_rfl)
              rw [e3, e2]
              exact ⟨by kernel_rfl, by kernel_rfl, rfl⟩
            refine wpG_cons (gval (.bool true) GN.refl fun w_ hJ hd => ?_) ?_
            · have e2 : vals 2 = _ := hd 2 (by decide) (by kernel_rfl)
              have e4 : vals 4 = _ := hd 4 (by decide) (by kernel_rfl)
              rw [e2, e4]
              exact ⟨by kernel_rfl, by kernel_rfl, rfl⟩
            refine wpG_cons (gval (.bool true) GN.refl fun w_ hJ hd => ?_) ?_
            · have e5 : vals 5 = _ := hd 5 (by decide) (by kernel_rfl)
              rw [e5]
              exact ⟨by kernel_rfl, by kernel_rfl, rfl⟩
            refine wpG_cons (gval (.slice (some ⟨g1, o1, none⟩) 1 cap1) GN.refl fun w_ hJ hd => ?_) ?_
            · have e6 : vals 6 = _ := hd 6 (by decide) (by kernel_rfl)
              rw [e6]
              exact ⟨by kernel_rfl, by kernel_rfl, rfl⟩
            refine wpG_cons (gval (.int .i64 1) GN.refl fun w_ hJ hd => ?_) ?_
            · have e7 : vals 7 = _ := hd 7 (by decide) (by kernel_rfl)
              have e6 : vals 6 = _ := hd 6 (by decide) (by kernel_rfl)
              rw [e7, e6]
              exact ⟨by kernel_rfl, by kernel_rfl, rfl⟩
            refine wpG_cons (gval (.bool true) GN.refl fun w_ hJ hd => ?_) ?_
            · have e8 : vals 8 = _ := hd 8 (by decide) (by kernel_rfl)
              have e6 : vals 6 = _ := hd 6 (by decide) (by kernel_rfl)
              rw [e8, e6]
              exact ⟨by kernel_rfl, by kernel_rfl, rfl⟩
            refine wpG_cons (gval (.bool true) GN.refl fun w_ hJ hd => ?_) ?_
            · have e6 : vals 6 = _ := hd 6 (by decide) (by kernel_rfl)
              have e9 : vals 9 = _ := hd 9 (by decide) (by kernel_rfl)
              rw [e6, e9]
              exact ⟨by kernel_rfl, by kernel_rfl, rfl⟩
            refine wpG_cons (gval (.bool true) GN.refl fun w_ hJ hd => ?_) ?_
            · have e10 : vals 10 = _ := hd 10 (by decide) (by kernel_rfl)
              rw [e10]
              exact ⟨by kernel_rfl, by kernel_rfl, rfl⟩
            refine wpG_cons (gval (.slice (some ⟨g1, o1, none⟩) 1 cap1) GN.refl fun w_ hJ hd => ?_) ?_
            · have e11 : vals 11 = _ := hd 11 (by decide) (by kernel_rfl)
              rw [e11]
              exact ⟨by kernel_rfl, by kernel_rfl, rfl⟩
            refine wpG_cons (gval (.pointer (some ⟨g1, o1 + 0 * 5, none⟩)) GN.refl fun w_ hJ hd => ?_) ?_
            · have e12 : vals 12 = _ := hd 12 (by decide) (by kernel_rfl)
              have e11 : vals 11 = _ := hd 11 (by decide) (by kernel_rfl)
              rw [e12, e11]
              exact ⟨by kernel_rfl, by kernel_rfl, rfl⟩
            refine wpG_cons (gop (Instr.loadAt 33 (.pointer (some ⟨g1, o1 + 0 * 5, none⟩))) (.agg #[.int .u64 X, .int .i64 1, .int .u64 (sp % 65536), .bool true, .int .u64 lf]) GN.refl fun w_ hJ hd => ?_) ?_
            · have e13 : vals 13 = _ := hd 13 (by decide) (by kernel_rfl)
              have e11 : vals 11 = _ := hd 11 (by decide) (by kernel_rfl)
              rw [e13, e11]
              exact ⟨by kernel_rfl, by kernel_rfl, load_es (i := 0) (e := (⟨X, 1, sp % 65536, true, lf⟩ : E)) hJ.slw rfl, rfl⟩
            refine wpG_cons (gop (Instr.loadAt 33 (.pointer (some ⟨wc.heap.size, 0, none⟩))) (.agg #[.int .u64 X, .int .i64 1, .int .u64 (sp % 65536), .bool true, .int .u64 lf]) GN.refl fun w_ hJ hd => ?_) ?_
            · have e11 : vals 11 = _ := hd 11 (by decide) (by kernel_rfl)
              rw [e11]
              exact ⟨by kernel_rfl, by kernel_rfl, load_box hJ.f3.heap, rfl⟩
            refine wpG_cons (gop ((do eqGuard .eql 33 (.tmp 158) (.tmp 159) (.agg #[.int .u64 X, .int .i64 1, .int .u64 (sp % 65536), .bool true, .int .u64 lf]) (.agg #[.int .u64 X, .int .i64 1, .int .u64 (sp % 65536), .bool true, .int .u64 lf]); binOp .eql 33 (.agg #[.int .u64 X, .int .i64 1, .int .u64 (sp % 65536), .bool true, .int .u64 lf]) (.agg #[.int .u64 X, .int .i64 1, .int .u64 (sp % 65536), .bool true, .int .u64 lf]))) (.bool true) GN.refl fun w_ hJ hd => ?_) ?_
            · have e14 : vals 14 = _ := hd 14 (by decide) (by kernel_rfl)
              have e15 : vals 15 = _ := hd 15 (by decide) (by kernel_rfl)
              have e11 : vals 11 = _ := hd 11 (by decide) (by kernel_rfl)
              rw [e14, e15, e11]
              exact ⟨by kernel_rfl, by kernel_rfl, eqg33 (unhide HE w_), rfl⟩
            refine wpG_cons (gval (.bool true) GN.refl fun w_ hJ hd => ?_) ?_
            · have e11 : vals 11 = _ := hd 11 (by decide) (by kernel_rfl)
              have e16 : vals 16 = _ := hd 16 (by decide) (by kernel_rfl)
              rw [e11, e16]
              exact ⟨by kernel_rfl, by kernel_rfl, rfl⟩
            refine wpG_cons (gval (.bool true) GN.refl fun w_ hJ hd => ?_) wpG_nil
            · have e17 : vals 17 = _ := hd 17 (by decide) (by kernel_rfl)
              rw [e17]
              exact ⟨by kernel_rfl, by kernel_rfl, rfl⟩
          · intro vals w_ hJ hf
            have e0 : vals 0 = _ := hf 0 (by decide)
            have e1 : vals 1 = _ := hf 1 (by decide)
            have e2 : vals 2 = _ := hf 2 (by decide)
            have e3 : vals 3 = _ := hf 3 (by decide)
            have e4 : vals 4 = _ := hf 4 (by decide)
            have e5 : vals 5 = _ := hf 5 (by decide)
            have e6 : vals 6 = _ := hf 6 (by decide)
            have e7 : vals 7 = _ := hf 7 (by decide)
            have e8 : vals 8 = _ := hf 8 (by decide)
            have e9 : vals 9 = _ := hf 9 (by decide)
            have e10 : vals 10 = _ := hf 10 (by decide)
            have e11 : vals 11 = _ := hf 11 (by decide)
            have e12 : vals 12 = _ := hf 12 (by decide)
            have e13 : vals 13 = _ := hf 13 (by decide)
            have e14 : vals 14 = _ := hf 14 (by decide)
            have e15 : vals 15 = _ := hf 15 (by decide)
            have e16 : vals 16 = _ := hf 16 (by decide)
            have e17 : vals 17 = _ := hf 17 (by decide)
            have e18 : vals 18 = _ := hf 18 (by decide)
            simp only [fillG, Nat.zero_add, Nat.reduceAdd, e0, e1, e2, e3, e4, e5, e6, e7, e8, e9, e10, e11, e12, e13, e14, e15, e16, e17, e18, Act.put, List.setIfInBounds_toArray, List.set_cons_succ, List.set_cons_zero]
            clear e0 e1 e2 e3 e4 e5 e6 e7 e8 e9 e10 e11 e12 e13 e14 e15 e16 e17 e18 hf
            go_wp2
            go_ret
            exact ⟨rfl, hJ.below⟩
        | false =>
          by_cases sq : s2 = sp % 65536
          · have zs : (s2 == sp % 65536) = true := beq_iff_eq.2 sq
            have Hsq := hide sq
            clear sq
            go_wp2_with fail
            refine (find_hit (e := (⟨X, 1, sp % 65536, false, lf⟩ : E)) h6.f2 t0 t1 (by rw [unhide Hfind, if_pos (by have := unhide HY; have := unhide Hxb; exact ⟨by omega, .inr (unhide Hsq)⟩)])).mono ?_
            rintro r w7 ⟨rfl, h7⟩
            have h8 := h7.new #[.int .u64 X, .int .i64 1, .int .u64 (sp % 65536), .bool false, .int .u64 lf] 33
            clear h6 h7 c5 c5'
            have c5 := cells5 h8.f4.heap
            have c5' := cells5 h8.heap
            have hyl := lt_of_heap' h8.f4.heap
            skip
            go_wp2_with fail
            skip
            refine (find_miss h8.f2 ?b0 ?b1 ?b2).mono ?_
            case b0 => simp only [IntKind.wrap_u64]; omega
            case b1 => simp only [IntKind.wrap_u64]; omega
            case b2 =>
              rw [unhide Hfind, if_neg]
              rintro ⟨c, _⟩
              simp only [IntKind.wrap_u64] at c
              have := unhide Hxb
              omega
            rintro r w9 ⟨rfl, h9⟩
            have h10 := (h9.new #[.int .u64 0, .int .i64 0, .int .u64 0, .bool false, .int .u64 0] 33).tail.f2.tail.f2.tail
            clear h8 h9 c5 c5'
            have c5 := cells5 h10.f2.heap
            have hyl := lt_of_heap' h10.f2.heap
            skip
            go_wp2_with fail
            skip
            refine (find_miss h10 ?b0 ?b1 ?b2).mono ?_
            case b0 => simp only [IntKind.wrap_u64]; omega
            case b1 => simp only [IntKind.wrap_u64]; omega
            case b2 =>
              rw [unhide Hfind, if_neg]
              rintro ⟨c, _⟩
              simp only [IntKind.wrap_u64] at c
              have := unhide Hxb
              omega
            rintro r w11 ⟨rfl, h11⟩
            have h12 := (h11.new #[.int .u64 0, .int .i64 0, .int .u64 0, .bool false, .int .u64 0] 33).tail
            clear h10 h11 c5
            go_wp2_with fail
            refine (all_h h12).mono ?_
            rintro r w13 ⟨v, rfl, h13⟩
            rw [kept_one] at h13
            simp only [List.length_cons, List.length_nil, Nat.zero_add] at h13
            obtain ⟨g1, o1, cap1, hv, hgl, _, d0, d1, d2, d3, d4⟩ := cellsE (i := 0) (e := (⟨X, 1, sp % 65536, false, lf⟩ : E)) h13.slw rfl
            subst hv
            have h13 := h13.three
            have HE := hide (eq33e ⟨X, 1, sp % 65536, false, lf⟩ (unhide HO))
            clear h12 d0 d1 d2 d3 d4
            go_wp2_with fail
            refine wp_region_F (fun w_ => Heap w w_ [HP.slw (.slice (some ⟨g1, o1, none⟩) 1 cap1) 5 1 (ecs [(⟨X, 1, sp % 65536, false, lf⟩ : E)]), HP.tl b (putSeed S0 lf ⟨X, 1, sp % 65536, false, lf⟩) (put S0 0 (some ⟨X, 1, sp % 65536, false, lf⟩)), HP.blk wc.heap.size #[.int .u64 X, .int .i64 1, .int .u64 (sp % 65536), .bool false, .int .u64 lf] 33]) GN (fun k_ v_ w_ => match k_ with
                | 0 => v_ = .bool false
                | 1 => v_ = .bool true
                | 2 => v_ = .bool true
                | 3 => v_ = .bool false
                | 4 => v_ = .bool true
                | 5 => v_ = .bool true
                | 6 => v_ = .bool true
                | 7 => v_ = .slice (some ⟨g1, o1, none⟩) 1 cap1
                | 8 => v_ = .int .i64 1
                | 9 => v_ = .bool true
                | 10 => v_ = .bool true
                | 11 => v_ = .bool true
                | 12 => v_ = .slice (some ⟨g1, o1, none⟩) 1 cap1
                | 13 => v_ = .pointer (some ⟨g1, o1 + 0 * 5, none⟩)
                | 14 => v_ = .agg #[.int .u64 X, .int .i64 1, .int .u64 (sp % 65536), .bool false, .int .u64 lf]
                | 15 => v_ = .agg #[.int .u64 X, .int .i64 1, .int .u64 (sp % 65536), .bool false, .int .u64 lf]
                | 16 => v_ = .bool true
                | 17 => v_ = .bool true
                | _ => v_ = .bool true) fol (by kernel_rfl) ?_ ?_ ?_ ?_
            · exact h13.drew
            · intro k_ v_ w_ w2_ h1 hg
              split at h1 <;> exact h1
            · intro vals
              show wpG _ _ _ _ _ _ 0 (_ :: _) _
              refine wpG_cons (gval (.bool false) GN.refl fun w_ hJ hd => ?_) ?_
              · exact ⟨by kernel_rfl, by kernel_rfl, rfl⟩
              refine wpG_cons (gval (.bool true) GN.refl fun w_ hJ hd => ?_) ?_
              · have e0 : vals 0 = _ := hd 0 (by decide) (by kernel_rfl)
                rw [e0]
                exact ⟨by kernel_rfl, by kernel_rfl, rfl⟩
              refine wpG_cons (gval (.bool true) GN.refl fun w_ hJ hd => ?_) ?_
              · have e1 : vals 1 = _ := hd 1 (by decide) (by kernel_rfl)
                rw [e1]
                exact ⟨by kernel_rfl, by kernel_rfl, rfl⟩
              refine wpG_cons (gval (.bool false) GN.refl fun w_ hJ hd => ?_) ?_
              · have e2 : vals 2 = _ := hd 2 (by decide) (by kernel_rfl)
                rw [e2]
                exact ⟨by kernel_rfl, by kernel_rfl, rfl⟩
              refine wpG_cons (gval (.bool true) GN.refl fun w_ hJ hd => ?_) ?_
              · have e3 : vals 3 = _ := hd 3 (by decide) (by kernel_rfl)
                have e2 : vals 2 = _ := hd 2 (by decide) (by kernel_rfl)
                rw [e3, e2]
                exact ⟨by kernel_rfl, by kernel_rfl, rfl⟩
              refine wpG_cons (gval (.bool true) GN.refl fun w_ hJ hd => ?_) ?_
              · have e2 : vals 2 = _ := hd 2 (by decide) (by kernel_rfl)
                have e4 : vals 4 = _ := hd 4 (by decide) (by kernel_rfl)
                rw [e2, e4]
                exact ⟨by kernel_rfl, by kernel_rfl, rfl⟩
              refine wpG_cons (gval (.bool true) GN.refl fun w_ hJ hd => ?_) ?_
              · have e5 : vals 5 = _ := hd 5 (by decide) (by kernel_rfl)
                rw [e5]
                exact ⟨by kernel_rfl, by kernel_rfl, rfl⟩
              refine wpG_cons (gval (.slice (some ⟨g1, o1, none⟩) 1 cap1) GN.refl fun w_ hJ hd => ?_) ?_
              · have e6 : vals 6 = _ := hd 6 (by decide) (by kernel_rfl)
                rw [e6]
                exact ⟨by kernel_rfl, by kernel_rfl, rfl⟩
              refine wpG_cons (gval (.int .i64 1) GN.refl fun w_ hJ hd => ?_) ?_
              · have e7 : vals 7 = _ := hd 7 (by decide) (by kernel_rfl)
                have e6 : vals 6 = _ := hd 6 (by decide) (by kernel_rfl)
                rw [e7, e6]
                exact ⟨by kernel_rfl, by kernel_rfl, rfl⟩
              refine wpG_cons (gval (.bool true) GN.refl fun w_ hJ hd => ?_) ?_
              · have e8 : vals 8 = _ := hd 8 (by decide) (by kernel_rfl)
                have e6 : vals 6 = _ := hd 6 (by decide) (by kernel_rfl)
                rw [e8, e6]
                exact ⟨by kernel_rfl, by kernel_rfl, rfl⟩
              refine wpG_cons (gval (.bool true) GN.refl fun w_ hJ hd => ?_) ?_
              · have e6 : vals 6 = _ := hd 6 (by decide) (by kernel_rfl)
                have e9 : vals 9 = _ := hd 9 (by decide) (by kernel_rfl)
                rw [e6, e9]
                exact ⟨by kernel_rfl, by kernel_rfl, rfl⟩
              refine wpG_cons (gval (.bool true) GN.refl fun w_ hJ hd => ?_) ?_
              · have e10 : vals 10 = _ := hd 10 (by decide) (by kernel_rfl)
                rw [e10]
                exact ⟨by kernel_rfl, by kernel_rfl, rfl⟩
              refine wpG_cons (gval (.slice (some ⟨g1, o1, none⟩) 1 cap1) GN.refl fun w_ hJ hd => ?_) ?_
              · have e11 : vals 11 = _ := hd 11 (by decide) (by kernel_rfl)
                rw [e11]
                exact ⟨by kernel_rfl, by kernel_rfl, rfl⟩
              refine wpG_cons (gval (.pointer (some ⟨g1, o1 + 0 * 5, none⟩)) GN.refl fun w_ hJ hd => ?_) ?_
              · have e12 : vals 12 = _ := hd 12 (by decide) (by kernel_rfl)
                have e11 : vals 11 = _ := hd 11 (by decide) (by kernel_rfl)
                rw [e12, e11]
                exact ⟨by kernel_rfl, by kernel_rfl, rfl⟩
              refine wpG_cons (gop (Instr.loadAt 33 (.pointer (some ⟨g1, o1 + 0 * 5, none⟩))) (.agg #[.int .u64 X, .int .i64 1, .int .u64 (sp % 65536), .bool false, .int .u64 lf]) GN.refl fun w_ hJ hd => ?_) ?_
              · have e13 : vals 13 = _ := hd 13 (by decide) (by kernel_rfl)
                have e11 : vals 11 = _ := hd 11 (by decide) (by kernel_rfl)
                rw [e13, e11]
                exact ⟨by kernel_rfl, by kernel_rfl, load_es (i := 0) (e := (⟨X, 1, sp % 65536, false, lf⟩ : E)) hJ.slw rfl, rfl⟩
              refine wpG_cons (gop (Instr.loadAt 33 (.pointer (some ⟨wc.heap.size, 0, none⟩))) (.agg #[.int .u64 X, .int .i64 1, .int .u64 (sp % 65536), .bool false, .int .u64 lf]) GN.refl fun w_ hJ hd => ?_) ?_
              · have e11 : vals 11 = _ := hd 11 (by decide) (by kernel_rfl)
                rw [e11]
                exact ⟨by kernel_rfl, by kernel_rfl, load_box hJ.f3.heap, rfl⟩
              refine wpG_cons (gop ((do eqGuard .eql 33 (.tmp 158) (.tmp 159) (.agg #[.int .u64 X, .int .i64 1, .int .u64 (sp % 65536), .bool false, .int .u64 lf]) (.agg #[.int .u64 X, .int .i64 1, .int .u64 (sp % 65536), .bool false, .int .u64 lf]); binOp .eql 33 (.agg #[.int .u64 X, .int .i64 1, .int .u64 (sp % 65536), .bool false, .int .u64 lf]) (.agg #[.int .u64 X, .int .i64 1, .int .u64 (sp % 65536), .bool false, .int .u64 lf]))) (.bool true) GN.refl fun w_ hJ hd => ?_) ?_
              · have e14 : vals 14 = _ := hd 14 (by decide) (by kernel_rfl)
                have e15 : vals 15 = _ := hd 15 (by decide) (by kernel_rfl)
                have e11 : vals 11 = _ := hd 11 (by decide) (by kernel_rfl)
                rw [e14, e15, e11]
                exact ⟨by kernel_rfl, by kernel_rfl, eqg33 (unhide HE w_), rfl⟩
              refine wpG_cons (gval (.bool true) GN.refl fun w_ hJ hd => ?_) ?_
              · have e11 : vals 11 = _ := hd 11 (by decide) (by kernel_rfl)
                have e16 : vals 16 = _ := hd 16 (by decide) (by kernel_rfl)
                rw [e11, e16]
                exact ⟨by kernel_rfl, by kernel_rfl, rfl⟩
              refine wpG_cons (gval (.bool true) GN.refl fun w_ hJ hd => ?_) wpG_nil
              · have e17 : vals 17 = _ := hd 17 (by decide) (by kernel_rfl)
                rw [e17]
                exact ⟨by kernel_rfl, by kernel_rfl, rfl⟩
            · intro vals w_ hJ hf
              have e0 : vals 0 = _ := hf 0 (by decide)
              have e1 : vals 1 = _ := hf 1 (by decide)
              have e2 : vals 2 = _ := hf 2 (by decide)
              have e3 : vals 3 = _ := hf 3 (by decide)
              have e4 : vals 4 = _ := hf 4 (by decide)
              have e5 : vals 5 = _ := hf 5 (by decide)
              have e6 : vals 6 = _ := hf 6 (by decide)
              have e7 : vals 7 = _ := hf 7 (by decide)
              have e8 : vals 8 = _ := hf 8 (by decide)
              have e9 : vals 9 = _ := hf 9 (by decide)
              have e10 : vals 10 = _ := hf 10 (by decide)
              have e11 : vals 11 = _ := hf 11 (by decide)
              have e12 : vals 12 = _ := hf 12 (by decide)
              have e13 : vals 13 = _ := hf 13 (by decide)
              have e14 : vals 14 = _ := hf 14 (by decide)
              have e15 : vals 15 = _ := hf 15 (by decide)
              have e16 : vals 16 = _ := hf 16 (by decide)
              have e17 : vals 17 = _ := hf 17 (by decide)
              have e18 : vals 18 = _ := hf 18 (by decide)
              simp only [fillG, Nat.zero_add, Nat.reduceAdd, e0, e1, e2, e3, e4, e5, e6, e7, e8, e9, e10, e11, e12, e13, e14, e15, e16, e17, e18, Act.put, List.setIfInBounds_toArray, List.set_cons_succ, List.set_cons_zero]
              clear e0 e1 e2 e3 e4 e5 e6 e7 e8 e9 e10 e11 e12 e13 e14 e15 e16 e17 e18 hf
              go_wp2
              go_ret
              exact ⟨rfl, hJ.below⟩
          · have zs : (s2 == sp % 65536) = false := beq_eq_false_iff_ne.2 sq
            go_wp2_with fail
            refine (find_miss h6.f2 t0 t1 (by rw [unhide Hfind, if_neg (by have := unhide HY; have := unhide Hxb; exact fun c => c.2.elim (fun c => by cases c) sq)])).mono ?_
            rintro r w7 ⟨rfl, h7⟩
            have h8 := h7.new #[.int .u64 0, .int .i64 0, .int .u64 0, .bool false, .int .u64 0] 33
            clear h6 h7 c5 c5'
            have c5 := cells5 h8.f4.heap
            have c5' := cells5 h8.heap
            have hyl := lt_of_heap' h8.f4.heap
            have heq0 := eq33n E.zero E.zero_ok
            skip
            go_wp2_with fail
            skip
            refine (find_miss h8.f2 ?b0 ?b1 ?b2).mono ?_
            case b0 => simp only [IntKind.wrap_u64]; omega
            case b1 => simp only [IntKind.wrap_u64]; omega
            case b2 =>
              rw [unhide Hfind, if_neg]
              rintro ⟨c, _⟩
              simp only [IntKind.wrap_u64] at c
              have := unhide Hxb
              omega
            rintro r w9 ⟨rfl, h9⟩
            have h10 := (h9.new #[.int .u64 0, .int .i64 0, .int .u64 0, .bool false, .int .u64 0] 33).tail.f2.tail.f2.tail
            clear h8 h9 c5 c5'
            have c5 := cells5 h10.f2.heap
            have hyl := lt_of_heap' h10.f2.heap
            skip
            go_wp2_with fail
            skip
            refine (find_miss h10 ?b0 ?b1 ?b2).mono ?_
            case b0 => simp only [IntKind.wrap_u64]; omega
            case b1 => simp only [IntKind.wrap_u64]; omega
            case b2 =>
              rw [unhide Hfind, if_neg]
              rintro ⟨c, _⟩
              simp only [IntKind.wrap_u64] at c
              have := unhide Hxb
              omega
            rintro r w11 ⟨rfl, h11⟩
            have h12 := (h11.new #[.int .u64 0, .int .i64 0, .int .u64 0, .bool false, .int .u64 0] 33).tail
            clear h10 h11 c5
            go_wp2_with fail
            refine (all_h h12).mono ?_
            rintro r w13 ⟨v, rfl, h13⟩
            rw [kept_one] at h13
            simp only [List.length_cons, List.length_nil, Nat.zero_add] at h13
            obtain ⟨g1, o1, cap1, hv, hgl, _, d0, d1, d2, d3, d4⟩ := cellsE (i := 0) (e := (⟨X, 1, sp % 65536, false, lf⟩ : E)) h13.slw rfl
            subst hv
            have h13 := h13.three
            have HE := hide (eq33e ⟨X, 1, sp % 65536, false, lf⟩ (unhide HO))
            clear h12 d0 d1 d2 d3 d4
            go_wp2_with fail
            refine wp_region_F (fun w_ => Heap w w_ [HP.slw (.slice (some ⟨g1, o1, none⟩) 1 cap1) 5 1 (ecs [(⟨X, 1, sp % 65536, false, lf⟩ : E)]), HP.tl b (putSeed S0 lf ⟨X, 1, sp % 65536, false, lf⟩) (put S0 0 (some ⟨X, 1, sp % 65536, false, lf⟩)), HP.blk wc.heap.size #[.int .u64 X, .int .i64 1, .int .u64 (sp % 65536), .bool false, .int .u64 lf] 33]) GN (fun k_ v_ w_ => match k_ with
                | 0 => v_ = .bool false
                | 1 => v_ = .bool true
                | 2 => v_ = .bool true
                | 3 => v_ = .bool false
                | 4 => v_ = .bool true
                | 5 => v_ = .bool true
                | 6 => v_ = .bool true
                | 7 => v_ = .slice (some ⟨g1, o1, none⟩) 1 cap1
                | 8 => v_ = .int .i64 1
                | 9 => v_ = .bool true
                | 10 => v_ = .bool true
                | 11 => v_ = .bool true
                | 12 => v_ = .slice (some ⟨g1, o1, none⟩) 1 cap1
                | 13 => v_ = .pointer (some ⟨g1, o1 + 0 * 5, none⟩)
                | 14 => v_ = .agg #[.int .u64 X, .int .i64 1, .int .u64 (sp % 65536), .bool false, .int .u64 lf]
                | 15 => v_ = .agg #[.int .u64 X, .int .i64 1, .int .u64 (sp % 65536), .bool false, .int .u64 lf]
                | 16 => v_ = .bool true
                | 17 => v_ = .bool true
                | _ => v_ = .bool true) fol (by kernel_rfl) ?_ ?_ ?_ ?_
            · exact h13.drew
            · intro k_ v_ w_ w2_ h1 hg
              split at h1 <;> exact h1
            · intro vals
              show wpG _ _ _ _ _ _ 0 (_ :: _) _
              refine wpG_cons (gval (.bool false) GN.refl fun w_ hJ hd => ?_) ?_
              · exact ⟨by kernel_rfl, by kernel_rfl, rfl⟩
              refine wpG_cons (gval (.bool true) GN.refl fun w_ hJ hd => ?_) ?_
              · have e0 : vals 0 = _ := hd 0 (by decide) (by kernel_rfl)
                rw [e0]
                exact ⟨by kernel_rfl, by kernel_rfl, rfl⟩
              refine wpG_cons (gval (.bool true) GN.refl fun w_ hJ hd => ?_) ?_
              · have e1 : vals 1 = _ := hd 1 (by decide) (by kernel_rfl)
                rw [e1]
                exact ⟨by kernel_rfl, by kernel_rfl, rfl⟩
              refine wpG_cons (gval (.bool false) GN.refl fun w_ hJ hd => ?_) ?_
              · have e2 : vals 2 = _ := hd 2 (by decide) (by kernel_rfl)
                rw [e2]
                exact ⟨by kernel_rfl, by kernel_rfl, rfl⟩
              refine wpG_cons (gval (.bool true) GN.refl fun w_ hJ hd => ?_) ?_
              · have e3 : vals 3 = _ := hd 3 (by decide) (by kernel_rfl)
                have e2 : vals 2 = _ := hd 2 (by decide) (by kernel_rfl)
                rw [e3, e2]
                exact ⟨by kernel_rfl, by kernel_rfl, rfl⟩
              refine wpG_cons (gval (.bool true) GN.refl fun w_ hJ hd => ?_) ?_
              · have e2 : vals 2 = _ := hd 2 (by decide) (by kernel_rfl)
                have e4 : vals 4 = _ := hd 4 (by decide) (by kernel_rfl)
                rw [e2, e4]
                exact ⟨by kernel_rfl, by kernel_rfl, rfl⟩
              refine wpG_cons (gval (.bool true) GN.refl fun w_ hJ hd => ?_) ?_
              · have e5 : vals 5 = _ := hd 5 (by decide) (by kernel_rfl)
                rw [e5]
                exact ⟨by kernel_rfl, by kernel_rfl, rfl⟩
              refine wpG_cons (gval (.slice (some ⟨g1, o1, none⟩) 1 cap1) GN.refl fun w_ hJ hd => ?_) ?_
              · have e6 : vals 6 = _ := hd 6 (by decide) (by kernel_rfl)
                rw [e6]
                exact ⟨by kernel_rfl, by kernel_rfl, rfl⟩
              refine wpG_cons (gval (.int .i64 1) GN.refl fun w_ hJ hd => ?_) ?_
              · have e7 : vals 7 = _ := hd 7 (by decide) (by kernel_rfl)
                have e6 : vals 6 = _ := hd 6 (by decide) (by kernel_rfl)
                rw [e7, e6]
                exact ⟨by kernel_rfl, by kernel_rfl, rfl⟩
              refine wpG_cons (gval (.bool true) GN.refl fun w_ hJ hd => ?_) ?_
              · have e8 : vals 8 = _ := hd 8 (by decide) (by kernel_rfl)
                have e6 : vals 6 = _ := hd 6 (by decide) (by kernel_rfl)
                rw [e8, e6]
                exact ⟨by kernel_rfl, by kernel_rfl, rfl⟩
              refine wpG_cons (gval (.bool true) GN.refl fun w_ hJ hd => ?_) ?_
              · have e6 : vals 6 = _ := hd 6 (by decide) (by kernel_rfl)
                have e9 : vals 9 = _ := hd 9 (by decide) (by kernel_rfl)
                rw [e6, e9]
                exact ⟨by kernel_rfl, by kernel_rfl, rfl⟩
              refine wpG_cons (gval (.bool true) GN.refl fun w_ hJ hd => ?_) ?_
              · have e10 : vals 10 = _ := hd 10 (by decide) (by kernel_rfl)
                rw [e10]
                exact ⟨by kernel_rfl, by kernel_rfl, rfl⟩
              refine wpG_cons (gval (.slice (some ⟨g1, o1, none⟩) 1 cap1) GN.refl fun w_ hJ hd => ?_) ?_
              · have e11 : vals 11 = _ := hd 11 (by decide) (by kernel_rfl)
                rw [e11]
                exact ⟨by kernel_rfl, by kernel_rfl, rfl⟩
              refine wpG_cons (gval (.pointer (some ⟨g1, o1 + 0 * 5, none⟩)) GN.refl fun w_ hJ hd => ?_) ?_
              · have e12 : vals 12 = _ := hd 12 (by decide) (by kernel_rfl)
                have e11 : vals 11 = _ := hd 11 (by decide) (by kernel_rfl)
                rw [e12, e11]
                exact ⟨by kernel_rfl, by kernel_rfl, rfl⟩
              refine wpG_cons (gop (Instr.loadAt 33 (.pointer (some ⟨g1, o1 + 0 * 5, none⟩))) (.agg #[.int .u64 X, .int .i64 1, .int .u64 (sp % 65536), .bool false, .int .u64 lf]) GN.refl fun w_ hJ hd => ?_) ?_
              · have e13 : vals 13 = _ := hd 13 (by decide) (by kernel_rfl)
                have e11 : vals 11 = _ := hd 11 (by decide) (by kernel_rfl)
                rw [e13, e11]
                exact ⟨by kernel_rfl, by kernel_rfl, load_es (i := 0) (e := (⟨X, 1, sp % 65536, false, lf⟩ : E)) hJ.slw rfl, rfl⟩
              refine wpG_cons (gop (Instr.loadAt 33 (.pointer (some ⟨wc.heap.size, 0, none⟩))) (.agg #[.int .u64 X, .int .i64 1, .int .u64 (sp % 65536), .bool false, .int .u64 lf]) GN.refl fun w_ hJ hd => ?_) ?_
              · have e11 : vals 11 = _ := hd 11 (by decide) (by kernel_rfl)
                rw [e11]
                exact ⟨by kernel_rfl, by kernel_rfl, load_box hJ.f3.heap, rfl⟩
              refine wpG_cons (gop ((do eqGuard .eql 33 (.tmp 158) (.tmp 159) (.agg #[.int .u64 X, .int .i64 1, .int .u64 (sp % 65536), .bool false, .int .u64 lf]) (.agg #[.int .u64 X, .int .i64 1, .int .u64 (sp % 65536), .bool false, .int .u64 lf]); binOp .eql 33 (.agg #[.int .u64 X, .int .i64 1, .int .u64 (sp % 65536), .bool false, .int .u64 lf]) (.agg #[.int .u64 X, .int .i64 1, .int .u64 (sp % 65536), .bool false, .int .u64 lf]))) (.bool true) GN.refl fun w_ hJ hd => ?_) ?_
              · have e14 : vals 14 = _ := hd 14 (by decide) (by kernel_rfl)
                have e15 : vals 15 = _ := hd 15 (by decide) (by kernel_rfl)
                have e11 : vals 11 = _ := hd 11 (by decide) (by kernel_rfl)
                rw [e14, e15, e11]
                exact ⟨by kernel_rfl, by kernel_rfl, eqg33 (unhide HE w_), rfl⟩
              refine wpG_cons (gval (.bool true) GN.refl fun w_ hJ hd => ?_) ?_
              · have e11 : vals 11 = _ := hd 11 (by decide) (by kernel_rfl)
                have e16 : vals 16 = _ := hd 16 (by decide) (by kernel_rfl)
                rw [e11, e16]
                exact ⟨by kernel_rfl, by kernel_rfl, rfl⟩
              refine wpG_cons (gval (.bool true) GN.refl fun w_ hJ hd => ?_) wpG_nil
              · have e17 : vals 17 = _ := hd 17 (by decide) (by kernel_rfl)
                rw [e17]
                exact ⟨by kernel_rfl, by kernel_rfl, rfl⟩
            · intro vals w_ hJ hf
              have e0 : vals 0 = _ := hf 0 (by decide)
              have e1 : vals 1 = _ := hf 1 (by decide)
              have e2 : vals 2 = _ := hf 2 (by decide)
              have e3 : vals 3 = _ := hf 3 (by decide)
              have e4 : vals 4 = _ := hf 4 (by decide)
              have e5 : vals 5 = _ := hf 5 (by decide)
              have e6 : vals 6 = _ := hf 6 (by decide)
              have e7 : vals 7 = _ := hf 7 (by decide)
              have e8 : vals 8 = _ := hf 8 (by decide)
              have e9 : vals 9 = _ := hf 9 (by decide)
              have e10 : vals 10 = _ := hf 10 (by decide)
              have e11 : vals 11 = _ := hf 11 (by decide)
              have e12 : vals 12 = _ := hf 12 (by decide)
              have e13 : vals 13 = _ := hf 13 (by decide)
              have e14 : vals 14 = _ := hf 14 (by decide)
              have e15 : vals 15 = _ := hf 15 (by decide)
              have e16 : vals 16 = _ := hf 16 (by decide)
              have e17 : vals 17 = _ := hf 17 (by decide)
              have e18 : vals 18 = _ := hf 18 (by decide)
              simp only [fillG, Nat.zero_add, Nat.reduceAdd, e0, e1, e2, e3, e4, e5, e6, e7, e8, e9, e10, e11, e12, e13, e14, e15, e16, e17, e18, Act.put, List.setIfInBounds_toArray, List.set_cons_succ, List.set_cons_zero]
              clear e0 e1 e2 e3 e4 e5 e6 e7 e8 e9 e10 e11 e12 e13 e14 e15 e16 e17 e18 hf
              go_wp2
              go_ret
              exact ⟨rfl, hJ.below⟩
      · have zy : (Y == X) = false := beq_eq_false_iff_ne.2 yx
        go_wp2_with fail
        refine (find_miss h6.f2 t0 t1 (by rw [unhide Hfind, if_neg (by have := unhide HY; have := unhide Hxb; exact fun c => yx (by omega))])).mono ?_
        rintro r w7 ⟨rfl, h7⟩
        have h8 := h7.new #[.int .u64 0, .int .i64 0, .int .u64 0, .bool false, .int .u64 0] 33
        clear h6 h7 c5 c5'
        have c5 := cells5 h8.f4.heap
        have c5' := cells5 h8.heap
        have hyl := lt_of_heap' h8.f4.heap
        have heq0 := eq33n E.zero E.zero_ok
        skip
        go_wp2_with fail
        skip
        refine (find_miss h8.f2 ?b0 ?b1 ?b2).mono ?_
        case b0 => simp only [IntKind.wrap_u64]; omega
        case b1 => simp only [IntKind.wrap_u64]; omega
        case b2 =>
          rw [unhide Hfind, if_neg]
          rintro ⟨c, _⟩
          simp only [IntKind.wrap_u64] at c
          have := unhide Hxb
          omega
        rintro r w9 ⟨rfl, h9⟩
        have h10 := (h9.new #[.int .u64 0, .int .i64 0, .int .u64 0, .bool false, .int .u64 0] 33).tail.f2.tail.f2.tail
        clear h8 h9 c5 c5'
        have c5 := cells5 h10.f2.heap
        have hyl := lt_of_heap' h10.f2.heap
        skip
        go_wp2_with fail
        skip
        refine (find_miss h10 ?b0 ?b1 ?b2).mono ?_
        case b0 => simp only [IntKind.wrap_u64]; omega
        case b1 => simp only [IntKind.wrap_u64]; omega
        case b2 =>
          rw [unhide Hfind, if_neg]
          rintro ⟨c, _⟩
          simp only [IntKind.wrap_u64] at c
          have := unhide Hxb
          omega
        rintro r w11 ⟨rfl, h11⟩
        have h12 := (h11.new #[.int .u64 0, .int .i64 0, .int .u64 0, .bool false, .int .u64 0] 33).tail
        clear h10 h11 c5
        go_wp2_with fail
        refine (all_h h12).mono ?_
        rintro r w13 ⟨v, rfl, h13⟩
        rw [kept_one] at h13
        simp only [List.length_cons, List.length_nil, Nat.zero_add] at h13
        obtain ⟨g1, o1, cap1, hv, hgl, _, d0, d1, d2, d3, d4⟩ := cellsE (i := 0) (e := (⟨X, 1, sp % 65536, gl, lf⟩ : E)) h13.slw rfl
        subst hv
        have h13 := h13.three
        have HE := hide (eq33e ⟨X, 1, sp % 65536, gl, lf⟩ (unhide HO))
        clear h12 d0 d1 d2 d3 d4
        go_wp2_with fail
        refine wp_region_F (fun w_ => Heap w w_ [HP.slw (.slice (some ⟨g1, o1, none⟩) 1 cap1) 5 1 (ecs [(⟨X, 1, sp % 65536, gl, lf⟩ : E)]), HP.tl b (putSeed S0 lf ⟨X, 1, sp % 65536, gl, lf⟩) (put S0 0 (some ⟨X, 1, sp % 65536, gl, lf⟩)), HP.blk wc.heap.size #[.int .u64 X, .int .i64 1, .int .u64 (sp % 65536), .bool gl, .int .u64 lf] 33]) GN (fun k_ v_ w_ => match k_ with
            | 0 => v_ = .bool false
            | 1 => v_ = .bool true
            | 2 => v_ = .bool true
            | 3 => v_ = .bool false
            | 4 => v_ = .bool true
            | 5 => v_ = .bool true
            | 6 => v_ = .bool true
            | 7 => v_ = .slice (some ⟨g1, o1, none⟩) 1 cap1
            | 8 => v_ = .int .i64 1
            | 9 => v_ = .bool true
            | 10 => v_ = .bool true
            | 11 => v_ = .bool true
            | 12 => v_ = .slice (some ⟨g1, o1, none⟩) 1 cap1
            | 13 => v_ = .pointer (some ⟨g1, o1 + 0 * 5, none⟩)
            | 14 => v_ = .agg #[.int .u64 X, .int .i64 1, .int .u64 (sp % 65536), .bool gl, .int .u64 lf]
            | 15 => v_ = .agg #[.int .u64 X, .int .i64 1, .int .u64 (sp % 65536), .bool gl, .int .u64 lf]
            | 16 => v_ = .bool true
            | 17 => v_ = .bool true
            | _ => v_ = .bool true) fol (by kernel_rfl) ?_ ?_ ?_ ?_
        · exact h13.drew
        · intro k_ v_ w_ w2_ h1 hg
          split at h1 <;> exact h1
        · intro vals
          show wpG _ _ _ _ _ _ 0 (_ :: _) _
          refine wpG_cons (gval (.bool false) GN.refl fun w_ hJ hd => ?_) ?_
          · exact ⟨by kernel_rfl, by kernel_rfl, rfl⟩
          refine wpG_cons (gval (.bool true) GN.refl fun w_ hJ hd => ?_) ?_
          · have e0 : vals 0 = _ := hd 0 (by decide) (by kernel_rfl)
            rw [e0]
            exact ⟨by kernel_rfl, by kernel_rfl, rfl⟩
          refine wpG_cons (gval (.bool true) GN.refl fun w_ hJ hd => ?_) ?_
          · have e1 : vals 1 = _ := hd 1 (by decide) (by kernel_rfl)
            rw [e1]
            exact ⟨by kernel_rfl, by kernel_rfl, rfl⟩
          refine wpG_cons (gval (.bool false) GN.refl fun w_ hJ hd => ?_) ?_
          · have e2 : vals 2 = _ := hd 2 (by decide) (by kernel_rfl)
            rw [e2]
            exact ⟨by kernel_rfl, by kernel_rfl, rfl⟩
          refine wpG_cons (gval (.bool true) GN.refl fun w_ hJ hd => ?_) ?_
          · have e3 : vals 3 = _ := hd 3 (by decide) (by kernel_rfl)
            have e2 : vals 2 = _ := hd 2 (by decide) (by kernel_rfl)
            rw [e3, e2]
            exact ⟨by kernel_rfl, by kernel_rfl, rfl⟩
          refine wpG_cons (gval (.bool true) GN.refl fun w_ hJ hd => ?_) ?_
          · have e2 : vals 2 = _ := hd 2 (by decide) (by kernel_rfl)
            have e4 : vals 4 = _ := hd 4 (by decide) (by kernel_rfl)
            rw [e2, e4]
            exact ⟨by kernel_rfl, by kernel_rfl, rfl⟩
          refine wpG_cons (gval (.bool true) GN.refl fun w_ hJ hd => ?_) ?_
          · have e5 : vals 5 = _ := hd 5 (by decide) (by kernel_rfl)
            rw [e5]
            exact ⟨by kernel_rfl, by kernel_rfl, rfl⟩
          refine wpG_cons (gval (.slice (some ⟨g1, o1, none⟩) 1 cap1) GN.refl fun w_ hJ hd => ?_) ?_
          · have e6 : vals 6 = _ := hd 6 (by decide) (by kernel_rfl)
            rw [e6]
            exact ⟨by kernel_rfl, by kernel_rfl, rfl⟩
          refine wpG_cons (gval (.int .i64 1) GN.refl fun w_ hJ hd => ?_) ?_
          · have e7 : vals 7 = _ := hd 7 (by decide) (by kernel_rfl)
            have e6 : vals 6 = _ := hd 6 (by decide) (by kernel_rfl)
            rw [e7, e6]
            exact ⟨by kernel_rfl, by kernel_rfl, rfl⟩
          refine wpG_cons (gval (.bool true) GN.refl fun w_ hJ hd => ?_) ?_
          · have e8 : vals 8 = _ := hd 8 (by decide) (by kernel_rfl)
            have e6 : vals 6 = _ := hd 6 (by decide) (by kernel_rfl)
            rw [e8, e6]
            exact ⟨by kernel_rfl, by kernel_rfl, rfl⟩
          refine wpG_cons (gval (.bool true) GN.refl fun w_ hJ hd => ?_) ?_
          · have e6 : vals 6 = _ := hd 6 (by decide) (by kernel_rfl)
            have e9 : vals 9 = _ := hd 9 (by decide) (by kernel_rfl)
            rw [e6, e9]
            exact ⟨by kernel_rfl, by kernel_rfl, rfl⟩
          refine wpG_cons (gval (.bool true) GN.refl fun w_ hJ hd => ?_) ?_
          · have e10 : vals 10 = _ := hd 10 (by decide) (by kernel_rfl)
            rw [e10]
            exact ⟨by kernel_rfl, by kernel_rfl, rfl⟩
          refine wpG_cons (gval (.slice (some ⟨g1, o1, none⟩) 1 cap1) GN.refl fun w_ hJ hd => ?_) ?_
          · have e11 : vals 11 = _ := hd 11 (by decide) (by kernel_rfl)
            rw [e11]
            exact ⟨by kernel_rfl, by kernel_rfl, rfl⟩
          refine wpG_cons (gval (.pointer (some ⟨g1, o1 + 0 * 5, none⟩)) GN.refl fun w_ hJ hd => ?_) ?_
          · have e12 : vals 12 = _ := hd 12 (by decide) (by kernel_rfl)
            have e11 : vals 11 = _ := hd 11 (by decide) (by kernel_rfl)
            rw [e12, e11]
            exact ⟨by kernel_rfl, by kernel_rfl, rfl⟩
          refine wpG_cons (gop (Instr.loadAt 33 (.pointer (some ⟨g1, o1 + 0 * 5, none⟩))) (.agg #[.int .u64 X, .int .i64 1, .int .u64 (sp % 65536), .bool gl, .int .u64 lf]) GN.refl fun w_ hJ hd => ?_) ?_
          · have e13 : vals 13 = _ := hd 13 (by decide) (by kernel_rfl)
            have e11 : vals 11 = _ := hd 11 (by decide) (by kernel_rfl)
            rw [e13, e11]
            exact ⟨by kernel_rfl, by kernel_rfl, load_es (i := 0) (e := (⟨X, 1, sp % 65536, gl, lf⟩ : E)) hJ.slw rfl, rfl⟩
          refine wpG_cons (gop (Instr.loadAt 33 (.pointer (some ⟨wc.heap.size, 0, none⟩))) (.agg #[.int .u64 X, .int .i64 1, .int .u64 (sp % 65536), .bool gl, .int .u64 lf]) GN.refl fun w_ hJ hd => ?_) ?_
          · have e11 : vals 11 = _ := hd 11 (by decide) (by kernel_rfl)
            rw [e11]
            exact ⟨by kernel_rfl, by kernel_rfl, load_box hJ.f3.heap, rfl⟩
          refine wpG_cons (gop ((do eqGuard .eql 33 (.tmp 158) (.tmp 159) (.agg #[.int .u64 X, .int .i64 1, .int .u64 (sp % 65536), .bool gl, .int .u64 lf]) (.agg #[.int .u64 X, .int .i64 1, .int .u64 (sp % 65536), .bool gl, .int .u64 lf]); binOp .eql 33 (.agg #[.int .u64 X, .int .i64 1, .int .u64 (sp % 65536), .bool gl, .int .u64 lf]) (.agg #[.int .u64 X, .int .i64 1, .int .u64 (sp % 65536), .bool gl, .int .u64 lf]))) (.bool true) GN.refl fun w_ hJ hd => ?_) ?_
          · have e14 : vals 14 = _ := hd 14 (by decide) (by kernel_rfl)
            have e15 : vals 15 = _ := hd 15 (by decide) (by kernel_rfl)
            have e11 : vals 11 = _ := hd 11 (by decide) (by kernel_rfl)
            rw [e14, e15, e11]
            exact ⟨by kernel_rfl, by kernel_rfl, eqg33 (unhide HE w_), rfl⟩
          refine wpG_cons (gval (.bool true) GN.refl fun w_ hJ hd => ?_) ?_
          · have e11 : vals 11 = _ := hd 11 (by decide) (by kernel_rfl)
            have e16 : vals 16 = _ := hd 16 (by decide) (by kernel_rfl)
            rw [e11, e16]
            exact ⟨by kernel_rfl, by kernel_rfl, rfl⟩
          refine wpG_cons (gval (.bool true) GN.refl fun w_ hJ hd => ?_) wpG_nil
          · have e17 : vals 17 = _ := hd 17 (by decide) (by kernel_rfl)
            rw [e17]
            exact ⟨by kernel_rfl, by kernel_rfl, rfl⟩
        · intro vals w_ hJ hf
          have e0 : vals 0 = _ := hf 0 (by decide)
          have e1 : vals 1 = _ := hf 1 (by decide)
          have e2 : vals 2 = _ := hf 2 (by decide)
          have e3 : vals 3 = _ := hf 3 (by decide)
          have e4 : vals 4 = _ := hf 4 (by decide)
          have e5 : vals 5 = _ := hf 5 (by decide)
          have e6 : vals 6 = _ := hf 6 (by decide)
          have e7 : vals 7 = _ := hf 7 (by decide)
          have e8 : vals 8 = _ := hf 8 (by decide)
          have e9 : vals 9 = _ := hf 9 (by decide)
          have e10 : vals 10 = _ := hf 10 (by decide)
          have e11 : vals 11 = _ := hf 11 (by decide)
          have e12 : vals 12 = _ := hf 12 (by decide)
          have e13 : vals 13 = _ := hf 13 (by decide)
          have e14 : vals 14 = _ := hf 14 (by decide)
          have e15 : vals 15 = _ := hf 15 (by decide)
          have e16 : vals 16 = _ := hf 16 (by decide)
          have e17 : vals 17 = _ := hf 17 (by decide)
          have e18 : vals 18 = _ := hf 18 (by decide)
          simp only [fillG, Nat.zero_add, Nat.reduceAdd, e0, e1, e2, e3, e4, e5, e6, e7, e8, e9, e10, e11, e12, e13, e14, e15, e16, e17, e18, Act.put, List.setIfInBounds_toArray, List.set_cons_succ, List.set_cons_zero]
          clear e0 e1 e2 e3 e4 e5 e6 e7 e8 e9 e10 e11 e12 e13 e14 e15 e16 e17 e18 hf
          go_wp2
          go_ret
          exact ⟨rfl, hJ.below⟩

    · obtain ⟨X, hX⟩ : ∃ X, bits .andNot .u64 at_ 1073741823 = X := ⟨_, rfl⟩
      obtain ⟨R, hR⟩ : ∃ R, bits .and .u64 aw 1073741823 = R := ⟨_, rfl⟩
      obtain ⟨Y, hY⟩ : ∃ Y, bits .andNot .u64 at2 1073741823 = Y := ⟨_, rfl⟩
      obtain ⟨F, hF⟩ : ∃ F, bits .or .u64 X R = F := ⟨_, rfl⟩
      have HX : Hid (X = at_ / 1073741824 * 1073741824) := hide (by rw [← hX, nm30 at_ a0 a1])
      have HR : Hid (R = aw % 1073741824) := hide (by rw [← hR, mask30 aw w0' w1'])
      have HY : Hid (Y = at2 / 1073741824 * 1073741824) := hide (by rw [← hY, nm30 at2 t0 t1])
      have HF : Hid (F = X + aw % 1073741824) := hide (by
        rw [← hF, unhide HR, unhide HX]
        refine u64_orParts 30 _ _ (by omega) (by omega) (by omega) (by omega) ?_ ?_
        · show (at_ / 1073741824 * 1073741824).toNat % 1073741824 = 0; omega
        · show (aw % 1073741824).toNat < 1073741824; omega)
      have hs : sizeI 2 = 1073741824 := by kernel_rfl
      have hwf : (⟨X, 2, sp % 65536, gl, lf⟩ : E).wf := by
        have := unhide HX
        exact ⟨by show 0 ≤ X; omega, by show X < 18446744073709551616; omega, by show -9223372036854775808 ≤ (2 : Int); decide, by show (2 : Int) < 9223372036854775808; decide, by show 0 ≤ sp % 65536; omega, by show sp % 65536 < 18446744073709551616; omega, f0, f1⟩
      have hbad : bad (⟨X, 2, sp % 65536, gl, lf⟩ : E) = false := by
        unfold bad; have := unhide HX
        simp only [Bool.or_eq_false_iff, decide_eq_false_iff_not, Bool.not_eq_false', decide_eq_true_eq, hs]
        exact ⟨⟨⟨by omega, by omega⟩, by omega⟩, by omega⟩
      have hok := (ok_of (⟨X, 2, sp % 65536, gl, lf⟩ : E) hwf hbad).1
      have HO := hide hok
      have hxb : 0 ≤ X ∧ X < 18446744073709551616 ∧ X % 1073741824 = 0 := by have := unhide HX; omega
      have hfind : ∀ (q a : Int), findS (put S0 0 (some (⟨X, 2, sp % 65536, gl, lf⟩ : E))) q a = if a / 1073741824 = X / 1073741824 ∧ (gl = true ∨ q = sp % 65536) then some (⟨X, 2, sp % 65536, gl, lf⟩ : E) else none := fun q a => by
        rw [find_one]
        unfold hasB
        show (if (decide (X / 1073741824 = a / 1073741824) && (gl || decide (sp % 65536 = q))) = true then _ else _) = _
        simp only [Bool.and_eq_true, Bool.or_eq_true, decide_eq_true_eq]
        by_cases c1 : a / 1073741824 = X / 1073741824
        · simp [c1, eq_comm]
        · rw [if_neg (fun c => c1 c.1.symm), if_neg (fun c => c1 c.1)]
      have Hfind := hide hfind
      have Hxb := hide hxb
      have Hwf := hide hwf
      have Hbad := hide hbad
      have HFB : Hid (0 ≤ F ∧ F < 18446744073709551616 ∧ F / 1073741824 = X / 1073741824) := hide (by have := unhide HF; have := unhide HX; omega)
      clear hfind hxb hok hwf hbad
      have J2 := J1.new #[.int .u64 X, .int .i64 2, .int .u64 (sp % 65536), .bool gl, .int .u64 lf] 33
      go_wp2_with fail
      refine (new_h J2 f0 f1).mono ?_
      rintro r w3 ⟨b, rfl, h3⟩
      clear J1 J2 c6
      have c5 := cells5 h3.f2.heap
      have c6 := cells6 h3.f3.heap
      have hyl := lt_of_heap' h3.f2.heap
      have hxl := lt_of_heap' h3.f3.heap
      go_wp2_with fail
      refine (put_yes (e := (⟨X, 2, sp % 65536, gl, lf⟩ : E)) h3 (unhide Hwf) (unhide Hbad)).mono ?_
      rintro r w4 ⟨rfl, h4⟩
      rw [putS_one (⟨X, 2, sp % 65536, gl, lf⟩ : E) (unhide Hbad)] at h4
      clear h3 c5 c6
      have c5 := cells5 h4.f2.heap
      have c6 := cells6 h4.f3.heap
      have hyl := lt_of_heap' h4.f2.heap
      have hxl := lt_of_heap' h4.f3.heap
      go_wp2_with fail
      refine (find_hit (e := (⟨X, 2, sp % 65536, gl, lf⟩ : E)) h4 (unhide HFB).1 (unhide HFB).2.1 (by rw [unhide Hfind, if_pos ⟨(unhide HFB).2.2, .inr rfl⟩])).mono ?_
      rintro r w5 ⟨rfl, h5⟩
      have h6 := h5.new #[.int .u64 X, .int .i64 2, .int .u64 (sp % 65536), .bool gl, .int .u64 lf] 33
      clear h4 h5 c5 c6
      have c5 := cells5 h6.f3.heap
      have c5' := cells5 h6.heap
      have hyl := lt_of_heap' h6.f3.heap
      have heq := eq33n (⟨X, 2, sp % 65536, gl, lf⟩ : E) (unhide HO)
      by_cases yx : Y = X
      · have zy : (Y == X) = true := beq_iff_eq.2 yx
        have yx := hide yx
        cases gl with
        | true =>
          go_wp2_with fail
          refine (find_hit (e := (⟨X, 2, sp % 65536, true, lf⟩ : E)) h6.f2 t0 t1 (by rw [unhide Hfind, if_pos (by have := unhide HY; have := unhide Hxb; exact ⟨by omega, by simp⟩)])).mono ?_
          rintro r w7 ⟨rfl, h7⟩
          have h8 := h7.new #[.int .u64 X, .int .i64 2, .int .u64 (sp % 65536), .bool true, .int .u64 lf] 33
          clear h6 h7 c5 c5'
          have c5 := cells5 h8.f4.heap
          have c5' := cells5 h8.heap
          have hyl := lt_of_heap' h8.f4.heap
          skip
          go_wp2_with fail
          skip
          refine (find_miss h8.f2 ?b0 ?b1 ?b2).mono ?_
          case b0 => simp only [IntKind.wrap_u64]; omega
          case b1 => simp only [IntKind.wrap_u64]; omega
          case b2 =>
            rw [unhide Hfind, if_neg]
            rintro ⟨c, _⟩
            simp only [IntKind.wrap_u64] at c
            have := unhide Hxb
            omega
          rintro r w9 ⟨rfl, h9⟩
          have h10 := (h9.new #[.int .u64 0, .int .i64 0, .int .u64 0, .bool false, .int .u64 0] 33).tail.f2.tail.f2.tail
          clear h8 h9 c5 c5'
          have c5 := cells5 h10.f2.heap
          have hyl := lt_of_heap' h10.f2.heap
          skip
          go_wp2_with fail
          skip
          refine (find_miss h10 ?b0 ?b1 ?b2).mono ?_
          case b0 => simp only [IntKind.wrap_u64]; omega
          case b1 => simp only [IntKind.wrap_u64]; omega
          case b2 =>
            rw [unhide Hfind, if_neg]
            rintro ⟨c, _⟩
            simp only [IntKind.wrap_u64] at c
            have := unhide Hxb
            omega
          rintro r w11 ⟨rfl, h11⟩
          have h12 := (h11.new #[.int .u64 0, .int .i64 0, .int .u64 0, .bool false, .int .u64 0] 33).tail
          clear h10 h11 c5
          go_wp2_with fail
          refine (all_h h12).mono ?_
          rintro r w13 ⟨v, rfl, h13⟩
          rw [kept_one] at h13
          simp only [List.length_cons, List.length_nil, Nat.zero_add] at h13
          obtain ⟨g1, o1, cap1, hv, hgl, _, d0, d1, d2, d3, d4⟩ := cellsE (i := 0) (e := (⟨X, 2, sp % 65536, true, lf⟩ : E)) h13.slw rfl
          subst hv
          have h13 := h13.three
          have HE := hide (eq33e ⟨X, 2, sp % 65536, true, lf⟩ (unhide HO))
          clear h12 d0 d1 d2 d3 d4
          go_wp2_with fail
          refine wp_region_F (fun w_ => Heap w w_ [HP.slw (.slice (some ⟨g1, o1, none⟩) 1 cap1) 5 1 (ecs [(⟨X, 2, sp % 65536, true, lf⟩ : E)]), HP.tl b (putSeed S0 lf ⟨X, 2, sp % 65536, true, lf⟩) (put S0 0 (some ⟨X, 2, sp % 65536, true, lf⟩)), HP.blk wc.heap.size #[.int .u64 X, .int .i64 2, .int .u64 (sp % 65536), .bool true, .int .u64 lf] 33]) GN (fun k_ v_ w_ => match k_ with
              | 0 => v_ = .bool false
              | 1 => v_ = .bool true
              | 2 => v_ = .bool true
              | 3 => v_ = .bool false
              | 4 => v_ = .bool true
              | 5 => v_ = .bool true
              | 6 => v_ = .bool true
              | 7 => v_ = .slice (some ⟨g1, o1, none⟩) 1 cap1
              | 8 => v_ = .int .i64 1
              | 9 => v_ = .bool true
              | 10 => v_ = .bool true
              | 11 => v_ = .bool true
              | 12 => v_ = .slice (some ⟨g1, o1, none⟩) 1 cap1
              | 13 => v_ = .pointer (some ⟨g1, o1 + 0 * 5, none⟩)
              | 14 => v_ = .agg #[.int .u64 X, .int .i64 2, .int .u64 (sp % 65536), .bool true, .int .u64 lf]
              | 15 => v_ = .agg #[.int .u64 X, .int .i64 2, .int .u64 (sp % 65536), .bool true, .int .u64 lf]
              | 16 => v_ = .bool true
              | 17 => v_ = .bool true
              | _ => v_ = .bool true) fol (by kernel_rfl) ?_ ?_ ?_ ?_
          · exact h13.drew
          · intro k_ v_ w_ w2_ h1 hg
            split at h1 <;> exact h1
          · intro vals
            show wpG _ _ _ _ _ _ 0 (_ :: _) _
            refine wpG_cons (gval (.bool false) GN.refl fun w_ hJ hd => ?_) ?_
            · exact ⟨by kernel_rfl, by kernel_rfl, rfl⟩
            refine wpG_cons (gval (.bool true) GN.refl fun w_ hJ hd => ?_) ?_
            · have e0 : vals 0 = _ := hd 0 (by decide) (by kernel_rfl)
              rw [e0]
              exact ⟨by kernel_rfl, by kernel_rfl, rfl⟩
            refine wpG_cons (gval (.bool true) GN.refl fun w_ hJ hd => ?_) ?_
            · have e1 : vals 1 = _ := hd 1 (by decide) (by kernel_rfl)
              rw [e1]
              exact ⟨by kernel_rfl, by kernel_rfl, rfl⟩
            refine wpG_cons (gval (.bool false) GN.refl fun w_ hJ hd => ?_) ?_
            · have e2 : vals 2 = _ := hd 2 (by decide) (by kernel_rfl)
              rw [e2]
              exact ⟨by kernel_rfl, by kernel_rfl, rfl⟩
            refine wpG_cons (gval (.bool true) GN.refl fun w_ hJ hd => ?_) ?_
            · have e3 : vals 3 = _ := hd 3 (by decide) (by kernel_rfl)
              have e2 : vals 2 = _ := hd 2 (by decide) (by kernel_rfl)
              rw [e3, e2]
              exact ⟨by kernel_rfl, by kernel_rfl, rfl⟩
            refine wpG_cons (gval (.bool true) GN.refl fun w_ hJ hd => ?_) ?_
            · have e2 : vals 2 = _ := hd 2 (by decide) (by kernel_rfl)
              have e4 : vals 4 = _ := hd 4 (by decide) (by kernel_rfl)
              rw [e2, e4]
              exact ⟨by kernel_rfl, by kernel_rfl, rfl⟩
            refine wpG_cons (gval (.bool true) GN.refl fun w_ hJ hd => ?_) ?_
            · have e5 : vals 5 = _ := hd 5 (by decide) (by kernel_rfl)
              rw [e5]
              exact ⟨by kernel_rfl, by kernel_rfl, rfl⟩
            refine wpG_cons (gval (.slice (some ⟨g1, o1, none⟩) 1 cap1) GN.refl fun w_ hJ hd => ?_) ?_
            · have e6 : vals 6 = _ := hd 6 (by decide) (by kernel_rfl)
              rw [e6]
              exact ⟨by kernel_rfl, by kernel_rfl, rfl⟩
            refine wpG_cons (gval (.int .i64 1) GN.refl fun w_ hJ hd => ?_) ?_
            · have e7 : vals 7 = _ := hd 7 (by decide) (by kernel_rfl)
              have e6 : vals 6 = _ := hd 6 (by decide) (by kernel_rfl)
              rw [e7, e6]
              exact ⟨by kernel_rfl, by kernel_rfl, rfl⟩
            refine wpG_cons (gval (.bool true) GN.refl fun w_ hJ hd => ?_) ?_
            · have e8 : vals 8 = _ := hd 8 (by decide) (by kernel_rfl)
              have e6 : vals 6 = _ := hd 6 (by decide) (by kernel_rfl)
              rw [e8, e6]
              exact ⟨by kernel_rfl, by kernel_rfl, rfl⟩
            refine wpG_cons (gval (.bool true) GN.refl fun w_ hJ hd => ?_) ?_
            · have e6 : vals 6 = _ := hd 6 (by decide) (by kernel_rfl)
              have e9 : vals 9 = _ := hd 9 (by decide) (by kernel_rfl)
              rw [e6, e9]
              exact ⟨by kernel_rfl, by kernel_rfl, rfl⟩
            refine wpG_cons (gval (.bool true) GN.refl fun w_ hJ hd => ?_) ?_
            · have e10 : vals 10 = _ := hd 10 (by decide) (by kernel_rfl)
              rw [e10]
              exact ⟨by kernel_rfl, by kernel_rfl, rfl⟩
            refine wpG_cons (gval (.slice (some ⟨g1, o1, none⟩) 1 cap1) GN.refl fun w_ hJ hd => ?_) ?_
            · have e11 : vals 11 = _ := hd 11 (by decide) (by kernel_rfl)
              rw [e11]
              exact ⟨by kernel_rfl, by kernel_rfl, rfl⟩
            refine wpG_cons (gval (.pointer (some ⟨g1, o1 + 0 * 5, none⟩)) GN.refl fun w_ hJ hd => ?_) ?_
            · have e12 : vals 12 = _ := hd 12 (by decide) (by kernel_rfl)
              have e11 : vals 11 = _ := hd 11 (by decide) (by kernel_rfl)
              rw [e12, e11]
              exact ⟨by kernel_rfl, by kernel_rfl, rfl⟩
            refine wpG_cons (gop (Instr.loadAt 33 (.pointer (some ⟨g1, o1 + 0 * 5, none⟩))) (.agg #[.int .u64 X, .int .i64 2, .int .u64 (sp % 65536), .bool true, .int .u64 lf]) GN.refl fun w_ hJ hd => ?_) ?_
            · have e13 : vals 13 = _ := hd 13 (by decide) (by kernel_rfl)
              have e11 : vals 11 = _ := hd 11 (by decide) (by kernel_rfl)
              rw [e13, e11]
              exact ⟨by kernel_rfl, by kernel_rfl, load_es (i := 0) (e := (⟨X, 2, sp % 65536, true, lf⟩ : E)) hJ.slw rfl, rfl⟩
            refine wpG_cons (gop (Instr.loadAt 33 (.pointer (some ⟨wc.heap.size, 0, none⟩))) (.agg #[.int .u64 X, .int .i64 2, .int .u64 (sp % 65536), .bool true, .int .u64 lf]) GN.refl fun w_ hJ hd => ?_) ?_
            · have e11 : vals 11 = _ := hd 11 (by decide) (by kernel_rfl)
              rw [e11]
              exact ⟨by kernel_rfl, by kernel_rfl, load_box hJ.f3.heap, rfl⟩
            refine wpG_cons (gop ((do eqGuard .eql 33 (.tmp 158) (.tmp 159) (.agg #[.int .u64 X, .int .i64 2, .int .u64 (sp % 65536), .bool true, .int .u64 lf]) (.agg #[.int .u64 X, .int .i64 2, .int .u64 (sp % 65536), .bool true, .int .u64 lf]); binOp .eql 33 (.agg #[.int .u64 X, .int .i64 2, .int .u64 (sp % 65536), .bool true, .int .u64 lf]) (.agg #[.int .u64 X, .int .i64 2, .int .u64 (sp % 65536), .bool true, .int .u64 lf]))) (.bool true) GN.refl fun w_ hJ hd => ?_) ?_
            · have e14 : vals 14 = _ := hd 14 (by decide) (by kernel_rfl)
              have e15 : vals 15 = _ := hd 15 (by decide) (by kernel_rfl)
              have e11 : vals 11 = _ := hd 11 (by decide) (by kernel_rfl)
              rw [e14, e15, e11]
              exact ⟨by kernel_rfl, by kernel_rfl, eqg33 (unhide HE w_), rfl⟩
            refine wpG_cons (gval (.bool true) GN.refl fun w_ hJ hd => ?_) ?_
            · have e11 : vals 11 = _ := hd 11 (by decide) (by kernel_rfl)
              have e16 : vals 16 = _ := hd 16 (by decide) (by kernel_rfl)
              rw [e11, e16]
              exact ⟨by kernel_rfl, by kernel_rfl, rfl⟩
            refine wpG_cons (gval (.bool true) GN.refl fun w_ hJ hd => ?_) wpG_nil
            · have e17 : vals 17 = _ := hd 17 (by decide) (by kernel_rfl)
              rw [e17]
              exact ⟨by kernel_rfl, by kernel_rfl, rfl⟩
          · intro vals w_ hJ hf
            have e0 : vals 0 = _ := hf 0 (by decide)
            have e1 : vals 1 = _ := hf 1 (by decide)
            have e2 : vals 2 = _ := hf 2 (by decide)
            have e3 : vals 3 = _ := hf 3 (by decide)
            have e4 : vals 4 = _ := hf 4 (by decide)
            have e5 : vals 5 = _ := hf 5 (by decide)
            have e6 : vals 6 = _ := hf 6 (by decide)
            have e7 : vals 7 = _ := hf 7 (by decide)
            have e8 : vals 8 = _ := hf 8 (by decide)
            have e9 : vals 9 = _ := hf 9 (by decide)
            have e10 : vals 10 = _ := hf 10 (by decide)
            have e11 : vals 11 = _ := hf 11 (by decide)
            have e12 : vals 12 = _ := hf 12 (by decide)
            have e13 : vals 13 = _ := hf 13 (by decide)
            have e14 : vals 14 = _ := hf 14 (by decide)
            have e15 : vals 15 = _ := hf 15 (by decide)
            have e16 : vals 16 = _ := hf 16 (by decide)
            have e17 : vals 17 = _ := hf 17 (by decide)
            have e18 : vals 18 = _ := hf 18 (by decide)
            simp only [fillG, Nat.zero_add, Nat.reduceAdd, e0, e1, e2, e3, e4, e5, e6, e7, e8, e9, e10, e11, e12, e13, e14, e15, e16, e17, e18, Act.put, List.setIfInBounds_toArray, List.set_cons_succ, List.set_cons_zero]
            clear e0 e1 e2 e3 e4 e5 e6 e7 e8 e9 e10 e11 e12 e13 e14 e15 e16 e17 e18 hf
            go_wp2
            go_ret
            exact ⟨rfl, hJ.below⟩
        | false =>
          by_cases sq : s2 = sp % 65536
          · have zs : (s2 == sp % 65536) = true := beq_iff_eq.2 sq
            have Hsq := hide sq
            clear sq
            go_wp2_with fail
            refine (find_hit (e := (⟨X, 2, sp % 65536, false, lf⟩ : E)) h6.f2 t0 t1 (by rw [unhide Hfind, if_pos (by have := unhide HY; have := unhide Hxb; exact ⟨by omega, .inr (unhide Hsq)⟩)])).mono ?_
            rintro r w7 ⟨rfl, h7⟩
            have h8 := h7.new #[.int .u64 X, .int .i64 2, .int .u64 (sp % 65536), .bool false, .int .u64 lf] 33
            clear h6 h7 c5 c5'
            have c5 := cells5 h8.f4.heap
            have c5' := cells5 h8.heap
            have hyl := lt_of_heap' h8.f4.heap
            skip
            go_wp2_with fail
            skip
            refine (find_miss h8.f2 ?b0 ?b1 ?b2).mono ?_
            case b0 => simp only [IntKind.wrap_u64]; omega
            case b1 => simp only [IntKind.wrap_u64]; omega
            case b2 =>
              rw [unhide Hfind, if_neg]
              rintro ⟨c, _⟩
              simp only [IntKind.wrap_u64] at c
              have := unhide Hxb
              omega
            rintro r w9 ⟨rfl, h9⟩
            have h10 := (h9.new #[.int .u64 0, .int .i64 0, .int .u64 0, .bool false, .int .u64 0] 33).tail.f2.tail.f2.tail
            clear h8 h9 c5 c5'
            have c5 := cells5 h10.f2.heap
            have hyl := lt_of_heap' h10.f2.heap
            skip
            go_wp2_with fail
            skip
            refine (find_miss h10 ?b0 ?b1 ?b2).mono ?_
            case b0 => simp only [IntKind.wrap_u64]; omega
            case b1 => simp only [IntKind.wrap_u64]; omega
            case b2 =>
              rw [unhide Hfind, if_neg]
              rintro ⟨c, _⟩
              simp only [IntKind.wrap_u64] at c
              have := unhide Hxb
              omega
            rintro r w11 ⟨rfl, h11⟩
            have h12 := (h11.new #[.int .u64 0, .int .i64 0, .int .u64 0, .bool false, .int .u64 0] 33).tail
            clear h10 h11 c5
            go_wp2_with fail
            refine (all_h h12).mono ?_
            rintro r w13 ⟨v, rfl, h13⟩
            rw [kept_one] at h13
            simp only [List.length_cons, List.length_nil, Nat.zero_add] at h13
            obtain ⟨g1, o1, cap1, hv, hgl, _, d0, d1, d2, d3, d4⟩ := cellsE (i := 0) (e := (⟨X, 2, sp % 65536, false, lf⟩ : E)) h13.slw rfl
            subst hv
            have h13 := h13.three
            have HE := hide (eq33e ⟨X, 2, sp % 65536, false, lf⟩ (unhide HO))
            clear h12 d0 d1 d2 d3 d4
            go_wp2_with fail
            refine wp_region_F (fun w_ => Heap w w_ [HP.slw (.slice (some ⟨g1, o1, none⟩) 1 cap1) 5 1 (ecs [(⟨X, 2, sp % 65536, false, lf⟩ : E)]), HP.tl b (putSeed S0 lf ⟨X, 2, sp % 65536, false, lf⟩) (put S0 0 (some ⟨X, 2, sp % 65536, false, lf⟩)), HP.blk wc.heap.size #[.int .u64 X, .int .i64 2, .int .u64 (sp % 65536), .bool false, .int .u64 lf] 33]) GN (fun k_ v_ w_ => match k_ with
                | 0 => v_ = .bool false
                | 1 => v_ = .bool true
                | 2 => v_ = .bool true
                | 3 => v_ = .bool false
                | 4 => v_ = .bool true
                | 5 => v_ = .bool true
                | 6 => v_ = .bool true
                | 7 => v_ = .slice (some ⟨g1, o1, none⟩) 1 cap1
                | 8 => v_ = .int .i64 1
                | 9 => v_ = .bool true
                | 10 => v_ = .bool true
                | 11 => v_ = .bool true
                | 12 => v_ = .slice (some ⟨g1, o1, none⟩) 1 cap1
                | 13 => v_ = .pointer (some ⟨g1, o1 + 0 * 5, none⟩)
                | 14 => v_ = .agg #[.int .u64 X, .int .i64 2, .int .u64 (sp % 65536), .bool false, .int .u64 lf]
                | 15 => v_ = .agg #[.int .u64 X, .int .i64 2, .int .u64 (sp % 65536), .bool false, .int .u64 lf]
                | 16 => v_ = .bool true
                | 17 => v_ = .bool true
                | _ => v_ = .bool true) fol (by kernel_rfl) ?_ ?_ ?_ ?_
            · exact h13.drew
            · intro k_ v_ w_ w2_ h1 hg
              split at h1 <;> exact h1
            · intro vals
              show wpG _ _ _ _ _ _ 0 (_ :: _) _
              refine wpG_cons (gval (.bool false) GN.refl fun w_ hJ hd => ?_) ?_
              · exact ⟨by kernel_rfl, by kernel_rfl, rfl⟩
              refine wpG_cons (gval (.bool true) GN.refl fun w_ hJ hd => ?_) ?_
              · have e0 : vals 0 = _ := hd 0 (by decide) (by kernel_rfl)
                rw [e0]
                exact ⟨by kernel_rfl, by kernel_rfl, rfl⟩
              refine wpG_cons (gval (.bool true) GN.refl fun w_ hJ hd => ?_) ?_
              · have e1 : vals 1 = _ := hd 1 (by decide) (by kernel_rfl)
                rw [e1]
                exact ⟨by kernel_rfl, by kernel_rfl, rfl⟩
              refine wpG_cons (gval (.bool false) GN.refl fun w_ hJ hd => ?_) ?_
              · have e2 : vals 2 = _ := hd 2 (by decide) (by kernel_rfl)
                rw [e2]
                exact ⟨by kernel_rfl, by kernel_rfl, rfl⟩
              refine wpG_cons (gval (.bool true) GN.refl fun w_ hJ hd => ?_) ?_
              · have e3 : vals 3 = _ := hd 3 (by decide) (by kernel_rfl)
                have e2 : vals 2 = _ := hd 2 (by decide) (by kernel_rfl)
                rw [e3, e2]
                exact ⟨by kernel_rfl, by kernel_rfl, rfl⟩
              refine wpG_cons (gval (.bool true) GN.refl fun w_ hJ hd => ?_) ?_
              · have e2 : vals 2 = _ := hd 2 (by decide) (by kernel_rfl)
                have e4 : vals 4 = _ := hd 4 (by decide) (by kernel_rfl)
                rw [e2, e4]
                exact ⟨by kernel_rfl, by kernel_rfl, rfl⟩
              refine wpG_cons (gval (.bool true) GN.refl fun w_ hJ hd => ?_) ?_
              · have e5 : vals 5 = _ := hd 5 (by decide) (by kernel_rfl)
                rw [e5]
                exact ⟨by kernel_rfl, by kernel_rfl, rfl⟩
              refine wpG_cons (gval (.slice (some ⟨g1, o1, none⟩) 1 cap1) GN.refl fun w_ hJ hd => ?_) ?_
              · have e6 : vals 6 = _ := hd 6 (by decide) (by kernel_rfl)
                rw [e6]
                exact ⟨by kernel_rfl, by kernel_rfl, rfl⟩
              refine wpG_cons (gval (.int .i64 1) GN.refl fun w_ hJ hd => ?_) ?_
              · have e7 : vals 7 = _ := hd 7 (by decide) (by kernel_rfl)
                have e6 : vals 6 = _ := hd 6 (by decide) (by kernel_rfl)
                rw [e7, e6]
                exact ⟨by kernel_rfl, by kernel_rfl, rfl⟩
              refine wpG_cons (gval (.bool true) GN.refl fun w_ hJ hd => ?_) ?_
              · have e8 : vals 8 = _ := hd 8 (by decide) (by kernel_rfl)
                have e6 : vals 6 = _ := hd 6 (by decide) (by kernel_rfl)
                rw [e8, e6]
                exact ⟨by kernel_rfl, by kernel_rfl, rfl⟩
              refine wpG_cons (gval (.bool true) GN.refl fun w_ hJ hd => ?_) ?_
              · have e6 : vals 6 = _ := hd 6 (by decide) (by kernel_rfl)
                have e9 : vals 9 = _ := hd 9 (by decide) (by kernel_rfl)
                rw [e6, e9]
                exact ⟨by kernel_rfl, by kernel_rfl, rfl⟩
              refine wpG_cons (gval (.bool true) GN.refl fun w_ hJ hd => ?_) ?_
              · have e10 : vals 10 = _ := hd 10 (by decide) (by kernel_rfl)
                rw [e10]
                exact ⟨by kernel_rfl, by kernel_rfl, rfl⟩
              refine wpG_cons (gval (.slice (some ⟨g1, o1, none⟩) 1 cap1) GN.refl fun w_ hJ hd => ?_) ?_
              · have e11 : vals 11 = _ := hd 11 (by decide) (by kernel_rfl)
                rw [e11]
                exact ⟨by kernel_rfl, by kernel_rfl, rfl⟩
              refine wpG_cons (gval (.pointer (some ⟨g1, o1 + 0 * 5, none⟩)) GN.refl fun w_ hJ hd => ?_) ?_
              · have e12 : vals 12 = _ := hd 12 (by decide) (by kernel_rfl)
                have e11 : vals 11 = _ := hd 11 (by decide) (by kernel_rfl)
                rw [e12, e11]
                exact ⟨by kernel_rfl, by kernel_rfl, rfl⟩
              refine wpG_cons (gop (Instr.loadAt 33 (.pointer (some ⟨g1, o1 + 0 * 5, none⟩))) (.agg #[.int .u64 X, .int .i64 2, .int .u64 (sp % 65536), .bool false, .int .u64 lf]) GN.refl fun w_ hJ hd => ?_) ?_
              · have e13 : vals 13 = _ := hd 13 (by decide) (by kernel_rfl)
                have e11 : vals 11 = _ := hd 11 (by decide) (by kernel_rfl)
                rw [e13, e11]
                exact ⟨by kernel_rfl, by kernel_rfl, load_es (i := 0) (e := (⟨X, 2, sp % 65536, false, lf⟩ : E)) hJ.slw rfl, rfl⟩
              refine wpG_cons (gop (Instr.loadAt 33 (.pointer (some ⟨wc.heap.size, 0, none⟩))) (.agg #[.int .u64 X, .int .i64 2, .int .u64 (sp % 65536), .bool false, .int .u64 lf]) GN.refl fun w_ hJ hd => ?_) ?_
              · have e11 : vals 11 = _ := hd 11 (by decide) (by kernel_rfl)
                rw [e11]
                exact ⟨by kernel_rfl, by kernel_rfl, load_box hJ.f3.heap, rfl⟩
              refine wpG_cons (gop ((do eqGuard .eql 33 (.tmp 158) (.tmp 159) (.agg #[.int .u64 X, .int .i64 2, .int .u64 (sp % 65536), .bool false, .int .u64 lf]) (.agg #[.int .u64 X, .int .i64 2, .int .u64 (sp % 65536), .bool false, .int .u64 lf]); binOp .eql 33 (.agg #[.int .u64 X, .int .i64 2, .int .u64 (sp % 65536), .bool false, .int .u64 lf]) (.agg #[.int .u64 X, .int .i64 2, .int .u64 (sp % 65536), .bool false, .int .u64 lf]))) (.bool true) GN.refl fun w_ hJ hd => ?_) ?_
              · have e14 : vals 14 = _ := hd 14 (by decide) (by kernel_rfl)
                have e15 : vals 15 = _ := hd 15 (by decide) (by kernel_rfl)
                have e11 : vals 11 = _ := hd 11 (by decide) (by kernel_rfl)
                rw [e14, e15, e11]
                exact ⟨by kernel_rfl, by kernel_rfl, eqg33 (unhide HE w_), rfl⟩
              refine wpG_cons (gval (.bool true) GN.refl fun w_ hJ hd => ?_) ?_
              · have e11 : vals 11 = _ := hd 11 (by decide) (by kernel_rfl)
                have e16 : vals 16 = _ := hd 16 (by decide) (by kernel_rfl)
                rw [e11, e16]
                exact ⟨by kernel_rfl, by kernel_rfl, rfl⟩
              refine wpG_cons (gval (.bool true) GN.refl fun w_ hJ hd => ?_) wpG_nil
              · have e17 : vals 17 = _ := hd 17 (by decide) (by kernel_rfl)
                rw [e17]
                exact ⟨by kernel_rfl, by kernel_rfl, rfl⟩
            · intro vals w_ hJ hf
              have e0 : vals 0 = _ := hf 0 (by decide)
              have e1 : vals 1 = _ := hf 1 (by decide)
              have e2 : vals 2 = _ := hf 2 (by decide)
              have e3 : vals 3 = _ := hf 3 (by decide)
              have e4 : vals 4 = _ := hf 4 (by decide)
              have e5 : vals 5 = _ := hf 5 (by decide)
              have e6 : vals 6 = _ := hf 6 (by decide)
              have e7 : vals 7 = _ := hf 7 (by decide)
              have e8 : vals 8 = _ := hf 8 (by decide)
              have e9 : vals 9 = _ := hf 9 (by decide)
              have e10 : vals 10 = _ := hf 10 (by decide)
              have e11 : vals 11 = _ := hf 11 (by decide)
              have e12 : vals 12 = _ := hf 12 (by decide)
              have e13 : vals 13 = _ := hf 13 (by decide)
              have e14 : vals 14 = _ := hf 14 (by decide)
              have e15 : vals 15 = _ := hf 15 (by decide)
              have e16 : vals 16 = _ := hf 16 (by decide)
              have e17 : vals 17 = _ := hf 17 (by decide)
              have e18 : vals 18 = _ := hf 18 (by decide)
              simp only [fillG, Nat.zero_add, Nat.reduceAdd, e0, e1, e2, e3, e4, e5, e6, e7, e8, e9, e10, e11, e12, e13, e14, e15, e16, e17, e18, Act.put, List.setIfInBounds_toArray, List.set_cons_succ, List.set_cons_zero]
              clear e0 e1 e2 e3 e4 e5 e6 e7 e8 e9 e10 e11 e12 e13 e14 e15 e16 e17 e18 hf
              go_wp2
              go_ret
              exact ⟨rfl, hJ.below⟩
          · have zs : (s2 == sp % 65536) = false := beq_eq_false_iff_ne.2 sq
            go_wp2_with fail
            refine (find_miss h6.f2 t0 t1 (by rw [unhide Hfind, if_neg (by have := unhide HY; have := unhide Hxb; exact fun c => c.2.elim (fun c => by cases c) sq)])).mono ?_
            rintro r w7 ⟨rfl, h7⟩
            have h8 := h7.new #[.int .u64 0, .int .i64 0, .int .u64 0, .bool false, .int .u64 0] 33
            clear h6 h7 c5 c5'
            have c5 := cells5 h8.f4.heap
            have c5' := cells5 h8.heap
            have hyl := lt_of_heap' h8.f4.heap
            have heq0 := eq33n E.zero E.zero_ok
            skip
            go_wp2_with fail
            skip
            refine (find_miss h8.f2 ?b0 ?b1 ?b2).mono ?_
            case b0 => simp only [IntKind.wrap_u64]; omega
            case b1 => simp only [IntKind.wrap_u64]; omega
            case b2 =>
              rw [unhide Hfind, if_neg]
              rintro ⟨c, _⟩
              simp only [IntKind.wrap_u64] at c
              have := unhide Hxb
              omega
            rintro r w9 ⟨rfl, h9⟩
            have h10 := (h9.new #[.int .u64 0, .int .i64 0, .int .u64 0, .bool false, .int .u64 0] 33).tail.f2.tail.f2.tail
            clear h8 h9 c5 c5'
            have c5 := cells5 h10.f2.heap
            have hyl := lt_of_heap' h10.f2.heap
            skip
            go_wp2_with fail
            skip
            refine (find_miss h10 ?b0 ?b1 ?b2).mono ?_
            case b0 => simp only [IntKind.wrap_u64]; omega
            case b1 => simp only [IntKind.wrap_u64]; omega
            case b2 =>
              rw [unhide Hfind, if_neg]
              rintro ⟨c, _⟩
              simp only [IntKind.wrap_u64] at c
              have := unhide Hxb
              omega
            rintro r w11 ⟨rfl, h11⟩
            have h12 := (h11.new #[.int .u64 0, .int .i64 0, .int .u64 0, .bool false, .int .u64 0] 33).tail
            clear h10 h11 c5
            go_wp2_with fail
            refine (all_h h12).mono ?_
            rintro r w13 ⟨v, rfl, h13⟩
            rw [kept_one] at h13
            simp only [List.length_cons, List.length_nil, Nat.zero_add] at h13
            obtain ⟨g1, o1, cap1, hv, hgl, _, d0, d1, d2, d3, d4⟩ := cellsE (i := 0) (e := (⟨X, 2, sp % 65536, false, lf⟩ : E)) h13.slw rfl
            subst hv
            have h13 := h13.three
            have HE := hide (eq33e ⟨X, 2, sp % 65536, false, lf⟩ (unhide HO))
            clear h12 d0 d1 d2 d3 d4
            go_wp2_with fail
            refine wp_region_F (fun w_ => Heap w w_ [HP.slw (.slice (some ⟨g1, o1, none⟩) 1 cap1) 5 1 (ecs [(⟨X, 2, sp % 65536, false, lf⟩ : E)]), HP.tl b (putSeed S0 lf ⟨X, 2, sp % 65536, false, lf⟩) (put S0 0 (some ⟨X, 2, sp % 65536, false, lf⟩)), HP.blk wc.heap.size #[.int .u64 X, .int .i64 2, .int .u64 (sp % 65536), .bool false, .int .u64 lf] 33]) GN (fun k_ v_ w_ => match k_ with
                | 0 => v_ = .bool false
                | 1 => v_ = .bool true
                | 2 => v_ = .bool true
                | 3 => v_ = .bool false
                | 4 => v_ = .bool true
                | 5 => v_ = .bool true
                | 6 => v_ = .bool true
                | 7 => v_ = .slice (some ⟨g1, o1, none⟩) 1 cap1
                | 8 => v_ = .int .i64 1
                | 9 => v_ = .bool true
                | 10 => v_ = .bool true
                | 11 => v_ = .bool true
                | 12 => v_ = .slice (some ⟨g1, o1, none⟩) 1 cap1
                | 13 => v_ = .pointer (some ⟨g1, o1 + 0 * 5, none⟩)
                | 14 => v_ = .agg #[.int .u64 X, .int .i64 2, .int .u64 (sp % 65536), .bool false, .int .u64 lf]
                | 15 => v_ = .agg #[.int .u64 X, .int .i64 2, .int .u64 (sp % 65536), .bool false, .int .u64 lf]
                | 16 => v_ = .bool true
                | 17 => v_ = .bool true
                | _ => v_ = .bool true) fol (by kernel_rfl) ?_ ?_ ?_ ?_
            · exact h13.drew
            · intro k_ v_ w_ w2_ h1 hg
              split at h1 <;> exact h1
            · intro vals
              show wpG _ _ _ _ _ _ 0 (_ :: _) _
              refine wpG_cons (gval (.bool false) GN.refl fun w_ hJ hd => ?_) ?_
              · exact ⟨by kernel_rfl, by kernel_rfl, rfl⟩
              refine wpG_cons (gval (.bool true) GN.refl fun w_ hJ hd => ?_) ?_
              · have e0 : vals 0 = _ := hd 0 (by decide) (by kernel_rfl)
                rw [e0]
                exact ⟨by kernel_rfl, by kernel_rfl, rfl⟩
              refine wpG_cons (gval (.bool true) GN.refl fun w_ hJ hd => ?_) ?_
              · have e1 : vals 1 = _ := hd 1 (by decide) (by kernel_rfl)
                rw [e1]
                exact ⟨by kernel_rfl, by kernel_rfl, rfl⟩
              refine wpG_cons (gval (.bool false) GN.refl fun w_ hJ hd => ?_) ?_
              · have e2 : vals 2 = _ := hd 2 (by decide) (by kernel_rfl)
                rw [e2]
                exact ⟨by kernel_rfl, by kernel_rfl, rfl⟩
              refine wpG_cons (gval (.bool true) GN.refl fun w_ hJ hd => ?_) ?_
              · have e3 : vals 3 = _ := hd 3 (by decide) (by kernel_rfl)
                have e2 : vals 2 = _ := hd 2 (by decide) (by kernel_rfl)
                rw [e3, e2]
                exact ⟨by kernel_rfl, by kernel_rfl, rfl⟩
              refine wpG_cons (gval (.bool true) GN.refl fun w_ hJ hd => ?_) ?_
              · have e2 : vals 2 = _ := hd 2 (by decide) (by kernel_rfl)
                have e4 : vals 4 = _ := hd 4 (by decide) (by kernel_rfl)
                rw [e2, e4]
                exact ⟨by kernel_rfl, by kernel_rfl, rfl⟩
              refine wpG_cons (gval (.bool true) GN.refl fun w_ hJ hd => ?_) ?_
              · have e5 : vals 5 = _ := hd 5 (by decide) (by kernel_rfl)
                rw [e5]
                exact ⟨by kernel_rfl, by kernel_rfl, rfl⟩
              refine wpG_cons (gval (.slice (some ⟨g1, o1, none⟩) 1 cap1) GN.refl fun w_ hJ hd => ?_) ?_
              · have e6 : vals 6 = _ := hd 6 (by decide) (by kernel_rfl)
                rw [e6]
                exact ⟨by kernel_rfl, by kernel_rfl, rfl⟩
              refine wpG_cons (gval (.int .i64 1) GN.refl fun w_ hJ hd => ?_) ?_
              · have e7 : vals 7 = _ := hd 7 (by decide) (by kernel_rfl)
                have e6 : vals 6 = _ := hd 6 (by decide) (by kernel_rfl)
                rw [e7, e6]
                exact ⟨by kernel_rfl, by kernel_rfl, rfl⟩
              refine wpG_cons (gval (.bool true) GN.refl fun w_ hJ hd => ?_) ?_
              · have e8 : vals 8 = _ := hd 8 (by decide) (by kernel_rfl)
                have e6 : vals 6 = _ := hd 6 (by decide) (by kernel_rfl)
                rw [e8, e6]
                exact ⟨by kernel_rfl, by kernel_rfl, rfl⟩
              refine wpG_cons (gval (.bool true) GN.refl fun w_ hJ hd => ?_) ?_
              · have e6 : vals 6 = _ := hd 6 (by decide) (by kernel_rfl)
                have e9 : vals 9 = _ := hd 9 (by decide) (by kernel_rfl)
                rw [e6, e9]
                exact ⟨by kernel_rfl, by kernel_rfl, rfl⟩
              refine wpG_cons (gval (.bool true) GN.refl fun w_ hJ hd => ?_) ?_
              · have e10 : vals 10 = _ := hd 10 (by decide) (by kernel_rfl)
                rw [e10]
                exact ⟨by kernel_rfl, by kernel_rfl, rfl⟩
              refine wpG_cons (gval (.slice (some ⟨g1, o1, none⟩) 1 cap1) GN.refl fun w_ hJ hd => ?_) ?_
              · have e11 : vals 11 = _ := hd 11 (by decide) (by kernel_rfl)
                rw [e11]
                exact ⟨by kernel_rfl, by kernel_rfl, rfl⟩
              refine wpG_cons (gval (.pointer (some ⟨g1, o1 + 0 * 5, none⟩)) GN.refl fun w_ hJ hd => ?_) ?_
              · have e12 : vals 12 = _ := hd 12 (by decide) (by kernel_rfl)
                have e11 : vals 11 = _ := hd 11 (by decide) (by kernel_rfl)
                rw [e12, e11]
                exact ⟨by kernel_rfl, by kernel_rfl, rfl⟩
              refine wpG_cons (gop (Instr.loadAt 33 (.pointer (some ⟨g1, o1 + 0 * 5, none⟩))) (.agg #[.int .u64 X, .int .i64 2, .int .u64 (sp % 65536), .bool false, .int .u64 lf]) GN.refl fun w_ hJ hd => ?_) ?_
              · have e13 : vals 13 = _ := hd 13 (by decide) (by kernel_rfl)
                have e11 : vals 11 = _ := hd 11 (by decide) (by kernel_rfl)
                rw [e13, e11]
                exact ⟨by kernel_rfl, by kernel_rfl, load_es (i := 0) (e := (⟨X, 2, sp % 65536, false, lf⟩ : E)) hJ.slw rfl, rfl⟩
              refine wpG_cons (gop (Instr.loadAt 33 (.pointer (some ⟨wc.heap.size, 0, none⟩))) (.agg #[.int .u64 X, .int .i64 2, .int .u64 (sp % 65536), .bool false, .int .u64 lf]) GN.refl fun w_ hJ hd => ?_) ?_
              · have e11 : vals 11 = _ := hd 11 (by decide) (by kernel_rfl)
                rw [e11]
                exact ⟨by kernel_rfl, by kernel_rfl, load_box hJ.f3.heap, rfl⟩
              refine wpG_cons (gop ((do eqGuard .eql 33 (.tmp 158) (.tmp 159) (.agg #[.int .u64 X, .int .i64 2, .int .u64 (sp % 65536), .bool false, .int .u64 lf]) (.agg #[.int .u64 X, .int .i64 2, .int .u64 (sp % 65536), .bool false, .int .u64 lf]); binOp .eql 33 (.agg #[.int .u64 X, .int .i64 2, .int .u64 (sp % 65536), .bool false, .int .u64 lf]) (.agg #[.int .u64 X, .int .i64 2, .int .u64 (sp % 65536), .bool false, .int .u64 lf]))) (.bool true) GN.refl fun w_ hJ hd => ?_) ?_
              · have e14 : vals 14 = _ := hd 14 (by decide) (by kernel_rfl)
                have e15 : vals 15 = _ := hd 15 (by decide) (by kernel_rfl)
                have e11 : vals 11 = _ := hd 11 (by decide) (by kernel_rfl)
                rw [e14, e15, e11]
                exact ⟨by kernel_rfl, by kernel_rfl, eqg33 (unhide HE w_), rfl⟩
              refine wpG_cons (gval (.bool true) GN.refl fun w_ hJ hd => ?_) ?_
              · have e11 : vals 11 = _ := hd 11 (by decide) (by kernel_rfl)
                have e16 : vals 16 = _ := hd 16 (by decide) (by kernel_rfl)
                rw [e11, e16]
                exact ⟨by kernel_rfl, by kernel_rfl, rfl⟩
              refine wpG_cons (gval (.bool true) GN.refl fun w_ hJ hd => ?_) wpG_nil
              · have e17 : vals 17 = _ := hd 17 (by decide) (by kernel_rfl)
                rw [e17]
                exact ⟨by kernel_rfl, by kernel_rfl, rfl⟩
            · intro vals w_ hJ hf
              have e0 : vals 0 = _ := hf 0 (by decide)
              have e1 : vals 1 = _ := hf 1 (by decide)
              have e2 : vals 2 = _ := hf 2 (by decide)
              have e3 : vals 3 = _ := hf 3 (by decide)
              have e4 : vals 4 = _ := hf 4 (by decide)
              have e5 : vals 5 = _ := hf 5 (by decide)
              have e6 : vals 6 = _ := hf 6 (by decide)
              have e7 : vals 7 = _ := hf 7 (by decide)
              have e8 : vals 8 = _ := hf 8 (by decide)
              have e9 : vals 9 = _ := hf 9 (by decide)
              have e10 : vals 10 = _ := hf 10 (by decide)
              have e11 : vals 11 = _ := hf 11 (by decide)
              have e12 : vals 12 = _ := hf 12 (by decide)
              have e13 : vals 13 = _ := hf 13 (by decide)
              have e14 : vals 14 = _ := hf 14 (by decide)
              have e15 : vals 15 = _ := hf 15 (by decide)
              have e16 : vals 16 = _ := hf 16 (by decide)
              have e17 : vals 17 = _ := hf 17 (by decide)
              have e18 : vals 18 = _ := hf 18 (by decide)
              simp only [fillG, Nat.zero_add, Nat.reduceAdd, e0, e1, e2, e3, e4, e5, e6, e7, e8, e9, e10, e11, e12, e13, e14, e15, e16, e17, e18, Act.put, List.setIfInBounds_toArray, List.set_cons_succ, List.set_cons_zero]
              clear e0 e1 e2 e3 e4 e5 e6 e7 e8 e9 e10 e11 e12 e13 e14 e15 e16 e17 e18 hf
              go_wp2
              go_ret
              exact ⟨rfl, hJ.below⟩
      · have zy : (Y == X) = false := beq_eq_false_iff_ne.2 yx
        go_wp2_with fail
        refine (find_miss h6.f2 t0 t1 (by rw [unhide Hfind, if_neg (by have := unhide HY; have := unhide Hxb; exact fun c => yx (by omega))])).mono ?_
        rintro r w7 ⟨rfl, h7⟩
        have h8 := h7.new #[.int .u64 0, .int .i64 0, .int .u64 0, .bool false, .int .u64 0] 33
        clear h6 h7 c5 c5'
        have c5 := cells5 h8.f4.heap
        have c5' := cells5 h8.heap
        have hyl := lt_of_heap' h8.f4.heap
        have heq0 := eq33n E.zero E.zero_ok
        skip
        go_wp2_with fail
        skip
        refine (find_miss h8.f2 ?b0 ?b1 ?b2).mono ?_
        case b0 => simp only [IntKind.wrap_u64]; omega
        case b1 => simp only [IntKind.wrap_u64]; omega
        case b2 =>
          rw [unhide Hfind, if_neg]
          rintro ⟨c, _⟩
          simp only [IntKind.wrap_u64] at c
          have := unhide Hxb
          omega
        rintro r w9 ⟨rfl, h9⟩
        have h10 := (h9.new #[.int .u64 0, .int .i64 0, .int .u64 0, .bool false, .int .u64 0] 33).tail.f2.tail.f2.tail
        clear h8 h9 c5 c5'
        have c5 := cells5 h10.f2.heap
        have hyl := lt_of_heap' h10.f2.heap
        skip
        go_wp2_with fail
        skip
        refine (find_miss h10 ?b0 ?b1 ?b2).mono ?_
        case b0 => simp only [IntKind.wrap_u64]; omega
        case b1 => simp only [IntKind.wrap_u64]; omega
        case b2 =>
          rw [unhide Hfind, if_neg]
          rintro ⟨c, _⟩
          simp only [IntKind.wrap_u64] at c
          have := unhide Hxb
          omega
        rintro r w11 ⟨rfl, h11⟩
        have h12 := (h11.new #[.int .u64 0, .int .i64 0, .int .u64 0, .bool false, .int .u64 0] 33).tail
        clear h10 h11 c5
        go_wp2_with fail
        refine (all_h h12).mono ?_
        rintro r w13 ⟨v, rfl, h13⟩
        rw [kept_one] at h13
        simp only [List.length_cons, List.length_nil, Nat.zero_add] at h13
        obtain ⟨g1, o1, cap1, hv, hgl, _, d0, d1, d2, d3, d4⟩ := cellsE (i := 0) (e := (⟨X, 2, sp % 65536, gl, lf⟩ : E)) h13.slw rfl
        subst hv
        have h13 := h13.three
        have HE := hide (eq33e ⟨X, 2, sp % 65536, gl, lf⟩ (unhide HO))
        clear h12 d0 d1 d2 d3 d4
        go_wp2_with fail
        refine wp_region_F (fun w_ => Heap w w_ [HP.slw (.slice (some ⟨g1, o1, none⟩) 1 cap1) 5 1 (ecs [(⟨X, 2, sp % 65536, gl, lf⟩ : E)]), HP.tl b (putSeed S0 lf ⟨X, 2, sp % 65536, gl, lf⟩) (put S0 0 (some ⟨X, 2, sp % 65536, gl, lf⟩)), HP.blk wc.heap.size #[.int .u64 X, .int .i64 2, .int .u64 (sp % 65536), .bool gl, .int .u64 lf] 33]) GN (fun k_ v_ w_ => match k_ with
            | 0 => v_ = .bool false
            | 1 => v_ = .bool true
            | 2 => v_ = .bool true
            | 3 => v_ = .bool false
            | 4 => v_ = .bool true
            | 5 => v_ = .bool true
            | 6 => v_ = .bool true
            | 7 => v_ = .slice (some ⟨g1, o1, none⟩) 1 cap1
            | 8 => v_ = .int .i64 1
            | 9 => v_ = .bool true
            | 10 => v_ = .bool true
            | 11 => v_ = .bool true
            | 12 => v_ = .slice (some ⟨g1, o1, none⟩) 1 cap1
            | 13 => v_ = .pointer (some ⟨g1, o1 + 0 * 5, none⟩)
            | 14 => v_ = .agg #[.int .u64 X, .int .i64 2, .int .u64 (sp % 65536), .bool gl, .int .u64 lf]
            | 15 => v_ = .agg #[.int .u64 X, .int .i64 2, .int .u64 (sp % 65536), .bool gl, .int .u64 lf]
            | 16 => v_ = .bool true
            | 17 => v_ = .bool true
            | _ => v_ = .bool true) fol (by kernel_rfl) ?_ ?_ ?_ ?_
        · exact h13.drew
        · intro k_ v_ w_ w2_ h1 hg
          split at h1 <;> exact h1
        · intro vals
          show wpG _ _ _ _ _ _ 0 (_ :: _) _
          refine wpG_cons (gval (.bool false) GN.refl fun w_ hJ hd => ?_) ?_
          · exact ⟨by kernel_rfl, by kernel_rfl, rfl⟩
          refine wpG_cons (gval (.bool true) GN.refl fun w_ hJ hd => ?_) ?_
          · have e0 : vals 0 = _ := hd 0 (by decide) (by kernel_rfl)
            rw [e0]
            exact ⟨by kernel_rfl, by kernel_rfl, rfl⟩
          refine wpG_cons (gval (.bool true) GN.refl fun w_ hJ hd => ?_) ?_
          · have e1 : vals 1 = _ := hd 1 (by decide) (by kernel_rfl)
            rw [e1]
            exact ⟨by kernel_rfl, by kernel_rfl, rfl⟩
          refine wpG_cons (gval (.bool false) GN.refl fun w_ hJ hd => ?_) ?_
          · have e2 : vals 2 = _ := hd 2 (by decide) (by kernel_rfl)
            rw [e2]
            exact ⟨by kernel_rfl, by kernel_rfl, rfl⟩
          refine wpG_cons (gval (.bool true) GN.refl fun w_ hJ hd => ?_) ?_
          · have e3 : vals 3 = _ := hd 3 (by decide) (by kernel_rfl)
            have e2 : vals 2 = _ := hd 2 (by decide) (by kernel_rfl)
            rw [e3, e2]
            exact ⟨by kernel_rfl, by kernel_rfl, rfl⟩
          refine wpG_cons (gval (.bool true) GN.refl fun w_ hJ hd => ?_) ?_
          · have e2 : vals 2 = _ := hd 2 (by decide) (by kernel_rfl)
            have e4 : vals 4 = _ := hd 4 (by decide) (by kernel_rfl)
            rw [e2, e4]
            exact ⟨by kernel_rfl, by kernel_rfl, rfl⟩
          refine wpG_cons (gval (.bool true) GN.refl fun w_ hJ hd => ?_) ?_
          · have e5 : vals 5 = _ := hd 5 (by decide) (by kernel_rfl)
            rw [e5]
            exact ⟨by kernel_rfl, by kernel_rfl, rfl⟩
          refine wpG_cons (gval (.slice (some ⟨g1, o1, none⟩) 1 cap1) GN.refl fun w_ hJ hd => ?_) ?_
          · have e6 : vals 6 = _ := hd 6 (by decide) (by kernel_rfl)
            rw [e6]
            exact ⟨by kernel_rfl, by kernel_rfl, rfl⟩
          refine wpG_cons (gval (.int .i64 1) GN.refl fun w_ hJ hd => ?_) ?_
          · have e7 : vals 7 = _ := hd 7 (by decide) (by kernel_rfl)
            have e6 : vals 6 = _ := hd 6 (by decide) (by kernel_rfl)
            rw [e7, e6]
            exact ⟨by kernel_rfl, by kernel_rfl, rfl⟩
          refine wpG_cons (gval (.bool true) GN.refl fun w_ hJ hd => ?_) ?_
          · have e8 : vals 8 = _ := hd 8 (by decide) (by kernel_rfl)
            have e6 : vals 6 = _ := hd 6 (by decide) (by kernel_rfl)
            rw [e8, e6]
            exact ⟨by kernel_rfl, by kernel_rfl, rfl⟩
          refine wpG_cons (gval (.bool true) GN.refl fun w_ hJ hd => ?_) ?_
          · have e6 : vals 6 = _ := hd 6 (by decide) (by kernel_rfl)
            have e9 : vals 9 = _ := hd 9 (by decide) (by kernel_rfl)
            rw [e6, e9]
            exact ⟨by kernel_rfl, by kernel_rfl, rfl⟩
          refine wpG_cons (gval (.bool true) GN.refl fun w_ hJ hd => ?_) ?_
          · have e10 : vals 10 = _ := hd 10 (by decide) (by kernel_rfl)
            rw [e10]
            exact ⟨by kernel_rfl, by kernel_rfl, rfl⟩
          refine wpG_cons (gval (.slice (some ⟨g1, o1, none⟩) 1 cap1) GN.refl fun w_ hJ hd => ?_) ?_
          · have e11 : vals 11 = _ := hd 11 (by decide) (by kernel_rfl)
            rw [e11]
            exact ⟨by kernel_rfl, by kernel_rfl, rfl⟩
          refine wpG_cons (gval (.pointer (some ⟨g1, o1 + 0 * 5, none⟩)) GN.refl fun w_ hJ hd => ?_) ?_
          · have e12 : vals 12 = _ := hd 12 (by decide) (by kernel_rfl)
            have e11 : vals 11 = _ := hd 11 (by decide) (by kernel_rfl)
            rw [e12, e11]
            exact ⟨by kernel_rfl, by kernel_rfl, rfl⟩
          refine wpG_cons (gop (Instr.loadAt 33 (.pointer (some ⟨g1, o1 + 0 * 5, none⟩))) (.agg #[.int .u64 X, .int .i64 2, .int .u64 (sp % 65536), .bool gl, .int .u64 lf]) GN.refl fun w_ hJ hd => ?_) ?_
          · have e13 : vals 13 = _ := hd 13 (by decide) (by kernel_rfl)
            have e11 : vals 11 = _ := hd 11 (by decide) (by kernel_rfl)
            rw [e13, e11]
            exact ⟨by kernel_rfl, by kernel_rfl, load_es (i := 0) (e := (⟨X, 2, sp % 65536, gl, lf⟩ : E)) hJ.slw rfl, rfl⟩
          refine wpG_cons (gop (Instr.loadAt 33 (.pointer (some ⟨wc.heap.size, 0, none⟩))) (.agg #[.int .u64 X, .int .i64 2, .int .u64 (sp % 65536), .bool gl, .int .u64 lf]) GN.refl fun w_ hJ hd => ?_) ?_
          · have e11 : vals 11 = _ := hd 11 (by decide) (by kernel_rfl)
            rw [e11]
            exact ⟨by kernel_rfl, by kernel_rfl, load_box hJ.f3.heap, rfl⟩
          refine wpG_cons (gop ((do eqGuard .eql 33 (.tmp 158) (.tmp 159) (.agg #[.int .u64 X, .int .i64 2, .int .u64 (sp % 65536), .bool gl, .int .u64 lf]) (.agg #[.int .u64 X, .int .i64 2, .int .u64 (sp % 65536), .bool gl, .int .u64 lf]); binOp .eql 33 (.agg #[.int .u64 X, .int .i64 2, .int .u64 (sp % 65536), .bool gl, .int .u64 lf]) (.agg #[.int .u64 X, .int .i64 2, .int .u64 (sp % 65536), .bool gl, .int .u64 lf]))) (.bool true) GN.refl fun w_ hJ hd => ?_) ?_
          · have e14 : vals 14 = _ := hd 14 (by decide) (by kernel_rfl)
            have e15 : vals 15 = _ := hd 15 (by decide) (by kernel_rfl)
            have e11 : vals 11 = _ := hd 11 (by decide) (by kernel_rfl)
            rw [e14, e15, e11]
            exact ⟨by kernel_rfl, by kernel_rfl, eqg33 (unhide HE w_), rfl⟩
          refine wpG_cons (gval (.bool true) GN.refl fun w_ hJ hd => ?_) ?_
          · have e11 : vals 11 = _ := hd 11 (by decide) (by kernel_rfl)
            have e16 : vals 16 = _ := hd 16 (by decide) (by kernel_rfl)
            rw [e11, e16]
            exact ⟨by kernel_rfl, by kernel_rfl, rfl⟩
          refine wpG_cons (gval (.bool true) GN.refl fun w_ hJ hd => ?_) wpG_nil
          · have e17 : vals 17 = _ := hd 17 (by decide) (by kernel_rfl)
            rw [e17]
            exact ⟨by kernel_rfl, by kernel_rfl, rfl⟩
        · intro vals w_ hJ hf
          have e0 : vals 0 = _ := hf 0 (by decide)
          have e1 : vals 1 = _ := hf 1 (by decide)
          have e2 : vals 2 = _ := hf 2 (by decide)
          have e3 : vals 3 = _ := hf 3 (by decide)
          have e4 : vals 4 = _ := hf 4 (by decide)
          have e5 : vals 5 = _ := hf 5 (by decide)
          have e6 : vals 6 = _ := hf 6 (by decide)
          have e7 : vals 7 = _ := hf 7 (by decide)
          have e8 : vals 8 = _ := hf 8 (by decide)
          have e9 : vals 9 = _ := hf 9 (by decide)
          have e10 : vals 10 = _ := hf 10 (by decide)
          have e11 : vals 11 = _ := hf 11 (by decide)
          have e12 : vals 12 = _ := hf 12 (by decide)
          have e13 : vals 13 = _ := hf 13 (by decide)
          have e14 : vals 14 = _ := hf 14 (by decide)
          have e15 : vals 15 = _ := hf 15 (by decide)
          have e16 : vals 16 = _ := hf 16 (by decide)
          have e17 : vals 17 = _ := hf 17 (by decide)
          have e18 : vals 18 = _ := hf 18 (by decide)
          simp only [fillG, Nat.zero_add, Nat.reduceAdd, e0, e1, e2, e3, e4, e5, e6, e7, e8, e9, e10, e11, e12, e13, e14, e15, e16, e17, e18, Act.put, List.setIfInBounds_toArray, List.set_cons_succ, List.set_cons_zero]
          clear e0 e1 e2 e3 e4 e5 e6 e7 e8 e9 e10 e11 e12 e13 e14 e15 e16 e17 e18 hf
          go_wp2
          go_ret
          exact ⟨rfl, hJ.below⟩

end Go.Proofs.Ytlkkmpfhhfaioaa
