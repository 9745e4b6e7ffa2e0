/- Layer 3: fields, walked. -/
import Derived.Test.YtopbdiekfhikmaaL2
namespace Go.Proofs.Ytopbdiekfhikmaa
open Go.RowKit
theorem up_low (b : Nat) : bits .and .i64 (immU b) 4095 = 0 := by
  have h := and64 (immU b) 12 (by decide)
  rw [show (2 : Int) ^ 12 - 1 = 4095 from rfl, show (2 : Int) ^ 12 = 4096 from rfl] at h
  rw [h]
  unfold immU
  split <;> omega
theorem up_high (b : Nat) (hb : b < 4294967296) : bits .and .u32 (b : Int) 4294963200 = ((b / 4096 * 4096 : Nat) : Int) := by
  show IntKind.u32.wrap ((BitVec.ofInt 32 (b : Int) &&& BitVec.ofInt 32 4294963200).toNat : Int) = _
  have e1 : ((b : Int) % (2 ^ 32 : Nat)).toNat = b := by omega
  have e2 : ((4294963200 : Int) % (2 ^ 32 : Nat)).toNat = (2 ^ 20 - 1) <<< 12 := by decide
  rw [BitVec.toNat_and, bv_toNat, bv_toNat, e1, e2, nat_and_high 12 20 b (by omega)]
  unfold IntKind.wrap
  simp [IntKind.signed, IntKind.bits]
  omega
theorem up_same (b : Nat) (hb : b < 4294967296) : (immU b == wrap64 (wrap32 ((b / 4096 * 4096 : Nat) : Int))) = true := by
  rw [beq_iff_eq]
  unfold immU fd wrap64 wrap32
  split <;> omega
set_option maxRecDepth 100000 in
set_option maxHeartbeats 4000000 in
theorem fields_low (b : Nat) (hb : b < 4294967296) (m : Nat) (ha : bits .and .u32 (b : Int) 3 = (m : Int)) (hm : ((m : Int) == 3) = false) (hm2 : ((m : Int) != 3) = true) (hx0 : decN b = (⟨0, 0, 0, 0, 0, 0, 0, 0, 0, false, false, false⟩ : Ins)) (w : World) : Calls Try.prog 6 #[.int .u32 b] w fun e w' => e = .returned (.bool true) ∧ GN w w' := by
  go_enter Try.func6, Try.ntmps6
  go_upto_region 5 with (first | (go_at_call 9; refine (awake_any _).mono ?_; rintro _ w9 ⟨rfl, hq9⟩) | (go_at_call 10; refine (dec_call hb hx0 _).mono ?_; rintro _ w10 ⟨rfl, hq10⟩))
  refine cutR (w := w) (g := w10.heap.size) (x := insA (⟨0, 0, 0, 0, 0, 0, 0, 0, 0, false, false, false⟩ : Ins)) (GN.alloc (GN.trans hq9 hq10) _) (heap_alloc_last _ _) fun W hgW hx => ?_
  generalize w10.heap.size = g at *
  refine wp_list_O (fun w_ => w_ = W) GN (fun k_ v_ w_ => match k_ with
      | 0 => v_ = .agg (insA (⟨0, 0, 0, 0, 0, 0, 0, 0, 0, false, false, false⟩ : Ins))
      | 1 => v_ = .agg (insA (⟨0, 0, 0, 0, 0, 0, 0, 0, 0, false, false, false⟩ : Ins))
      | 2 => v_ = .bool true
      | _ => v_ = .bool true) ?_ ?_ GN.refl ?_ ?_
  · rfl
  · intro k_ v_ w_ w2_ h1 hg
    split at h1 <;> exact h1
  · intro vals
    show wpO _ _ _ _ _ _ 0 (_ :: _) _
    refine wpO_cons (oop (Instr.loadAt 25 (.pointer (some ⟨g, 0, none⟩))) (.agg (insA (⟨0, 0, 0, 0, 0, 0, 0, 0, 0, false, false, false⟩ : Ins))) GN.refl fun w_ hJ hd => ?_) ?_
    · exact ⟨by kernel_rfl, by kernel_rfl, (by rw [hJ]; exact run_loadRow hx), rfl⟩
    refine wpO_cons (oval (.agg (insA (⟨0, 0, 0, 0, 0, 0, 0, 0, 0, false, false, false⟩ : Ins))) GN.refl fun w_ hJ hd => ?_) ?_
    · exact ⟨by kernel_rfl, by kernel_rfl, rfl⟩
    refine wpO_cons (oop ((do eqGuard .eql 25 (.tmp 11) (.tmp 12) (.agg (insA (⟨0, 0, 0, 0, 0, 0, 0, 0, 0, false, false, false⟩ : Ins))) (.agg (insA (⟨0, 0, 0, 0, 0, 0, 0, 0, 0, false, false, false⟩ : Ins))); binOp .eql 25 (.agg (insA (⟨0, 0, 0, 0, 0, 0, 0, 0, 0, false, false, false⟩ : Ins))) (.agg (insA (⟨0, 0, 0, 0, 0, 0, 0, 0, 0, false, false, false⟩ : Ins))))) (.bool true) GN.refl fun w_ hJ hd => ?_) ?_
    · have e0 : vals 0 = _ := hd 0 (by decide)
      have e1 : vals 1 = _ := hd 1 (by decide)
      rw [e0, e1]
      exact ⟨by kernel_rfl, by kernel_rfl, eq_awake2 w_, rfl⟩
    refine wpO_cons (oval (.bool true) GN.refl fun w_ hJ hd => ?_) wpO_nil
    · have e2 : vals 2 = _ := hd 2 (by decide)
      rw [e2]
      exact ⟨by kernel_rfl, by kernel_rfl, rfl⟩
  intro vals w_ hJ hf
  have e0 : vals 0 = _ := hf 0 (by decide)
  have e1 : vals 1 = _ := hf 1 (by decide)
  have e2 : vals 2 = _ := hf 2 (by decide)
  have e3 : vals 3 = _ := hf 3 (by decide)
  simp only [fillG, Nat.zero_add, Nat.reduceAdd, e0, e1, e2, e3, Act.put, List.setIfInBounds_toArray, List.set_cons_succ, List.set_cons_zero]
  clear e0 e1 e2 e3 hf
  obtain rfl : W = w_ := hJ.symm
  go_wp2
  go_ret
  exact ⟨rfl, hgW⟩
set_option maxRecDepth 100000 in
set_option maxHeartbeats 4000000 in
theorem fields_high (b : Nat) (hb : b < 4294967296) (m : Nat) (ha : bits .and .u32 (b : Int) 3 = (m : Int)) (hm : ((m : Int) == 3) = true) (hm2 : ((m : Int) != 3) = false) (k rd r1 r2 r3 rm c sz i : Int) (ui us wd : Bool) (hF : FOK b ⟨k, rd, r1, r2, r3, rm, c, sz, i, ui, us, wd⟩) (hx0 : decN b = ⟨k, rd, r1, r2, r3, rm, c, sz, i, ui, us, wd⟩) (w : World) : Calls Try.prog 6 #[.int .u32 b] w fun e w' => e = .returned (.bool true) ∧ GN w w' := by
  obtain ⟨hk0, h1, h2, h3, h4, h5, h6, h7, h8, h9, h10⟩ := hF
  simp only [] at hk0 h1 h2 h3 h4 h5 h6 h7 h8 h9 h10
  have fr1 := h1
  have fr2 := h2
  have fr3 := h3
  have fr4 := h4
  go_enter Try.func6, Try.ntmps6
  go_upto_region 6 with (first | (go_at_call 9; refine (awake_any _).mono ?_; rintro _ w9 ⟨rfl, hq9⟩) | (go_at_call 10; refine (dec_call hb hx0 _).mono ?_; rintro _ w10 ⟨rfl, hq10⟩))
  refine cutR (w := w) (g := w10.heap.size) (x := #[.int .i64 k, .int .i64 rd, .int .i64 r1, .int .i64 r2, .int .i64 r3, .int .i64 rm, .int .i64 c, .int .i64 sz, .int .i64 i, .bool ui, .bool us, .bool wd]) (GN.alloc (GN.trans hq9 hq10) _) (heap_alloc_last _ _) fun W hgW hx => ?_
  generalize w10.heap.size = g at *
  obtain ⟨⟨p0, q0⟩, ⟨p1, q1⟩, ⟨p2, q2⟩, ⟨p3, q3⟩, ⟨p4, q4⟩, ⟨p5, q5⟩, ⟨p6, q6⟩, ⟨p7, q7⟩, ⟨p8, q8⟩, ⟨p9, q9⟩, ⟨p10, q10⟩, ⟨p11, q11⟩⟩ := c12 hx
  refine wp_list_O (fun w_ => w_ = W) GN (fun k_ v_ w_ => match k_ with
      | 0 => v_ = .pointer (some ⟨g, 0, none⟩)
      | 1 => v_ = .int .i64 k
      | 2 => v_ = .bool false
      | 3 => v_ = .bool false
      | 4 => v_ = .pointer (some ⟨g, 0, none⟩)
      | 5 => v_ = .int .i64 k
      | 6 => v_ = .bool false
      | 7 => v_ = .bool false
      | 8 => v_ = .bool false
      | 9 => v_ = .pointer (some ⟨g, 1, none⟩)
      | 10 => v_ = .int .i64 rd
      | 11 => v_ = .bool (!decide (rd = 0))
      | 12 => v_ = .bool (!decide (rd = 0))
      | 13 => (!decide (rd = 0)) = true → v_ = .pointer (some ⟨g, 1, none⟩)
      | 14 => (!decide (rd = 0)) = true → v_ = .int .i64 rd
      | 15 => (!decide (rd = 0)) = true → v_ = .int .u32 (b : Int)
      | 16 => (!decide (rd = 0)) = true → v_ = .int .u32 ((b / 128 : Nat) : Int)
      | 17 => (!decide (rd = 0)) = true → v_ = .int .u32 (fd b 7 5 : Nat)
      | 18 => (!decide (rd = 0)) = true → v_ = .int .i64 (fd b 7 5 : Nat)
      | 19 => (!decide (rd = 0)) = true → v_ = .bool false
      | 20 => v_ = .bool false
      | 21 => v_ = .bool false
      | 22 => v_ = .bool false
      | 23 => v_ = .pointer (some ⟨g, 2, none⟩)
      | 24 => v_ = .int .i64 r1
      | 25 => v_ = .bool (!decide (r1 = 0))
      | 26 => v_ = .bool (!decide (r1 = 0))
      | 27 => (!decide (r1 = 0)) = true → v_ = .pointer (some ⟨g, 2, none⟩)
      | 28 => (!decide (r1 = 0)) = true → v_ = .int .i64 r1
      | 29 => (!decide (r1 = 0)) = true → v_ = .int .u32 (b : Int)
      | 30 => (!decide (r1 = 0)) = true → v_ = .int .u32 ((b / 32768 : Nat) : Int)
      | 31 => (!decide (r1 = 0)) = true → v_ = .int .u32 (fd b 15 5 : Nat)
      | 32 => (!decide (r1 = 0)) = true → v_ = .int .i64 (fd b 15 5 : Nat)
      | 33 => (!decide (r1 = 0)) = true → v_ = .bool false
      | 34 => v_ = .bool false
      | 35 => v_ = .bool false
      | 36 => v_ = .bool false
      | 37 => v_ = .pointer (some ⟨g, 3, none⟩)
      | 38 => v_ = .int .i64 r2
      | 39 => v_ = .bool (!decide (r2 = 0))
      | 40 => v_ = .bool (!decide (r2 = 0))
      | 41 => (!decide (r2 = 0)) = true → v_ = .pointer (some ⟨g, 3, none⟩)
      | 42 => (!decide (r2 = 0)) = true → v_ = .int .i64 r2
      | 43 => (!decide (r2 = 0)) = true → v_ = .int .u32 (b : Int)
      | 44 => (!decide (r2 = 0)) = true → v_ = .int .u32 ((b / 1048576 : Nat) : Int)
      | 45 => (!decide (r2 = 0)) = true → v_ = .int .u32 (fd b 20 5 : Nat)
      | 46 => (!decide (r2 = 0)) = true → v_ = .int .i64 (fd b 20 5 : Nat)
      | 47 => (!decide (r2 = 0)) = true → v_ = .bool false
      | 48 => v_ = .bool false
      | 49 => v_ = .bool false
      | 50 => v_ = .bool false
      | 51 => v_ = .pointer (some ⟨g, 4, none⟩)
      | 52 => v_ = .int .i64 r3
      | 53 => v_ = .bool (!decide (r3 = 0))
      | 54 => v_ = .bool (!decide (r3 = 0))
      | 55 => (!decide (r3 = 0)) = true → v_ = .pointer (some ⟨g, 4, none⟩)
      | 56 => (!decide (r3 = 0)) = true → v_ = .int .i64 r3
      | 57 => (!decide (r3 = 0)) = true → v_ = .int .u32 (b : Int)
      | 58 => (!decide (r3 = 0)) = true → v_ = .int .u32 ((b / 134217728 : Nat) : Int)
      | 59 => (!decide (r3 = 0)) = true → v_ = .int .i64 (fd b 27 5 : Nat)
      | 60 => (!decide (r3 = 0)) = true → v_ = .bool false
      | 61 => v_ = .bool false
      | 62 => v_ = .bool false
      | 63 => v_ = .bool false
      | 64 => v_ = .pointer (some ⟨g, 5, none⟩)
      | 65 => v_ = .int .i64 rm
      | 66 => v_ = .bool false
      | 67 => v_ = .bool false
      | 68 => v_ = .bool false
      | 69 => v_ = .pointer (some ⟨g, 5, none⟩)
      | 70 => v_ = .int .i64 rm
      | 71 => v_ = .bool false
      | 72 => v_ = .bool false
      | 73 => v_ = .bool false
      | 74 => v_ = .pointer (some ⟨g, 5, none⟩)
      | 75 => v_ = .int .i64 rm
      | 76 => v_ = .bool false
      | 77 => v_ = .bool false
      | 78 => v_ = .bool false
      | 79 => v_ = .pointer (some ⟨g, 5, none⟩)
      | 80 => v_ = .int .i64 rm
      | 81 => v_ = .bool false
      | 82 => v_ = .bool false
      | 83 => v_ = .bool false
      | 84 => v_ = .pointer (some ⟨g, 6, none⟩)
      | 85 => v_ = .int .i64 c
      | 86 => v_ = .bool false
      | 87 => v_ = .bool false
      | 88 => v_ = .bool false
      | 89 => v_ = .pointer (some ⟨g, 6, none⟩)
      | 90 => v_ = .int .i64 c
      | 91 => v_ = .bool false
      | _ => v_ = .bool false) ?_ ?_ GN.refl ?_ ?_
  · rfl
  · intro k_ v_ w_ w2_ h1 hg
    split at h1 <;> first | exact h1 | exact h1.kept (row := none) hg (fun _ _ h => by cases h)
  · intro vals
    show wpO _ _ _ _ _ _ 0 (_ :: _) _
    refine wpO_cons (oval (.pointer (some ⟨g, 0, none⟩)) GN.refl fun w_ hJ hd => ?_) ?_
    · exact ⟨by kernel_rfl, by kernel_rfl, rfl⟩
    refine wpO_cons (oop (Instr.loadAt 3 (.pointer (some ⟨g, 0, none⟩))) (.int .i64 k) GN.refl fun w_ hJ hd => ?_) ?_
    · have e0 : vals 0 = _ := hd 0 (by decide)
      rw [e0]
      exact ⟨by kernel_rfl, by kernel_rfl, (by rw [hJ]; exact run_load1 (by kernel_rfl) p0), rfl⟩
    refine wpO_cons (oop (binOp .lss 3 (.int .i64 k) (.int .i64 0)) (.bool false) GN.refl fun w_ hJ hd => ?_) ?_
    · have e1 : vals 1 = _ := hd 1 (by decide)
      rw [e1]
      exact ⟨by kernel_rfl, by kernel_rfl, lss3f (by omega) w_, rfl⟩
    refine wpO_cons (oval (.bool false) GN.refl fun w_ hJ hd => ?_) ?_
    · have e2 : vals 2 = _ := hd 2 (by decide)
      rw [e2]
      exact ⟨by kernel_rfl, by kernel_rfl, rfl⟩
    refine wpO_cons (oval (.pointer (some ⟨g, 0, none⟩)) GN.refl fun w_ hJ hd => ?_) ?_
    · have e3 : vals 3 = _ := hd 3 (by decide)
      rw [e3]
      exact ⟨by kernel_rfl, by kernel_rfl, rfl⟩
    refine wpO_cons (oop (Instr.loadAt 3 (.pointer (some ⟨g, 0, none⟩))) (.int .i64 k) GN.refl fun w_ hJ hd => ?_) ?_
    · have e3 : vals 3 = _ := hd 3 (by decide)
      have e4 : vals 4 = _ := hd 4 (by decide)
      rw [e3, e4]
      exact ⟨by kernel_rfl, by kernel_rfl, (by rw [hJ]; exact run_load1 (by kernel_rfl) p0), rfl⟩
    refine wpO_cons (oop (binOp .geq 3 (.int .i64 k) (.int .i64 78)) (.bool false) GN.refl fun w_ hJ hd => ?_) ?_
    · have e3 : vals 3 = _ := hd 3 (by decide)
      have e5 : vals 5 = _ := hd 5 (by decide)
      rw [e3, e5]
      exact ⟨by kernel_rfl, by kernel_rfl, geq3f (by omega) w_, rfl⟩
    refine wpO_cons (oval (.bool false) GN.refl fun w_ hJ hd => ?_) ?_
    · have e3 : vals 3 = _ := hd 3 (by decide)
      have e6 : vals 6 = _ := hd 6 (by decide)
      rw [e3, e6]
      exact ⟨by kernel_rfl, by kernel_rfl, rfl⟩
    refine wpO_cons (oval (.bool false) GN.refl fun w_ hJ hd => ?_) ?_
    · have e7 : vals 7 = _ := hd 7 (by decide)
      rw [e7]
      exact ⟨by kernel_rfl, by kernel_rfl, rfl⟩
    refine wpO_cons (oval (.pointer (some ⟨g, 1, none⟩)) GN.refl fun w_ hJ hd => ?_) ?_
    · have e8 : vals 8 = _ := hd 8 (by decide)
      rw [e8]
      exact ⟨by kernel_rfl, by kernel_rfl, rfl⟩
    refine wpO_cons (oop (Instr.loadAt 3 (.pointer (some ⟨g, 1, none⟩))) (.int .i64 rd) GN.refl fun w_ hJ hd => ?_) ?_
    · have e8 : vals 8 = _ := hd 8 (by decide)
      have e9 : vals 9 = _ := hd 9 (by decide)
      rw [e8, e9]
      exact ⟨by kernel_rfl, by kernel_rfl, (by rw [hJ]; exact run_load1 (by kernel_rfl) p1), rfl⟩
    refine wpO_cons (oval (.bool (!decide (rd = 0))) GN.refl fun w_ hJ hd => ?_) ?_
    · have e8 : vals 8 = _ := hd 8 (by decide)
      have e10 : vals 10 = _ := hd 10 (by decide)
      rw [e8, e10]
      exact ⟨by kernel_rfl, by kernel_rfl, rfl⟩
    refine wpO_cons (oval (.bool (!decide (rd = 0))) GN.refl fun w_ hJ hd => ?_) ?_
    · have e8 : vals 8 = _ := hd 8 (by decide)
      have e11 : vals 11 = _ := hd 11 (by decide)
      rw [e8, e11]
      exact ⟨by kernel_rfl, by kernel_rfl, rfl⟩
    refine wpO_cons (oguard (!decide (rd = 0)) (.pointer (some ⟨g, 1, none⟩)) GN.refl fun w_ hJ hd => ?_) ?_
    · have e12 : vals 12 = _ := hd 12 (by decide)
      rw [e12]
      exact ⟨(by kernel_rfl : _ = (some (!decide (rd = 0)) == some true)).trans (some_t _), fun hB => (by exact ⟨by kernel_rfl, fun _ => rfl⟩), fun hB => fun h => by rw [hB] at h; cases h⟩
    refine wpO_cons (oguardop (!decide (rd = 0)) (Instr.loadAt 3 (.pointer (some ⟨g, 1, none⟩))) (.int .i64 rd) GN.refl fun w_ hJ hd => ?_) ?_
    · have e12 : vals 12 = _ := hd 12 (by decide)
      have g13 : (!decide (rd = 0)) = true → (vals 13) = .pointer (some ⟨g, 1, none⟩) := hd 13 (by decide)
      rw [e12]
      exact ⟨(by kernel_rfl : _ = (some (!decide (rd = 0)) == some true)).trans (some_t _), fun hB => (by rw [g13 hB]; exact ⟨by kernel_rfl, (by rw [hJ]; exact run_load1 (by kernel_rfl) p1), fun _ => rfl⟩), fun hB => fun h => by rw [hB] at h; cases h⟩
    refine wpO_cons (oguard (!decide (rd = 0)) (.int .u32 (b : Int)) GN.refl fun w_ hJ hd => ?_) ?_
    · have e12 : vals 12 = _ := hd 12 (by decide)
      rw [e12]
      exact ⟨(by kernel_rfl : _ = (some (!decide (rd = 0)) == some true)).trans (some_t _), fun hB => (by exact ⟨by kernel_rfl, fun _ => rfl⟩), fun hB => fun h => by rw [hB] at h; cases h⟩
    refine wpO_cons (oguardop (!decide (rd = 0)) (binOp .shr 22 (.int .u32 (b : Int)) (.int .u64 7)) (.int .u32 ((b / 128 : Nat) : Int)) GN.refl fun w_ hJ hd => ?_) ?_
    · have e12 : vals 12 = _ := hd 12 (by decide)
      have g15 : (!decide (rd = 0)) = true → (vals 15) = .int .u32 (b : Int) := hd 15 (by decide)
      rw [e12]
      exact ⟨(by kernel_rfl : _ = (some (!decide (rd = 0)) == some true)).trans (some_t _), fun hB => (by rw [g15 hB]; exact ⟨by kernel_rfl, shr7 b w_, fun _ => rfl⟩), fun hB => fun h => by rw [hB] at h; cases h⟩
    refine wpO_cons (oguardop (!decide (rd = 0)) (binOp .and 22 (.int .u32 ((b / 128 : Nat) : Int)) (.int .u32 31)) (.int .u32 (fd b 7 5 : Nat)) GN.refl fun w_ hJ hd => ?_) ?_
    · have e12 : vals 12 = _ := hd 12 (by decide)
      have g16 : (!decide (rd = 0)) = true → (vals 16) = .int .u32 ((b / 128 : Nat) : Int) := hd 16 (by decide)
      rw [e12]
      exact ⟨(by kernel_rfl : _ = (some (!decide (rd = 0)) == some true)).trans (some_t _), fun hB => (by rw [g16 hB]; exact ⟨by kernel_rfl, and31 7 _ (by decide) w_, fun _ => rfl⟩), fun hB => fun h => by rw [hB] at h; cases h⟩
    refine wpO_cons (oguardop (!decide (rd = 0)) (convert 22 3 (.int .u32 (fd b 7 5 : Nat))) (.int .i64 (fd b 7 5 : Nat)) GN.refl fun w_ hJ hd => ?_) ?_
    · have e12 : vals 12 = _ := hd 12 (by decide)
      have g17 : (!decide (rd = 0)) = true → (vals 17) = .int .u32 (fd b 7 5 : Nat) := hd 17 (by decide)
      rw [e12]
      exact ⟨(by kernel_rfl : _ = (some (!decide (rd = 0)) == some true)).trans (some_t _), fun hB => (by rw [g17 hB]; exact ⟨by kernel_rfl, conv223 _ (by have := fd_lt b 7 5; omega) w_, fun _ => rfl⟩), fun hB => fun h => by rw [hB] at h; cases h⟩
    refine wpO_cons (oguardop (!decide (rd = 0)) (binOp .neq 3 (.int .i64 rd) (.int .i64 (fd b 7 5 : Nat))) (.bool false) GN.refl fun w_ hJ hd => ?_) ?_
    · have e12 : vals 12 = _ := hd 12 (by decide)
      have g14 : (!decide (rd = 0)) = true → (vals 14) = .int .i64 rd := hd 14 (by decide)
      have g18 : (!decide (rd = 0)) = true → (vals 18) = .int .i64 (fd b 7 5 : Nat) := hd 18 (by decide)
      rw [e12]
      exact ⟨(by kernel_rfl : _ = (some (!decide (rd = 0)) == some true)).trans (some_t _), fun hB => (by rw [g14 hB]; rw [g18 hB]; exact ⟨by kernel_rfl, neq3f (by have := fr1; simp at hB; omega) w_, fun _ => rfl⟩), fun hB => fun h => by rw [hB] at h; cases h⟩
    refine wpO_cons (oval (.bool false) GN.refl fun w_ hJ hd => ?_) ?_
    · have e8 : vals 8 = _ := hd 8 (by decide)
      have e12 : vals 12 = _ := hd 12 (by decide)
      rw [e8, e12]
      cases hB : (!decide (rd = 0) : Bool) with
      | true => rw [show vals 19 = .bool false from hd 19 (by decide) hB]; exact ⟨by kernel_rfl, by kernel_rfl, rfl⟩
      | false => exact ⟨by kernel_rfl, by kernel_rfl, rfl⟩
    refine wpO_cons (oval (.bool false) GN.refl fun w_ hJ hd => ?_) ?_
    · have e8 : vals 8 = _ := hd 8 (by decide)
      have e20 : vals 20 = _ := hd 20 (by decide)
      rw [e8, e20]
      exact ⟨by kernel_rfl, by kernel_rfl, rfl⟩
    refine wpO_cons (oval (.bool false) GN.refl fun w_ hJ hd => ?_) ?_
    · have e21 : vals 21 = _ := hd 21 (by decide)
      rw [e21]
      exact ⟨by kernel_rfl, by kernel_rfl, rfl⟩
    refine wpO_cons (oval (.pointer (some ⟨g, 2, none⟩)) GN.refl fun w_ hJ hd => ?_) ?_
    · have e22 : vals 22 = _ := hd 22 (by decide)
      rw [e22]
      exact ⟨by kernel_rfl, by kernel_rfl, rfl⟩
    refine wpO_cons (oop (Instr.loadAt 3 (.pointer (some ⟨g, 2, none⟩))) (.int .i64 r1) GN.refl fun w_ hJ hd => ?_) ?_
    · have e22 : vals 22 = _ := hd 22 (by decide)
      have e23 : vals 23 = _ := hd 23 (by decide)
      rw [e22, e23]
      exact ⟨by kernel_rfl, by kernel_rfl, (by rw [hJ]; exact run_load1 (by kernel_rfl) p2), rfl⟩
    refine wpO_cons (oval (.bool (!decide (r1 = 0))) GN.refl fun w_ hJ hd => ?_) ?_
    · have e22 : vals 22 = _ := hd 22 (by decide)
      have e24 : vals 24 = _ := hd 24 (by decide)
      rw [e22, e24]
      exact ⟨by kernel_rfl, by kernel_rfl, rfl⟩
    refine wpO_cons (oval (.bool (!decide (r1 = 0))) GN.refl fun w_ hJ hd => ?_) ?_
    · have e22 : vals 22 = _ := hd 22 (by decide)
      have e25 : vals 25 = _ := hd 25 (by decide)
      rw [e22, e25]
      exact ⟨by kernel_rfl, by kernel_rfl, rfl⟩
    refine wpO_cons (oguard (!decide (r1 = 0)) (.pointer (some ⟨g, 2, none⟩)) GN.refl fun w_ hJ hd => ?_) ?_
    · have e26 : vals 26 = _ := hd 26 (by decide)
      rw [e26]
      exact ⟨(by kernel_rfl : _ = (some (!decide (r1 = 0)) == some true)).trans (some_t _), fun hB => (by exact ⟨by kernel_rfl, fun _ => rfl⟩), fun hB => fun h => by rw [hB] at h; cases h⟩
    refine wpO_cons (oguardop (!decide (r1 = 0)) (Instr.loadAt 3 (.pointer (some ⟨g, 2, none⟩))) (.int .i64 r1) GN.refl fun w_ hJ hd => ?_) ?_
    · have e26 : vals 26 = _ := hd 26 (by decide)
      have g27 : (!decide (r1 = 0)) = true → (vals 27) = .pointer (some ⟨g, 2, none⟩) := hd 27 (by decide)
      rw [e26]
      exact ⟨(by kernel_rfl : _ = (some (!decide (r1 = 0)) == some true)).trans (some_t _), fun hB => (by rw [g27 hB]; exact ⟨by kernel_rfl, (by rw [hJ]; exact run_load1 (by kernel_rfl) p2), fun _ => rfl⟩), fun hB => fun h => by rw [hB] at h; cases h⟩
    refine wpO_cons (oguard (!decide (r1 = 0)) (.int .u32 (b : Int)) GN.refl fun w_ hJ hd => ?_) ?_
    · have e26 : vals 26 = _ := hd 26 (by decide)
      rw [e26]
      exact ⟨(by kernel_rfl : _ = (some (!decide (r1 = 0)) == some true)).trans (some_t _), fun hB => (by exact ⟨by kernel_rfl, fun _ => rfl⟩), fun hB => fun h => by rw [hB] at h; cases h⟩
    refine wpO_cons (oguardop (!decide (r1 = 0)) (binOp .shr 22 (.int .u32 (b : Int)) (.int .u64 15)) (.int .u32 ((b / 32768 : Nat) : Int)) GN.refl fun w_ hJ hd => ?_) ?_
    · have e26 : vals 26 = _ := hd 26 (by decide)
      have g29 : (!decide (r1 = 0)) = true → (vals 29) = .int .u32 (b : Int) := hd 29 (by decide)
      rw [e26]
      exact ⟨(by kernel_rfl : _ = (some (!decide (r1 = 0)) == some true)).trans (some_t _), fun hB => (by rw [g29 hB]; exact ⟨by kernel_rfl, shr15 b w_, fun _ => rfl⟩), fun hB => fun h => by rw [hB] at h; cases h⟩
    refine wpO_cons (oguardop (!decide (r1 = 0)) (binOp .and 22 (.int .u32 ((b / 32768 : Nat) : Int)) (.int .u32 31)) (.int .u32 (fd b 15 5 : Nat)) GN.refl fun w_ hJ hd => ?_) ?_
    · have e26 : vals 26 = _ := hd 26 (by decide)
      have g30 : (!decide (r1 = 0)) = true → (vals 30) = .int .u32 ((b / 32768 : Nat) : Int) := hd 30 (by decide)
      rw [e26]
      exact ⟨(by kernel_rfl : _ = (some (!decide (r1 = 0)) == some true)).trans (some_t _), fun hB => (by rw [g30 hB]; exact ⟨by kernel_rfl, and31 15 _ (by decide) w_, fun _ => rfl⟩), fun hB => fun h => by rw [hB] at h; cases h⟩
    refine wpO_cons (oguardop (!decide (r1 = 0)) (convert 22 3 (.int .u32 (fd b 15 5 : Nat))) (.int .i64 (fd b 15 5 : Nat)) GN.refl fun w_ hJ hd => ?_) ?_
    · have e26 : vals 26 = _ := hd 26 (by decide)
      have g31 : (!decide (r1 = 0)) = true → (vals 31) = .int .u32 (fd b 15 5 : Nat) := hd 31 (by decide)
      rw [e26]
      exact ⟨(by kernel_rfl : _ = (some (!decide (r1 = 0)) == some true)).trans (some_t _), fun hB => (by rw [g31 hB]; exact ⟨by kernel_rfl, conv223 _ (by have := fd_lt b 15 5; omega) w_, fun _ => rfl⟩), fun hB => fun h => by rw [hB] at h; cases h⟩
    refine wpO_cons (oguardop (!decide (r1 = 0)) (binOp .neq 3 (.int .i64 r1) (.int .i64 (fd b 15 5 : Nat))) (.bool false) GN.refl fun w_ hJ hd => ?_) ?_
    · have e26 : vals 26 = _ := hd 26 (by decide)
      have g28 : (!decide (r1 = 0)) = true → (vals 28) = .int .i64 r1 := hd 28 (by decide)
      have g32 : (!decide (r1 = 0)) = true → (vals 32) = .int .i64 (fd b 15 5 : Nat) := hd 32 (by decide)
      rw [e26]
      exact ⟨(by kernel_rfl : _ = (some (!decide (r1 = 0)) == some true)).trans (some_t _), fun hB => (by rw [g28 hB]; rw [g32 hB]; exact ⟨by kernel_rfl, neq3f (by have := fr2; simp at hB; omega) w_, fun _ => rfl⟩), fun hB => fun h => by rw [hB] at h; cases h⟩
    refine wpO_cons (oval (.bool false) GN.refl fun w_ hJ hd => ?_) ?_
    · have e22 : vals 22 = _ := hd 22 (by decide)
      have e26 : vals 26 = _ := hd 26 (by decide)
      rw [e22, e26]
      cases hB : (!decide (r1 = 0) : Bool) with
      | true => rw [show vals 33 = .bool false from hd 33 (by decide) hB]; exact ⟨by kernel_rfl, by kernel_rfl, rfl⟩
      | false => exact ⟨by kernel_rfl, by kernel_rfl, rfl⟩
    refine wpO_cons (oval (.bool false) GN.refl fun w_ hJ hd => ?_) ?_
    · have e22 : vals 22 = _ := hd 22 (by decide)
      have e34 : vals 34 = _ := hd 34 (by decide)
      rw [e22, e34]
      exact ⟨by kernel_rfl, by kernel_rfl, rfl⟩
    refine wpO_cons (oval (.bool false) GN.refl fun w_ hJ hd => ?_) ?_
    · have e35 : vals 35 = _ := hd 35 (by decide)
      rw [e35]
      exact ⟨by kernel_rfl, by kernel_rfl, rfl⟩
    refine wpO_cons (oval (.pointer (some ⟨g, 3, none⟩)) GN.refl fun w_ hJ hd => ?_) ?_
    · have e36 : vals 36 = _ := hd 36 (by decide)
      rw [e36]
      exact ⟨by kernel_rfl, by kernel_rfl, rfl⟩
    refine wpO_cons (oop (Instr.loadAt 3 (.pointer (some ⟨g, 3, none⟩))) (.int .i64 r2) GN.refl fun w_ hJ hd => ?_) ?_
    · have e36 : vals 36 = _ := hd 36 (by decide)
      have e37 : vals 37 = _ := hd 37 (by decide)
      rw [e36, e37]
      exact ⟨by kernel_rfl, by kernel_rfl, (by rw [hJ]; exact run_load1 (by kernel_rfl) p3), rfl⟩
    refine wpO_cons (oval (.bool (!decide (r2 = 0))) GN.refl fun w_ hJ hd => ?_) ?_
    · have e36 : vals 36 = _ := hd 36 (by decide)
      have e38 : vals 38 = _ := hd 38 (by decide)
      rw [e36, e38]
      exact ⟨by kernel_rfl, by kernel_rfl, rfl⟩
    refine wpO_cons (oval (.bool (!decide (r2 = 0))) GN.refl fun w_ hJ hd => ?_) ?_
    · have e36 : vals 36 = _ := hd 36 (by decide)
      have e39 : vals 39 = _ := hd 39 (by decide)
      rw [e36, e39]
      exact ⟨by kernel_rfl, by kernel_rfl, rfl⟩
    refine wpO_cons (oguard (!decide (r2 = 0)) (.pointer (some ⟨g, 3, none⟩)) GN.refl fun w_ hJ hd => ?_) ?_
    · have e40 : vals 40 = _ := hd 40 (by decide)
      rw [e40]
      exact ⟨(by kernel_rfl : _ = (some (!decide (r2 = 0)) == some true)).trans (some_t _), fun hB => (by exact ⟨by kernel_rfl, fun _ => rfl⟩), fun hB => fun h => by rw [hB] at h; cases h⟩
    refine wpO_cons (oguardop (!decide (r2 = 0)) (Instr.loadAt 3 (.pointer (some ⟨g, 3, none⟩))) (.int .i64 r2) GN.refl fun w_ hJ hd => ?_) ?_
    · have e40 : vals 40 = _ := hd 40 (by decide)
      have g41 : (!decide (r2 = 0)) = true → (vals 41) = .pointer (some ⟨g, 3, none⟩) := hd 41 (by decide)
      rw [e40]
      exact ⟨(by kernel_rfl : _ = (some (!decide (r2 = 0)) == some true)).trans (some_t _), fun hB => (by rw [g41 hB]; exact ⟨by kernel_rfl, (by rw [hJ]; exact run_load1 (by kernel_rfl) p3), fun _ => rfl⟩), fun hB => fun h => by rw [hB] at h; cases h⟩
    refine wpO_cons (oguard (!decide (r2 = 0)) (.int .u32 (b : Int)) GN.refl fun w_ hJ hd => ?_) ?_
    · have e40 : vals 40 = _ := hd 40 (by decide)
      rw [e40]
      exact ⟨(by kernel_rfl : _ = (some (!decide (r2 = 0)) == some true)).trans (some_t _), fun hB => (by exact ⟨by kernel_rfl, fun _ => rfl⟩), fun hB => fun h => by rw [hB] at h; cases h⟩
    refine wpO_cons (oguardop (!decide (r2 = 0)) (binOp .shr 22 (.int .u32 (b : Int)) (.int .u64 20)) (.int .u32 ((b / 1048576 : Nat) : Int)) GN.refl fun w_ hJ hd => ?_) ?_
    · have e40 : vals 40 = _ := hd 40 (by decide)
      have g43 : (!decide (r2 = 0)) = true → (vals 43) = .int .u32 (b : Int) := hd 43 (by decide)
      rw [e40]
      exact ⟨(by kernel_rfl : _ = (some (!decide (r2 = 0)) == some true)).trans (some_t _), fun hB => (by rw [g43 hB]; exact ⟨by kernel_rfl, shr20 b w_, fun _ => rfl⟩), fun hB => fun h => by rw [hB] at h; cases h⟩
    refine wpO_cons (oguardop (!decide (r2 = 0)) (binOp .and 22 (.int .u32 ((b / 1048576 : Nat) : Int)) (.int .u32 31)) (.int .u32 (fd b 20 5 : Nat)) GN.refl fun w_ hJ hd => ?_) ?_
    · have e40 : vals 40 = _ := hd 40 (by decide)
      have g44 : (!decide (r2 = 0)) = true → (vals 44) = .int .u32 ((b / 1048576 : Nat) : Int) := hd 44 (by decide)
      rw [e40]
      exact ⟨(by kernel_rfl : _ = (some (!decide (r2 = 0)) == some true)).trans (some_t _), fun hB => (by rw [g44 hB]; exact ⟨by kernel_rfl, and31 20 _ (by decide) w_, fun _ => rfl⟩), fun hB => fun h => by rw [hB] at h; cases h⟩
    refine wpO_cons (oguardop (!decide (r2 = 0)) (convert 22 3 (.int .u32 (fd b 20 5 : Nat))) (.int .i64 (fd b 20 5 : Nat)) GN.refl fun w_ hJ hd => ?_) ?_
    · have e40 : vals 40 = _ := hd 40 (by decide)
      have g45 : (!decide (r2 = 0)) = true → (vals 45) = .int .u32 (fd b 20 5 : Nat) := hd 45 (by decide)
      rw [e40]
      exact ⟨(by kernel_rfl : _ = (some (!decide (r2 = 0)) == some true)).trans (some_t _), fun hB => (by rw [g45 hB]; exact ⟨by kernel_rfl, conv223 _ (by have := fd_lt b 20 5; omega) w_, fun _ => rfl⟩), fun hB => fun h => by rw [hB] at h; cases h⟩
    refine wpO_cons (oguardop (!decide (r2 = 0)) (binOp .neq 3 (.int .i64 r2) (.int .i64 (fd b 20 5 : Nat))) (.bool false) GN.refl fun w_ hJ hd => ?_) ?_
    · have e40 : vals 40 = _ := hd 40 (by decide)
      have g42 : (!decide (r2 = 0)) = true → (vals 42) = .int .i64 r2 := hd 42 (by decide)
      have g46 : (!decide (r2 = 0)) = true → (vals 46) = .int .i64 (fd b 20 5 : Nat) := hd 46 (by decide)
      rw [e40]
      exact ⟨(by kernel_rfl : _ = (some (!decide (r2 = 0)) == some true)).trans (some_t _), fun hB => (by rw [g42 hB]; rw [g46 hB]; exact ⟨by kernel_rfl, neq3f (by have := fr3; simp at hB; omega) w_, fun _ => rfl⟩), fun hB => fun h => by rw [hB] at h; cases h⟩
    refine wpO_cons (oval (.bool false) GN.refl fun w_ hJ hd => ?_) ?_
    · have e36 : vals 36 = _ := hd 36 (by decide)
      have e40 : vals 40 = _ := hd 40 (by decide)
      rw [e36, e40]
      cases hB : (!decide (r2 = 0) : Bool) with
      | true => rw [show vals 47 = .bool false from hd 47 (by decide) hB]; exact ⟨by kernel_rfl, by kernel_rfl, rfl⟩
      | false => exact ⟨by kernel_rfl, by kernel_rfl, rfl⟩
    refine wpO_cons (oval (.bool false) GN.refl fun w_ hJ hd => ?_) ?_
    · have e36 : vals 36 = _ := hd 36 (by decide)
      have e48 : vals 48 = _ := hd 48 (by decide)
      rw [e36, e48]
      exact ⟨by kernel_rfl, by kernel_rfl, rfl⟩
    refine wpO_cons (oval (.bool false) GN.refl fun w_ hJ hd => ?_) ?_
    · have e49 : vals 49 = _ := hd 49 (by decide)
      rw [e49]
      exact ⟨by kernel_rfl, by kernel_rfl, rfl⟩
    refine wpO_cons (oval (.pointer (some ⟨g, 4, none⟩)) GN.refl fun w_ hJ hd => ?_) ?_
    · have e50 : vals 50 = _ := hd 50 (by decide)
      rw [e50]
      exact ⟨by kernel_rfl, by kernel_rfl, rfl⟩
    refine wpO_cons (oop (Instr.loadAt 3 (.pointer (some ⟨g, 4, none⟩))) (.int .i64 r3) GN.refl fun w_ hJ hd => ?_) ?_
    · have e50 : vals 50 = _ := hd 50 (by decide)
      have e51 : vals 51 = _ := hd 51 (by decide)
      rw [e50, e51]
      exact ⟨by kernel_rfl, by kernel_rfl, (by rw [hJ]; exact run_load1 (by kernel_rfl) p4), rfl⟩
    refine wpO_cons (oval (.bool (!decide (r3 = 0))) GN.refl fun w_ hJ hd => ?_) ?_
    · have e50 : vals 50 = _ := hd 50 (by decide)
      have e52 : vals 52 = _ := hd 52 (by decide)
      rw [e50, e52]
      exact ⟨by kernel_rfl, by kernel_rfl, rfl⟩
    refine wpO_cons (oval (.bool (!decide (r3 = 0))) GN.refl fun w_ hJ hd => ?_) ?_
    · have e50 : vals 50 = _ := hd 50 (by decide)
      have e53 : vals 53 = _ := hd 53 (by decide)
      rw [e50, e53]
      exact ⟨by kernel_rfl, by kernel_rfl, rfl⟩
    refine wpO_cons (oguard (!decide (r3 = 0)) (.pointer (some ⟨g, 4, none⟩)) GN.refl fun w_ hJ hd => ?_) ?_
    · have e54 : vals 54 = _ := hd 54 (by decide)
      rw [e54]
      exact ⟨(by kernel_rfl : _ = (some (!decide (r3 = 0)) == some true)).trans (some_t _), fun hB => (by exact ⟨by kernel_rfl, fun _ => rfl⟩), fun hB => fun h => by rw [hB] at h; cases h⟩
    refine wpO_cons (oguardop (!decide (r3 = 0)) (Instr.loadAt 3 (.pointer (some ⟨g, 4, none⟩))) (.int .i64 r3) GN.refl fun w_ hJ hd => ?_) ?_
    · have e54 : vals 54 = _ := hd 54 (by decide)
      have g55 : (!decide (r3 = 0)) = true → (vals 55) = .pointer (some ⟨g, 4, none⟩) := hd 55 (by decide)
      rw [e54]
      exact ⟨(by kernel_rfl : _ = (some (!decide (r3 = 0)) == some true)).trans (some_t _), fun hB => (by rw [g55 hB]; exact ⟨by kernel_rfl, (by rw [hJ]; exact run_load1 (by kernel_rfl) p4), fun _ => rfl⟩), fun hB => fun h => by rw [hB] at h; cases h⟩
    refine wpO_cons (oguard (!decide (r3 = 0)) (.int .u32 (b : Int)) GN.refl fun w_ hJ hd => ?_) ?_
    · have e54 : vals 54 = _ := hd 54 (by decide)
      rw [e54]
      exact ⟨(by kernel_rfl : _ = (some (!decide (r3 = 0)) == some true)).trans (some_t _), fun hB => (by exact ⟨by kernel_rfl, fun _ => rfl⟩), fun hB => fun h => by rw [hB] at h; cases h⟩
    refine wpO_cons (oguardop (!decide (r3 = 0)) (binOp .shr 22 (.int .u32 (b : Int)) (.int .u64 27)) (.int .u32 ((b / 134217728 : Nat) : Int)) GN.refl fun w_ hJ hd => ?_) ?_
    · have e54 : vals 54 = _ := hd 54 (by decide)
      have g57 : (!decide (r3 = 0)) = true → (vals 57) = .int .u32 (b : Int) := hd 57 (by decide)
      rw [e54]
      exact ⟨(by kernel_rfl : _ = (some (!decide (r3 = 0)) == some true)).trans (some_t _), fun hB => (by rw [g57 hB]; exact ⟨by kernel_rfl, shr27 b w_, fun _ => rfl⟩), fun hB => fun h => by rw [hB] at h; cases h⟩
    refine wpO_cons (oguardop (!decide (r3 = 0)) (convert 22 3 (.int .u32 ((b / 134217728 : Nat) : Int))) (.int .i64 (fd b 27 5 : Nat)) GN.refl fun w_ hJ hd => ?_) ?_
    · have e54 : vals 54 = _ := hd 54 (by decide)
      have g58 : (!decide (r3 = 0)) = true → (vals 58) = .int .u32 ((b / 134217728 : Nat) : Int) := hd 58 (by decide)
      rw [e54]
      exact ⟨(by kernel_rfl : _ = (some (!decide (r3 = 0)) == some true)).trans (some_t _), fun hB => (by rw [g58 hB]; exact ⟨by kernel_rfl, conv223t hb w_, fun _ => rfl⟩), fun hB => fun h => by rw [hB] at h; cases h⟩
    refine wpO_cons (oguardop (!decide (r3 = 0)) (binOp .neq 3 (.int .i64 r3) (.int .i64 (fd b 27 5 : Nat))) (.bool false) GN.refl fun w_ hJ hd => ?_) ?_
    · have e54 : vals 54 = _ := hd 54 (by decide)
      have g56 : (!decide (r3 = 0)) = true → (vals 56) = .int .i64 r3 := hd 56 (by decide)
      have g59 : (!decide (r3 = 0)) = true → (vals 59) = .int .i64 (fd b 27 5 : Nat) := hd 59 (by decide)
      rw [e54]
      exact ⟨(by kernel_rfl : _ = (some (!decide (r3 = 0)) == some true)).trans (some_t _), fun hB => (by rw [g56 hB]; rw [g59 hB]; exact ⟨by kernel_rfl, neq3f (by have := fr4; simp at hB; omega) w_, fun _ => rfl⟩), fun hB => fun h => by rw [hB] at h; cases h⟩
    refine wpO_cons (oval (.bool false) GN.refl fun w_ hJ hd => ?_) ?_
    · have e50 : vals 50 = _ := hd 50 (by decide)
      have e54 : vals 54 = _ := hd 54 (by decide)
      rw [e50, e54]
      cases hB : (!decide (r3 = 0) : Bool) with
      | true => rw [show vals 60 = .bool false from hd 60 (by decide) hB]; exact ⟨by kernel_rfl, by kernel_rfl, rfl⟩
      | false => exact ⟨by kernel_rfl, by kernel_rfl, rfl⟩
    refine wpO_cons (oval (.bool false) GN.refl fun w_ hJ hd => ?_) ?_
    · have e50 : vals 50 = _ := hd 50 (by decide)
      have e61 : vals 61 = _ := hd 61 (by decide)
      rw [e50, e61]
      exact ⟨by kernel_rfl, by kernel_rfl, rfl⟩
    refine wpO_cons (oval (.bool false) GN.refl fun w_ hJ hd => ?_) ?_
    · have e62 : vals 62 = _ := hd 62 (by decide)
      rw [e62]
      exact ⟨by kernel_rfl, by kernel_rfl, rfl⟩
    refine wpO_cons (oval (.pointer (some ⟨g, 5, none⟩)) GN.refl fun w_ hJ hd => ?_) ?_
    · have e63 : vals 63 = _ := hd 63 (by decide)
      rw [e63]
      exact ⟨by kernel_rfl, by kernel_rfl, rfl⟩
    refine wpO_cons (oop (Instr.loadAt 3 (.pointer (some ⟨g, 5, none⟩))) (.int .i64 rm) GN.refl fun w_ hJ hd => ?_) ?_
    · have e63 : vals 63 = _ := hd 63 (by decide)
      have e64 : vals 64 = _ := hd 64 (by decide)
      rw [e63, e64]
      exact ⟨by kernel_rfl, by kernel_rfl, (by rw [hJ]; exact run_load1 (by kernel_rfl) p5), rfl⟩
    refine wpO_cons (oop (binOp .lss 3 (.int .i64 rm) (.int .i64 0)) (.bool false) GN.refl fun w_ hJ hd => ?_) ?_
    · have e63 : vals 63 = _ := hd 63 (by decide)
      have e65 : vals 65 = _ := hd 65 (by decide)
      rw [e63, e65]
      exact ⟨by kernel_rfl, by kernel_rfl, lss3f (by omega) w_, rfl⟩
    refine wpO_cons (oval (.bool false) GN.refl fun w_ hJ hd => ?_) ?_
    · have e63 : vals 63 = _ := hd 63 (by decide)
      have e66 : vals 66 = _ := hd 66 (by decide)
      rw [e63, e66]
      exact ⟨by kernel_rfl, by kernel_rfl, rfl⟩
    refine wpO_cons (oval (.bool false) GN.refl fun w_ hJ hd => ?_) ?_
    · have e67 : vals 67 = _ := hd 67 (by decide)
      rw [e67]
      exact ⟨by kernel_rfl, by kernel_rfl, rfl⟩
    refine wpO_cons (oval (.pointer (some ⟨g, 5, none⟩)) GN.refl fun w_ hJ hd => ?_) ?_
    · have e68 : vals 68 = _ := hd 68 (by decide)
      rw [e68]
      exact ⟨by kernel_rfl, by kernel_rfl, rfl⟩
    refine wpO_cons (oop (Instr.loadAt 3 (.pointer (some ⟨g, 5, none⟩))) (.int .i64 rm) GN.refl fun w_ hJ hd => ?_) ?_
    · have e68 : vals 68 = _ := hd 68 (by decide)
      have e69 : vals 69 = _ := hd 69 (by decide)
      rw [e68, e69]
      exact ⟨by kernel_rfl, by kernel_rfl, (by rw [hJ]; exact run_load1 (by kernel_rfl) p5), rfl⟩
    refine wpO_cons (oop (binOp .gtr 3 (.int .i64 rm) (.int .i64 7)) (.bool false) GN.refl fun w_ hJ hd => ?_) ?_
    · have e68 : vals 68 = _ := hd 68 (by decide)
      have e70 : vals 70 = _ := hd 70 (by decide)
      rw [e68, e70]
      exact ⟨by kernel_rfl, by kernel_rfl, gtr3f (by omega) w_, rfl⟩
    refine wpO_cons (oval (.bool false) GN.refl fun w_ hJ hd => ?_) ?_
    · have e68 : vals 68 = _ := hd 68 (by decide)
      have e71 : vals 71 = _ := hd 71 (by decide)
      rw [e68, e71]
      exact ⟨by kernel_rfl, by kernel_rfl, rfl⟩
    refine wpO_cons (oval (.bool false) GN.refl fun w_ hJ hd => ?_) ?_
    · have e72 : vals 72 = _ := hd 72 (by decide)
      rw [e72]
      exact ⟨by kernel_rfl, by kernel_rfl, rfl⟩
    refine wpO_cons (oval (.pointer (some ⟨g, 5, none⟩)) GN.refl fun w_ hJ hd => ?_) ?_
    · have e73 : vals 73 = _ := hd 73 (by decide)
      rw [e73]
      exact ⟨by kernel_rfl, by kernel_rfl, rfl⟩
    refine wpO_cons (oop (Instr.loadAt 3 (.pointer (some ⟨g, 5, none⟩))) (.int .i64 rm) GN.refl fun w_ hJ hd => ?_) ?_
    · have e73 : vals 73 = _ := hd 73 (by decide)
      have e74 : vals 74 = _ := hd 74 (by decide)
      rw [e73, e74]
      exact ⟨by kernel_rfl, by kernel_rfl, (by rw [hJ]; exact run_load1 (by kernel_rfl) p5), rfl⟩
    refine wpO_cons (oop (binOp .eql 3 (.int .i64 rm) (.int .i64 5)) (.bool false) GN.refl fun w_ hJ hd => ?_) ?_
    · have e73 : vals 73 = _ := hd 73 (by decide)
      have e75 : vals 75 = _ := hd 75 (by decide)
      rw [e73, e75]
      exact ⟨by kernel_rfl, by kernel_rfl, eql3f (by omega) w_, rfl⟩
    refine wpO_cons (oval (.bool false) GN.refl fun w_ hJ hd => ?_) ?_
    · have e73 : vals 73 = _ := hd 73 (by decide)
      have e76 : vals 76 = _ := hd 76 (by decide)
      rw [e73, e76]
      exact ⟨by kernel_rfl, by kernel_rfl, rfl⟩
    refine wpO_cons (oval (.bool false) GN.refl fun w_ hJ hd => ?_) ?_
    · have e77 : vals 77 = _ := hd 77 (by decide)
      rw [e77]
      exact ⟨by kernel_rfl, by kernel_rfl, rfl⟩
    refine wpO_cons (oval (.pointer (some ⟨g, 5, none⟩)) GN.refl fun w_ hJ hd => ?_) ?_
    · have e78 : vals 78 = _ := hd 78 (by decide)
      rw [e78]
      exact ⟨by kernel_rfl, by kernel_rfl, rfl⟩
    refine wpO_cons (oop (Instr.loadAt 3 (.pointer (some ⟨g, 5, none⟩))) (.int .i64 rm) GN.refl fun w_ hJ hd => ?_) ?_
    · have e78 : vals 78 = _ := hd 78 (by decide)
      have e79 : vals 79 = _ := hd 79 (by decide)
      rw [e78, e79]
      exact ⟨by kernel_rfl, by kernel_rfl, (by rw [hJ]; exact run_load1 (by kernel_rfl) p5), rfl⟩
    refine wpO_cons (oop (binOp .eql 3 (.int .i64 rm) (.int .i64 6)) (.bool false) GN.refl fun w_ hJ hd => ?_) ?_
    · have e78 : vals 78 = _ := hd 78 (by decide)
      have e80 : vals 80 = _ := hd 80 (by decide)
      rw [e78, e80]
      exact ⟨by kernel_rfl, by kernel_rfl, eql3f (by omega) w_, rfl⟩
    refine wpO_cons (oval (.bool false) GN.refl fun w_ hJ hd => ?_) ?_
    · have e78 : vals 78 = _ := hd 78 (by decide)
      have e81 : vals 81 = _ := hd 81 (by decide)
      rw [e78, e81]
      exact ⟨by kernel_rfl, by kernel_rfl, rfl⟩
    refine wpO_cons (oval (.bool false) GN.refl fun w_ hJ hd => ?_) ?_
    · have e82 : vals 82 = _ := hd 82 (by decide)
      rw [e82]
      exact ⟨by kernel_rfl, by kernel_rfl, rfl⟩
    refine wpO_cons (oval (.pointer (some ⟨g, 6, none⟩)) GN.refl fun w_ hJ hd => ?_) ?_
    · have e83 : vals 83 = _ := hd 83 (by decide)
      rw [e83]
      exact ⟨by kernel_rfl, by kernel_rfl, rfl⟩
    refine wpO_cons (oop (Instr.loadAt 3 (.pointer (some ⟨g, 6, none⟩))) (.int .i64 c) GN.refl fun w_ hJ hd => ?_) ?_
    · have e83 : vals 83 = _ := hd 83 (by decide)
      have e84 : vals 84 = _ := hd 84 (by decide)
      rw [e83, e84]
      exact ⟨by kernel_rfl, by kernel_rfl, (by rw [hJ]; exact run_load1 (by kernel_rfl) p6), rfl⟩
    refine wpO_cons (oop (binOp .lss 3 (.int .i64 c) (.int .i64 0)) (.bool false) GN.refl fun w_ hJ hd => ?_) ?_
    · have e83 : vals 83 = _ := hd 83 (by decide)
      have e85 : vals 85 = _ := hd 85 (by decide)
      rw [e83, e85]
      exact ⟨by kernel_rfl, by kernel_rfl, lss3f (by omega) w_, rfl⟩
    refine wpO_cons (oval (.bool false) GN.refl fun w_ hJ hd => ?_) ?_
    · have e83 : vals 83 = _ := hd 83 (by decide)
      have e86 : vals 86 = _ := hd 86 (by decide)
      rw [e83, e86]
      exact ⟨by kernel_rfl, by kernel_rfl, rfl⟩
    refine wpO_cons (oval (.bool false) GN.refl fun w_ hJ hd => ?_) ?_
    · have e87 : vals 87 = _ := hd 87 (by decide)
      rw [e87]
      exact ⟨by kernel_rfl, by kernel_rfl, rfl⟩
    refine wpO_cons (oval (.pointer (some ⟨g, 6, none⟩)) GN.refl fun w_ hJ hd => ?_) ?_
    · have e88 : vals 88 = _ := hd 88 (by decide)
      rw [e88]
      exact ⟨by kernel_rfl, by kernel_rfl, rfl⟩
    refine wpO_cons (oop (Instr.loadAt 3 (.pointer (some ⟨g, 6, none⟩))) (.int .i64 c) GN.refl fun w_ hJ hd => ?_) ?_
    · have e88 : vals 88 = _ := hd 88 (by decide)
      have e89 : vals 89 = _ := hd 89 (by decide)
      rw [e88, e89]
      exact ⟨by kernel_rfl, by kernel_rfl, (by rw [hJ]; exact run_load1 (by kernel_rfl) p6), rfl⟩
    refine wpO_cons (oop (binOp .gtr 3 (.int .i64 c) (.int .i64 4095)) (.bool false) GN.refl fun w_ hJ hd => ?_) ?_
    · have e88 : vals 88 = _ := hd 88 (by decide)
      have e90 : vals 90 = _ := hd 90 (by decide)
      rw [e88, e90]
      exact ⟨by kernel_rfl, by kernel_rfl, gtr3f (by omega) w_, rfl⟩
    refine wpO_cons (oval (.bool false) GN.refl fun w_ hJ hd => ?_) wpO_nil
    · have e88 : vals 88 = _ := hd 88 (by decide)
      have e91 : vals 91 = _ := hd 91 (by decide)
      rw [e88, e91]
      exact ⟨by kernel_rfl, by kernel_rfl, rfl⟩
  intro vals w_ hJ hf
  have e0 : vals 0 = _ := hf 0 (by decide)
  have e1 : vals 1 = _ := hf 1 (by decide)
  have e2 : vals 2 = _ := hf 2 (by decide)
  have e3 : vals 3 = _ := hf 3 (by decide)
  have e4 : vals 4 = _ := hf 4 (by decide)
  have e5 : vals 5 = _ := hf 5 (by decide)
  have e6 : vals 6 = _ := hf 6 (by decide)
  have e7 : vals 7 = _ := hf 7 (by decide)
  have e8 : vals 8 = _ := hf 8 (by decide)
  have e9 : vals 9 = _ := hf 9 (by decide)
  have e10 : vals 10 = _ := hf 10 (by decide)
  have e11 : vals 11 = _ := hf 11 (by decide)
  have e12 : vals 12 = _ := hf 12 (by decide)
  have e20 : vals 20 = _ := hf 20 (by decide)
  have e21 : vals 21 = _ := hf 21 (by decide)
  have e22 : vals 22 = _ := hf 22 (by decide)
  have e23 : vals 23 = _ := hf 23 (by decide)
  have e24 : vals 24 = _ := hf 24 (by decide)
  have e25 : vals 25 = _ := hf 25 (by decide)
  have e26 : vals 26 = _ := hf 26 (by decide)
  have e34 : vals 34 = _ := hf 34 (by decide)
  have e35 : vals 35 = _ := hf 35 (by decide)
  have e36 : vals 36 = _ := hf 36 (by decide)
  have e37 : vals 37 = _ := hf 37 (by decide)
  have e38 : vals 38 = _ := hf 38 (by decide)
  have e39 : vals 39 = _ := hf 39 (by decide)
  have e40 : vals 40 = _ := hf 40 (by decide)
  have e48 : vals 48 = _ := hf 48 (by decide)
  have e49 : vals 49 = _ := hf 49 (by decide)
  have e50 : vals 50 = _ := hf 50 (by decide)
  have e51 : vals 51 = _ := hf 51 (by decide)
  have e52 : vals 52 = _ := hf 52 (by decide)
  have e53 : vals 53 = _ := hf 53 (by decide)
  have e54 : vals 54 = _ := hf 54 (by decide)
  have e61 : vals 61 = _ := hf 61 (by decide)
  have e62 : vals 62 = _ := hf 62 (by decide)
  have e63 : vals 63 = _ := hf 63 (by decide)
  have e64 : vals 64 = _ := hf 64 (by decide)
  have e65 : vals 65 = _ := hf 65 (by decide)
  have e66 : vals 66 = _ := hf 66 (by decide)
  have e67 : vals 67 = _ := hf 67 (by decide)
  have e68 : vals 68 = _ := hf 68 (by decide)
  have e69 : vals 69 = _ := hf 69 (by decide)
  have e70 : vals 70 = _ := hf 70 (by decide)
  have e71 : vals 71 = _ := hf 71 (by decide)
  have e72 : vals 72 = _ := hf 72 (by decide)
  have e73 : vals 73 = _ := hf 73 (by decide)
  have e74 : vals 74 = _ := hf 74 (by decide)
  have e75 : vals 75 = _ := hf 75 (by decide)
  have e76 : vals 76 = _ := hf 76 (by decide)
  have e77 : vals 77 = _ := hf 77 (by decide)
  have e78 : vals 78 = _ := hf 78 (by decide)
  have e79 : vals 79 = _ := hf 79 (by decide)
  have e80 : vals 80 = _ := hf 80 (by decide)
  have e81 : vals 81 = _ := hf 81 (by decide)
  have e82 : vals 82 = _ := hf 82 (by decide)
  have e83 : vals 83 = _ := hf 83 (by decide)
  have e84 : vals 84 = _ := hf 84 (by decide)
  have e85 : vals 85 = _ := hf 85 (by decide)
  have e86 : vals 86 = _ := hf 86 (by decide)
  have e87 : vals 87 = _ := hf 87 (by decide)
  have e88 : vals 88 = _ := hf 88 (by decide)
  have e89 : vals 89 = _ := hf 89 (by decide)
  have e90 : vals 90 = _ := hf 90 (by decide)
  have e91 : vals 91 = _ := hf 91 (by decide)
  have e92 : vals 92 = _ := hf 92 (by decide)
  show Exit.then _ _ _ (fillG vals 0 (_ :: _ :: _ :: _ :: _ :: _ :: _ :: _ :: _ :: _ :: _ :: _ :: _ :: _ :: _ :: _ :: _ :: _ :: _ :: _ :: _ :: _ :: _ :: _ :: _ :: _ :: _ :: _ :: _ :: _ :: _ :: _ :: _ :: _ :: _ :: _ :: _ :: _ :: _ :: _ :: _ :: _ :: _ :: _ :: _ :: _ :: _ :: _ :: _ :: _ :: _ :: _ :: _ :: _ :: _ :: _ :: _ :: _ :: _ :: _ :: _ :: _ :: _ :: _ :: _ :: _ :: _ :: _ :: _ :: _ :: _ :: _ :: _ :: _ :: _ :: _ :: _ :: _ :: _ :: _ :: _ :: _ :: _ :: _ :: _ :: _ :: _ :: _ :: _ :: _ :: _ :: _ :: _ :: []) _) _
  simp only [fillG, Nat.zero_add, Nat.reduceAdd, e0, e1, e2, e3, e4, e5, e6, e7, e8, e9, e10, e11, e12, e20, e21, e22, e23, e24, e25, e26, e34, e35, e36, e37, e38, e39, e40, e48, e49, e50, e51, e52, e53, e54, e61, e62, e63, e64, e65, e66, e67, e68, e69, e70, e71, e72, e73, e74, e75, e76, e77, e78, e79, e80, e81, e82, e83, e84, e85, e86, e87, e88, e89, e90, e91, e92, Act.put, List.setIfInBounds_toArray, List.set_cons_succ, List.set_cons_zero]
  clear e0 e1 e2 e3 e4 e5 e6 e7 e8 e9 e10 e11 e12 e20 e21 e22 e23 e24 e25 e26 e34 e35 e36 e37 e38 e39 e40 e48 e49 e50 e51 e52 e53 e54 e61 e62 e63 e64 e65 e66 e67 e68 e69 e70 e71 e72 e73 e74 e75 e76 e77 e78 e79 e80 e81 e82 e83 e84 e85 e86 e87 e88 e89 e90 e91 e92 hf
  generalize vals 13 = v13
  generalize vals 14 = v14
  generalize vals 15 = v15
  generalize vals 16 = v16
  generalize vals 17 = v17
  generalize vals 18 = v18
  generalize vals 19 = v19
  generalize vals 27 = v27
  generalize vals 28 = v28
  generalize vals 29 = v29
  generalize vals 30 = v30
  generalize vals 31 = v31
  generalize vals 32 = v32
  generalize vals 33 = v33
  generalize vals 41 = v41
  generalize vals 42 = v42
  generalize vals 43 = v43
  generalize vals 44 = v44
  generalize vals 45 = v45
  generalize vals 46 = v46
  generalize vals 47 = v47
  generalize vals 55 = v55
  generalize vals 56 = v56
  generalize vals 57 = v57
  generalize vals 58 = v58
  generalize vals 59 = v59
  generalize vals 60 = v60
  obtain rfl : W = w_ := hJ.symm
  clear p0 q0 p1 q1 p2 q2 p3 q3 p4 q4 p5 q5 p6 q6 p7 q7 p8 q8 p9 q9 p10 q10 p11 q11
  have H7 := hide h7
  have H8 := hide h8
  have H9 := hide h9
  have H10 := hide h10
  clear hk0 h1 h2 h3 h4 h5 h6 h7 h8 h9 h10 fr1 fr2 fr3 fr4
  go_upto_region 8 with fail
  obtain ⟨⟨p0, q0⟩, ⟨p1, q1⟩, ⟨p2, q2⟩, ⟨p3, q3⟩, ⟨p4, q4⟩, ⟨p5, q5⟩, ⟨p6, q6⟩, ⟨p7, q7⟩, ⟨p8, q8⟩, ⟨p9, q9⟩, ⟨p10, q10⟩, ⟨p11, q11⟩⟩ := c12 hx
  refine wp_list_O (fun w_ => w_ = W) GN (fun k_ v_ w_ => match k_ with
      | 0 => v_ = .pointer (some ⟨g, 7, none⟩)
      | 1 => v_ = .int .i64 sz
      | 2 => v_ = .bool (!decide (sz = 0))
      | 3 => v_ = .bool (!decide (sz = 0))
      | 4 => (!decide (sz = 0)) = true → v_ = .pointer (some ⟨g, 7, none⟩)
      | 5 => (!decide (sz = 0)) = true → v_ = .int .i64 sz
      | 6 => (!decide (sz = 0)) = true → v_ = .bool (!decide (sz = 1))
      | 7 => v_ = .bool ((!decide (sz = 0)) && !decide (sz = 1))
      | 8 => v_ = .bool ((!decide (sz = 0)) && !decide (sz = 1))
      | 9 => ((!decide (sz = 0)) && !decide (sz = 1)) = true → v_ = .pointer (some ⟨g, 7, none⟩)
      | 10 => ((!decide (sz = 0)) && !decide (sz = 1)) = true → v_ = .int .i64 sz
      | 11 => ((!decide (sz = 0)) && !decide (sz = 1)) = true → v_ = .bool (!decide (sz = 2))
      | 12 => v_ = .bool (((!decide (sz = 0)) && !decide (sz = 1)) && !decide (sz = 2))
      | 13 => v_ = .bool (((!decide (sz = 0)) && !decide (sz = 1)) && !decide (sz = 2))
      | 14 => (((!decide (sz = 0)) && !decide (sz = 1)) && !decide (sz = 2)) = true → v_ = .pointer (some ⟨g, 7, none⟩)
      | 15 => (((!decide (sz = 0)) && !decide (sz = 1)) && !decide (sz = 2)) = true → v_ = .int .i64 sz
      | 16 => (((!decide (sz = 0)) && !decide (sz = 1)) && !decide (sz = 2)) = true → v_ = .bool (!decide (sz = 4))
      | 17 => v_ = .bool ((((!decide (sz = 0)) && !decide (sz = 1)) && !decide (sz = 2)) && !decide (sz = 4))
      | 18 => v_ = .bool ((((!decide (sz = 0)) && !decide (sz = 1)) && !decide (sz = 2)) && !decide (sz = 4))
      | 19 => ((((!decide (sz = 0)) && !decide (sz = 1)) && !decide (sz = 2)) && !decide (sz = 4)) = true → v_ = .pointer (some ⟨g, 7, none⟩)
      | 20 => ((((!decide (sz = 0)) && !decide (sz = 1)) && !decide (sz = 2)) && !decide (sz = 4)) = true → v_ = .int .i64 sz
      | 21 => ((((!decide (sz = 0)) && !decide (sz = 1)) && !decide (sz = 2)) && !decide (sz = 4)) = true → v_ = .bool (!decide (sz = 8))
      | _ => v_ = .bool (((((!decide (sz = 0)) && !decide (sz = 1)) && !decide (sz = 2)) && !decide (sz = 4)) && !decide (sz = 8))) ?_ ?_ GN.refl ?_ ?_
  · rfl
  · intro k_ v_ w_ w2_ h1 hg
    split at h1 <;> first | exact h1 | exact h1.kept (row := none) hg (fun _ _ h => by cases h)
  · intro vals
    show wpO _ _ _ _ _ _ 0 (_ :: _) _
    refine wpO_cons (oval (.pointer (some ⟨g, 7, none⟩)) GN.refl fun w_ hJ hd => ?_) ?_
    · exact ⟨by kernel_rfl, by kernel_rfl, rfl⟩
    refine wpO_cons (oop (Instr.loadAt 3 (.pointer (some ⟨g, 7, none⟩))) (.int .i64 sz) GN.refl fun w_ hJ hd => ?_) ?_
    · have e0 : vals 0 = _ := hd 0 (by decide)
      rw [e0]
      exact ⟨by kernel_rfl, by kernel_rfl, (by rw [hJ]; exact run_load1 (by kernel_rfl) p7), rfl⟩
    refine wpO_cons (oval (.bool (!decide (sz = 0))) GN.refl fun w_ hJ hd => ?_) ?_
    · have e1 : vals 1 = _ := hd 1 (by decide)
      rw [e1]
      exact ⟨by kernel_rfl, by kernel_rfl, rfl⟩
    refine wpO_cons (oval (.bool (!decide (sz = 0))) GN.refl fun w_ hJ hd => ?_) ?_
    · have e2 : vals 2 = _ := hd 2 (by decide)
      rw [e2]
      exact ⟨by kernel_rfl, by kernel_rfl, rfl⟩
    refine wpO_cons (oguard (!decide (sz = 0)) (.pointer (some ⟨g, 7, none⟩)) GN.refl fun w_ hJ hd => ?_) ?_
    · have e3 : vals 3 = _ := hd 3 (by decide)
      rw [e3]
      exact ⟨(by kernel_rfl : _ = (some (!decide (sz = 0)) == some true)).trans (some_t _), fun hB => (by exact ⟨by kernel_rfl, fun _ => rfl⟩), fun hB => fun h => by rw [hB] at h; cases h⟩
    refine wpO_cons (oguardop (!decide (sz = 0)) (Instr.loadAt 3 (.pointer (some ⟨g, 7, none⟩))) (.int .i64 sz) GN.refl fun w_ hJ hd => ?_) ?_
    · have e3 : vals 3 = _ := hd 3 (by decide)
      have g4 : (!decide (sz = 0)) = true → (vals 4) = .pointer (some ⟨g, 7, none⟩) := hd 4 (by decide)
      rw [e3]
      exact ⟨(by kernel_rfl : _ = (some (!decide (sz = 0)) == some true)).trans (some_t _), fun hB => (by rw [g4 hB]; exact ⟨by kernel_rfl, (by rw [hJ]; exact run_load1 (by kernel_rfl) p7), fun _ => rfl⟩), fun hB => fun h => by rw [hB] at h; cases h⟩
    refine wpO_cons (oguard (!decide (sz = 0)) (.bool (!decide (sz = 1))) GN.refl fun w_ hJ hd => ?_) ?_
    · have e3 : vals 3 = _ := hd 3 (by decide)
      have g5 : (!decide (sz = 0)) = true → (vals 5) = .int .i64 sz := hd 5 (by decide)
      rw [e3]
      exact ⟨(by kernel_rfl : _ = (some (!decide (sz = 0)) == some true)).trans (some_t _), fun hB => (by rw [g5 hB]; exact ⟨by kernel_rfl, fun _ => rfl⟩), fun hB => fun h => by rw [hB] at h; cases h⟩
    refine wpO_cons (oval (.bool ((!decide (sz = 0)) && !decide (sz = 1))) GN.refl fun w_ hJ hd => ?_) ?_
    · have e3 : vals 3 = _ := hd 3 (by decide)
      rw [e3]
      cases hB : (!decide (sz = 0) : Bool) with
      | true => rw [show vals 6 = .bool (!decide (sz = 1)) from hd 6 (by decide) hB]; exact ⟨by kernel_rfl, by kernel_rfl, rfl⟩
      | false => exact ⟨by kernel_rfl, by kernel_rfl, rfl⟩
    refine wpO_cons (oval (.bool ((!decide (sz = 0)) && !decide (sz = 1))) GN.refl fun w_ hJ hd => ?_) ?_
    · have e7 : vals 7 = _ := hd 7 (by decide)
      rw [e7]
      exact ⟨by kernel_rfl, by kernel_rfl, rfl⟩
    refine wpO_cons (oguard ((!decide (sz = 0)) && !decide (sz = 1)) (.pointer (some ⟨g, 7, none⟩)) GN.refl fun w_ hJ hd => ?_) ?_
    · have e8 : vals 8 = _ := hd 8 (by decide)
      rw [e8]
      exact ⟨(by kernel_rfl : _ = (some ((!decide (sz = 0)) && !decide (sz = 1)) == some true)).trans (some_t _), fun hB => (by exact ⟨by kernel_rfl, fun _ => rfl⟩), fun hB => fun h => by rw [hB] at h; cases h⟩
    refine wpO_cons (oguardop ((!decide (sz = 0)) && !decide (sz = 1)) (Instr.loadAt 3 (.pointer (some ⟨g, 7, none⟩))) (.int .i64 sz) GN.refl fun w_ hJ hd => ?_) ?_
    · have e8 : vals 8 = _ := hd 8 (by decide)
      have g9 : ((!decide (sz = 0)) && !decide (sz = 1)) = true → (vals 9) = .pointer (some ⟨g, 7, none⟩) := hd 9 (by decide)
      rw [e8]
      exact ⟨(by kernel_rfl : _ = (some ((!decide (sz = 0)) && !decide (sz = 1)) == some true)).trans (some_t _), fun hB => (by rw [g9 hB]; exact ⟨by kernel_rfl, (by rw [hJ]; exact run_load1 (by kernel_rfl) p7), fun _ => rfl⟩), fun hB => fun h => by rw [hB] at h; cases h⟩
    refine wpO_cons (oguard ((!decide (sz = 0)) && !decide (sz = 1)) (.bool (!decide (sz = 2))) GN.refl fun w_ hJ hd => ?_) ?_
    · have e8 : vals 8 = _ := hd 8 (by decide)
      have g10 : ((!decide (sz = 0)) && !decide (sz = 1)) = true → (vals 10) = .int .i64 sz := hd 10 (by decide)
      rw [e8]
      exact ⟨(by kernel_rfl : _ = (some ((!decide (sz = 0)) && !decide (sz = 1)) == some true)).trans (some_t _), fun hB => (by rw [g10 hB]; exact ⟨by kernel_rfl, fun _ => rfl⟩), fun hB => fun h => by rw [hB] at h; cases h⟩
    refine wpO_cons (oval (.bool (((!decide (sz = 0)) && !decide (sz = 1)) && !decide (sz = 2))) GN.refl fun w_ hJ hd => ?_) ?_
    · have e8 : vals 8 = _ := hd 8 (by decide)
      rw [e8]
      cases hB : ((!decide (sz = 0)) && !decide (sz = 1) : Bool) with
      | true => rw [show vals 11 = .bool (!decide (sz = 2)) from hd 11 (by decide) hB]; exact ⟨by kernel_rfl, by kernel_rfl, rfl⟩
      | false => exact ⟨by kernel_rfl, by kernel_rfl, rfl⟩
    refine wpO_cons (oval (.bool (((!decide (sz = 0)) && !decide (sz = 1)) && !decide (sz = 2))) GN.refl fun w_ hJ hd => ?_) ?_
    · have e12 : vals 12 = _ := hd 12 (by decide)
      rw [e12]
      exact ⟨by kernel_rfl, by kernel_rfl, rfl⟩
    refine wpO_cons (oguard (((!decide (sz = 0)) && !decide (sz = 1)) && !decide (sz = 2)) (.pointer (some ⟨g, 7, none⟩)) GN.refl fun w_ hJ hd => ?_) ?_
    · have e13 : vals 13 = _ := hd 13 (by decide)
      rw [e13]
      exact ⟨(by kernel_rfl : _ = (some (((!decide (sz = 0)) && !decide (sz = 1)) && !decide (sz = 2)) == some true)).trans (some_t _), fun hB => (by exact ⟨by kernel_rfl, fun _ => rfl⟩), fun hB => fun h => by rw [hB] at h; cases h⟩
    refine wpO_cons (oguardop (((!decide (sz = 0)) && !decide (sz = 1)) && !decide (sz = 2)) (Instr.loadAt 3 (.pointer (some ⟨g, 7, none⟩))) (.int .i64 sz) GN.refl fun w_ hJ hd => ?_) ?_
    · have e13 : vals 13 = _ := hd 13 (by decide)
      have g14 : (((!decide (sz = 0)) && !decide (sz = 1)) && !decide (sz = 2)) = true → (vals 14) = .pointer (some ⟨g, 7, none⟩) := hd 14 (by decide)
      rw [e13]
      exact ⟨(by kernel_rfl : _ = (some (((!decide (sz = 0)) && !decide (sz = 1)) && !decide (sz = 2)) == some true)).trans (some_t _), fun hB => (by rw [g14 hB]; exact ⟨by kernel_rfl, (by rw [hJ]; exact run_load1 (by kernel_rfl) p7), fun _ => rfl⟩), fun hB => fun h => by rw [hB] at h; cases h⟩
    refine wpO_cons (oguard (((!decide (sz = 0)) && !decide (sz = 1)) && !decide (sz = 2)) (.bool (!decide (sz = 4))) GN.refl fun w_ hJ hd => ?_) ?_
    · have e13 : vals 13 = _ := hd 13 (by decide)
      have g15 : (((!decide (sz = 0)) && !decide (sz = 1)) && !decide (sz = 2)) = true → (vals 15) = .int .i64 sz := hd 15 (by decide)
      rw [e13]
      exact ⟨(by kernel_rfl : _ = (some (((!decide (sz = 0)) && !decide (sz = 1)) && !decide (sz = 2)) == some true)).trans (some_t _), fun hB => (by rw [g15 hB]; exact ⟨by kernel_rfl, fun _ => rfl⟩), fun hB => fun h => by rw [hB] at h; cases h⟩
    refine wpO_cons (oval (.bool ((((!decide (sz = 0)) && !decide (sz = 1)) && !decide (sz = 2)) && !decide (sz = 4))) GN.refl fun w_ hJ hd => ?_) ?_
    · have e13 : vals 13 = _ := hd 13 (by decide)
      rw [e13]
      cases hB : (((!decide (sz = 0)) && !decide (sz = 1)) && !decide (sz = 2) : Bool) with
      | true => rw [show vals 16 = .bool (!decide (sz = 4)) from hd 16 (by decide) hB]; exact ⟨by kernel_rfl, by kernel_rfl, rfl⟩
      | false => exact ⟨by kernel_rfl, by kernel_rfl, rfl⟩
    refine wpO_cons (oval (.bool ((((!decide (sz = 0)) && !decide (sz = 1)) && !decide (sz = 2)) && !decide (sz = 4))) GN.refl fun w_ hJ hd => ?_) ?_
    · have e17 : vals 17 = _ := hd 17 (by decide)
      rw [e17]
      exact ⟨by kernel_rfl, by kernel_rfl, rfl⟩
    refine wpO_cons (oguard ((((!decide (sz = 0)) && !decide (sz = 1)) && !decide (sz = 2)) && !decide (sz = 4)) (.pointer (some ⟨g, 7, none⟩)) GN.refl fun w_ hJ hd => ?_) ?_
    · have e18 : vals 18 = _ := hd 18 (by decide)
      rw [e18]
      exact ⟨(by kernel_rfl : _ = (some ((((!decide (sz = 0)) && !decide (sz = 1)) && !decide (sz = 2)) && !decide (sz = 4)) == some true)).trans (some_t _), fun hB => (by exact ⟨by kernel_rfl, fun _ => rfl⟩), fun hB => fun h => by rw [hB] at h; cases h⟩
    refine wpO_cons (oguardop ((((!decide (sz = 0)) && !decide (sz = 1)) && !decide (sz = 2)) && !decide (sz = 4)) (Instr.loadAt 3 (.pointer (some ⟨g, 7, none⟩))) (.int .i64 sz) GN.refl fun w_ hJ hd => ?_) ?_
    · have e18 : vals 18 = _ := hd 18 (by decide)
      have g19 : ((((!decide (sz = 0)) && !decide (sz = 1)) && !decide (sz = 2)) && !decide (sz = 4)) = true → (vals 19) = .pointer (some ⟨g, 7, none⟩) := hd 19 (by decide)
      rw [e18]
      exact ⟨(by kernel_rfl : _ = (some ((((!decide (sz = 0)) && !decide (sz = 1)) && !decide (sz = 2)) && !decide (sz = 4)) == some true)).trans (some_t _), fun hB => (by rw [g19 hB]; exact ⟨by kernel_rfl, (by rw [hJ]; exact run_load1 (by kernel_rfl) p7), fun _ => rfl⟩), fun hB => fun h => by rw [hB] at h; cases h⟩
    refine wpO_cons (oguard ((((!decide (sz = 0)) && !decide (sz = 1)) && !decide (sz = 2)) && !decide (sz = 4)) (.bool (!decide (sz = 8))) GN.refl fun w_ hJ hd => ?_) ?_
    · have e18 : vals 18 = _ := hd 18 (by decide)
      have g20 : ((((!decide (sz = 0)) && !decide (sz = 1)) && !decide (sz = 2)) && !decide (sz = 4)) = true → (vals 20) = .int .i64 sz := hd 20 (by decide)
      rw [e18]
      exact ⟨(by kernel_rfl : _ = (some ((((!decide (sz = 0)) && !decide (sz = 1)) && !decide (sz = 2)) && !decide (sz = 4)) == some true)).trans (some_t _), fun hB => (by rw [g20 hB]; exact ⟨by kernel_rfl, fun _ => rfl⟩), fun hB => fun h => by rw [hB] at h; cases h⟩
    refine wpO_cons (oval (.bool (((((!decide (sz = 0)) && !decide (sz = 1)) && !decide (sz = 2)) && !decide (sz = 4)) && !decide (sz = 8))) GN.refl fun w_ hJ hd => ?_) wpO_nil
    · have e18 : vals 18 = _ := hd 18 (by decide)
      rw [e18]
      cases hB : ((((!decide (sz = 0)) && !decide (sz = 1)) && !decide (sz = 2)) && !decide (sz = 4) : Bool) with
      | true => rw [show vals 21 = .bool (!decide (sz = 8)) from hd 21 (by decide) hB]; exact ⟨by kernel_rfl, by kernel_rfl, rfl⟩
      | false => exact ⟨by kernel_rfl, by kernel_rfl, rfl⟩
  intro vals w_ hJ hf
  have e0 : vals 0 = _ := hf 0 (by decide)
  have e1 : vals 1 = _ := hf 1 (by decide)
  have e2 : vals 2 = _ := hf 2 (by decide)
  have e3 : vals 3 = _ := hf 3 (by decide)
  have e7 : vals 7 = _ := hf 7 (by decide)
  have e8 : vals 8 = _ := hf 8 (by decide)
  have e12 : vals 12 = _ := hf 12 (by decide)
  have e13 : vals 13 = _ := hf 13 (by decide)
  have e17 : vals 17 = _ := hf 17 (by decide)
  have e18 : vals 18 = _ := hf 18 (by decide)
  have e22 : vals 22 = _ := hf 22 (by decide)
  simp only [fillG, Nat.zero_add, Nat.reduceAdd, e0, e1, e2, e3, e7, e8, e12, e13, e17, e18, e22, Act.put, List.setIfInBounds_toArray, List.set_cons_succ, List.set_cons_zero]
  clear e0 e1 e2 e3 e7 e8 e12 e13 e17 e18 e22 hf
  generalize vals 4 = v4
  generalize vals 5 = v5
  generalize vals 6 = v6
  generalize vals 9 = v9
  generalize vals 10 = v10
  generalize vals 11 = v11
  generalize vals 14 = v14
  generalize vals 15 = v15
  generalize vals 16 = v16
  generalize vals 19 = v19
  generalize vals 20 = v20
  generalize vals 21 = v21
  obtain rfl : W = w_ := hJ.symm
  have e8 : (((((!decide (sz = 0)) && !decide (sz = 1)) && !decide (sz = 2)) && !decide (sz = 4)) && !decide (sz = 8)) = false := by
    rcases unhide H7 with h | h | h | h | h <;> subst h <;> decide
  rw [e8]
  go_upto_region 10 with fail
  obtain ⟨⟨p0, q0⟩, ⟨p1, q1⟩, ⟨p2, q2⟩, ⟨p3, q3⟩, ⟨p4, q4⟩, ⟨p5, q5⟩, ⟨p6, q6⟩, ⟨p7, q7⟩, ⟨p8, q8⟩, ⟨p9, q9⟩, ⟨p10, q10⟩, ⟨p11, q11⟩⟩ := c12 hx
  have hc : (k = 3 ∨ (5 ≤ k ∧ k ≤ 10)) ∨ (k = 1 ∨ k = 2) ∨ (¬ (k = 3 ∨ (5 ≤ k ∧ k ≤ 10)) ∧ ¬ (k = 1 ∨ k = 2)) := by omega
  rcases hc with hw | hw | ⟨hw, hw2⟩
  · obtain ⟨t1, t2, t3⟩ := unhide H8 hw
    have t4 : i.tmod 2 = 0 := Int.tmod_eq_zero_of_dvd (Int.dvd_of_emod_eq_zero t1)
    have T1 := hide t1
    clear t1 e8
    rcases hw with rfl | ⟨k5, k10⟩
    · go_wp2; go_ret; exact ⟨rfl, hgW⟩
    · have k3 := ne_b (show k ≠ 3 by omega)
      go_wp2; go_ret; exact ⟨rfl, hgW⟩
  · have t1 := unhide H9 hw
    have hA : bits .and .i64 i 4095 = 0 := by rw [t1]; exact up_low b
    have hB := up_high b hb
    have hC : (i == wrap64 (wrap32 ((b / 4096 * 4096 : Nat) : Int))) = true := by rw [t1]; exact up_same b hb
    generalize b / 4096 * 4096 = u at *
    clear t1 e8
    rcases hw with rfl | rfl
    · go_wp2; go_ret; exact ⟨rfl, hgW⟩
    · go_wp2; go_ret; exact ⟨rfl, hgW⟩
  · obtain ⟨t2, t3⟩ := unhide H10 hw hw2
    have k1 := ne_b (show k ≠ 1 by omega)
    have k2 := ne_b (show k ≠ 2 by omega)
    have k3 := ne_b (show k ≠ 3 by omega)
    have hl : k < 5 ∨ 10 < k := by omega
    clear hw hw2 e8
    rcases hl with k5 | k10
    · have k5_ : ¬ 5 ≤ k := by omega
      go_wp2; go_ret; exact ⟨rfl, hgW⟩
    · have k5_ : 5 ≤ k := by omega
      have k10_ : ¬ k ≤ 10 := by omega
      go_wp2; go_ret; exact ⟨rfl, hgW⟩
end Go.Proofs.Ytopbdiekfhikmaa
