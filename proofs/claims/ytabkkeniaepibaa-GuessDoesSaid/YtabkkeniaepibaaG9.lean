/- Layer 18: a seed decides about branches alone: the walk. -/
import Derived.Test.YtabkkeniaepibaaG8
import Derived.Test.YtabkkeniaepibaaRegion3
namespace Go.Proofs.Ytabkkeniaepibaa
open Go.RowKit

/-- Alike but for the counters; none has learned a branch. -/
structure Ag (a b : Int) (c d : St) : Prop where
  same : ∀ i, ¬ (48 ≤ i ∧ i < 112) → c i = d i
  left : ∀ i, 48 ≤ i → i < 112 → c i = c0 a i
  right : ∀ i, 48 ≤ i → i < 112 → d i = c0 b i
  nb : ∀ n, n < 16 → c (n * 3 + 2) ≠ 1
theorem Ag.start (a b : Int) : Ag a b (c0 a) (c0 b) := by
  refine ⟨fun i h => ?_, fun _ _ _ => rfl, fun _ _ _ => rfl, fun n h => ?_⟩
  · unfold c0; rw [if_neg h, if_neg h]
  · unfold c0; rw [if_neg (by omega)]; decide
section
variable {a b : Int} {c d : St}
theorem Ag.rk (h : Ag a b c d) (pc : Int) : rk c pc = Go.Proofs.Ytabkkeniaepibaa.rk d pc ∧ Go.Proofs.Ytabkkeniaepibaa.rk c pc ≠ 1 := by
  have hr := rowN_lt pc
  refine ⟨rk_congr pc fun i hi => h.same i (by omega), ?_⟩
  unfold Go.Proofs.Ytabkkeniaepibaa.rk
  split
  · exact h.nb _ hr
  · decide
theorem Ag.setRow (h : Ag a b c d) {n : Nat} (hn : n < 16) (pc t k : Int) (hk : k ≠ 1) : Ag a b (setRow c n pc t k) (setRow d n pc t k) := by
  refine ⟨fun i hi => ?_, fun i h1 h2 => ?_, fun i h1 h2 => ?_, fun m hm => ?_⟩
  · unfold Go.Proofs.Ytabkkeniaepibaa.setRow upd
    rw [h.same i hi]
  · rw [setRow_out _ h1 hn]; exact h.left i h1 h2
  · rw [setRow_out _ h1 hn]; exact h.right i h1 h2
  · unfold Go.Proofs.Ytabkkeniaepibaa.setRow upd
    by_cases e : m = n
    · rw [if_pos (by omega)]; exact hk
    · rw [if_neg (by omega), if_neg (by omega), if_neg (by omega)]; exact h.nb m hm
theorem Ag.learn (h : Ag a b c d) (pc k : Int) (tk : Bool) (t : Int) (hk : k ≠ 1) : Ag a b (lSt c pc k tk t) (lSt d pc k tk t) := by
  unfold lSt
  split
  · exact h
  · unfold lRow
    simp only [if_pos (show tk = true ∨ k ≠ 1 from .inr hk)]
    exact h.setRow (rowN_lt pc) pc t k hk
theorem Ag.push (h : Ag a b c d) (v : Int) (i : Nat) (hi : ¬ (48 ≤ i ∧ i < 112)) : pushS c v i = pushS d v i := by
  have e0 := h.same 112 (by omega)
  have e1 := h.same 113 (by omega)
  have e2 := h.same 114 (by omega)
  have e3 := h.same 115 (by omega)
  have e4 := h.same 116 (by omega)
  have e := h.same i hi
  unfold pushS shift upd
  rw [e4]
  split <;> simp only [e0, e1, e2, e3, e4, e]
theorem Ag.pop (h : Ag a b c d) (i : Nat) (hi : ¬ (48 ≤ i ∧ i < 112)) : popS c i = popS d i := by
  have e4 := h.same 116 (by omega)
  have e := h.same i hi
  unfold popS upd
  rw [e4]
  split <;> simp only [e4, e]
theorem Ag.next (h : Ag a b c d) (hz : 0 ≤ c 116 ∧ c 116 ≤ 4) (pc s : Int) : Ag a b (nSt c pc s) (nSt d pc s) ∧ nOut c pc s = nOut d pc s := by
  obtain ⟨hr, h1⟩ := h.rk pc
  have hz' : 0 ≤ d 116 ∧ d 116 ≤ 4 := by rw [← h.same 116 (by omega)]; exact hz
  have hrn := rowN_lt pc
  have e4 := h.same 116 (by omega)
  refine ⟨⟨fun i hi => ?_, fun i i1 i2 => ?_, fun i i1 i2 => ?_, fun n hn => ?_⟩, ?_⟩
  · unfold nSt
    rw [← hr]
    split
    · exact h.push _ i hi
    · split
      · exact h.pop i hi
      · exact h.same i hi
  · rw [next_out hz pc s i i2]; exact h.left i i1 i2
  · rw [next_out hz' pc s i i2]; exact h.right i i1 i2
  · rw [next_out hz pc s _ (by omega)]; exact h.nb n hn
  · unfold nOut
    rw [← hr]
    simp only [if_neg h1]
    rw [h.same (rowN pc * 3 + 1) (by omega), e4, h.same (112 + (d 116 - 1).toNat) (by omega)]
theorem Ag.mkEq (h : Ag a b c d) : mkv d = mkv c := by
  unfold mkv
  rw [h.same 112 (by omega), h.same 113 (by omega), h.same 114 (by omega), h.same 115 (by omega), h.same 116 (by omega), h.same 117 (by omega)]
end
theorem ctl_eq {c d : St} (h : ∀ i, 48 ≤ i → i < 112 → c i = d i) : ctl c = ctl d := by
  unfold ctl
  apply List.map_congr_left
  intro i hi
  rw [h _ (by omega) (by have := List.mem_range.1 hi; omega)]
theorem neq22 (x : Int) (w : World) : (binOp .neq 22 (.int .u64 x) (.int .u64 x)).run Try.prog w = .ok (.bool false) w := by
  have h : (binOp .neq 22 (.int .u64 x) (.int .u64 x)).run Try.prog w = .ok (.bool (!decide (x = x))) w := by kernel_rfl
  rw [h]; simp
theorem neql31 (a b c d e f : Int) (h : MkB a b c d e f) (w : World) : (binOp .neq 31 (.agg #[.int .u64 a, .int .u64 b, .int .u64 c, .int .u64 d, .int .i64 e, .int .u64 f]) (.agg #[.int .u64 a, .int .u64 b, .int .u64 c, .int .u64 d, .int .i64 e, .int .u64 f])).run Try.prog w = .ok (.bool false) w :=
  run_neq_same flat31 named31 kt31 (formed31 _ _ _ _ _ _) (fits_mk h)

set_option maxRecDepth 100000 in
set_option maxHeartbeats 1000000 in
theorem counters_any {w : World} {b : Nat} {c : St} (hh : w.heap[b]? = some (.cells (gl c).toArray 56 (0, 0))) :
    Calls Try.prog 22 #[.pointer (some ⟨b, 0, none⟩)] w fun r w' => r = .returned (.agg (ctl c).toArray) ∧ GN w w' := by
  have hlt := lt_of_heap' hh
  go_enter Try.func22, Try.ntmps22
  go_wp2_with (first
    | refine wpList_load_mid rfl 43 _ rfl b 48 rfl (ctl c) _ (range_blk (((GN.refl w).alloc _).heap hh) 48 64 (ctl c) (gl_ctl c)) Try.underlying43 rfl (by rw [ctl_len]; exact isz43) ?_
    | (refine wpList_store_mid rfl 43 (.tmp 2) (.tmp 6) rfl w.heap.size 0 (ctl c).toArray rfl rfl ?_ (by rw [List.size_toArray, ctl_len]; exact isz43) (ctl_one _) ?_
       rotate_left
       refine unhide ?_))
  rotate_left
  · exact there_new _ _ _ (Eq.trans (rfl : _ = 64) (by rw [List.size_toArray, ctl_len]))
  generalize hw1 : World.setCells _ w.heap.size 0 (ctl c).toArray.toList = w1
  have hJ1 : Heap w w1 [HP.blk w.heap.size (ctl c).toArray 43] := by
    rw [← hw1]
    exact (Heap.nil w).clone _ _ _ (Eq.trans (rfl : _ = 64) (by rw [ctl_len]))
  clear hw1
  refine hide ?_
  go_wp2
  exact bodyPost_ret (v := .agg (ctl c).toArray) (results_cell_row rfl _ w1 w.heap.size 43 (ctl c).toArray (0, 0) _ rfl hJ1.heap Try.underlying43 rfl (by rw [List.size_toArray, ctl_len]; exact isz43)) rfl ⟨rfl, gn_of_below hJ1.below⟩
theorem fits_rep {k : Option IntKind} : ∀ {l : List Value}, (∀ v ∈ l, fitK k v) → Fits (List.replicate l.length k) l
  | [], _ => trivial
  | v :: l, h => ⟨h v (by simp), fits_rep fun u hu => h u (by simp [hu])⟩
theorem fits_ctl {c : St} (hI : GI c) : Fits (List.replicate 64 (.some .u8)) (ctl c) := by
  have h : ∀ v ∈ ctl c, fitK (.some .u8) v := by
    intro v hv
    unfold ctl at hv
    obtain ⟨i, hi, rfl⟩ := List.mem_map.1 hv
    have := hI.ctr i (List.mem_range.1 hi)
    exact ⟨_, rfl, by simp [Lit.wf, IntKind.min, IntKind.max, IntKind.signed, IntKind.bits]; omega⟩
  have := fits_rep h
  rwa [ctl_len] at this
theorem flat43 : flat Try.prog 8 43 = .some (List.replicate 64 (.some .u8)) := by kernel_rfl
theorem named43 : named Try.prog 8 43 = true := by kernel_rfl
theorem kt43 : Try.prog.keyTypeAt 8 43 = true := by kernel_rfl
theorem formed43 (c : St) : (Value.agg (ctl c).toArray).formed Try.prog 43 = true := by kernel_rfl
theorem eqg43 {op : BinOp} {x y : Operand} {A B : Array Value} {v : Value} {w : World} (h : (binOp op 43 (.agg A) (.agg B)).run Try.prog w = .ok v w) : (do eqGuard op 43 x y (.agg A) (.agg B); binOp op 43 (.agg A) (.agg B) : Sem Value).run Try.prog w = .ok v w := by
  simp only [Sem.run_bind, run_eqGuard_agg (P := Try.prog) w op 43 x y A B (by kernel_rfl), Result.andThen_ok, h]
theorem eql43 {c d : St} (hc : GI c) (hd : GI d) : ∃ E : Bool, ∀ w, (binOp .eql 43 (.agg (ctl c).toArray) (.agg (ctl d).toArray)).run Try.prog w = .ok (.bool E) w := by
  by_cases h : ctl c = ctl d
  · rw [← h]
    exact ⟨true, fun w => run_eql_same flat43 named43 kt43 (formed43 c) (fits_ctl hc)⟩
  · exact ⟨false, fun w => run_eql_diff flat43 named43 kt43 (formed43 c) (formed43 d) (fits_ctl hc) (fits_ctl hd) (fun e => h (congrArg Array.toList e))⟩
set_option maxRecDepth 100000 in
set_option maxHeartbeats 4000000 in
theorem seeds_walk (sa sb : Int) (s0 : 0 ≤ sa) (s1 : sa < 18446744073709551616) (t0 : 0 ≤ sb) (t1 : sb < 18446744073709551616) (A : Option Addr) (n cap : Nat) (w : World) (hS : SlArg [some .i64, some .u64, some .u64, some .i64, none] w A n) (hn : n ≤ 4398046511104) :
    Calls Try.prog 7 #[.int .u64 sa, .int .u64 sb, .slice A n cap] w fun e w' => e = .returned (.bool true) ∧ Below w.heap.size w w' := by
  have HS := hide hS
  clear hS
  have Ht := hide (And.intro t0 t1)
  have Hs := hide (And.intro s0 s1)
  go_enter Try.func7, Try.ntmps7
  go_wp2_with fail
  refine (fixed_h (Heap.nil w)).mono ?_
  rintro r w1 ⟨rfl, h1⟩
  go_wp2_with fail
  refine (new_h h1 sa s0 s1).mono ?_
  rintro r w2 ⟨b, rfl, h2⟩
  clear h1
  go_wp2_with fail
  refine (new_h h2 sb t0 t1).mono ?_
  rintro r w3 ⟨br, rfl, h3⟩
  have h3 := h3.f2
  clear h2
  go_wp2
  go_loopw [9] (fun i wr => ∃ (k : Nat) (c d : St), i = .int .i64 k ∧ k ≤ n ∧ Ag sa sb c d ∧ Heap w wr [HP.gg b c, HP.gg br d]) (fun i _ => n - (intOf i).toNat)
  case atStart => exact ⟨0, c0 sa, c0 sb, rfl, Nat.zero_le _, Ag.start _ _, h3⟩
  case round =>
    obtain ⟨k, c, d, rfl, hk, hag, hJ⟩ := hrel
    clear h3
    have Hag := hide hag
    clear hag
    by_cases hlt : k < n
    · obtain ⟨ab, ao, rfl, kd, pc, tgt, sz, tk, ⟨x0, x1, x2, x3, x4⟩, ⟨y0, y1⟩, ⟨t0, t1⟩, _, hab⟩ := step_at (unhide HS) hJ.below hlt
      have J1 := hJ.new #[.int .i64 kd, .int .u64 pc, .int .u64 tgt, .int .i64 sz, .bool tk] 34
      obtain ⟨xb, hxb⟩ : ∃ xb, wr.heap.size = xb := ⟨_, rfl⟩
      rw [hxb] at J1
      have c5 := cells5 J1.heap
      have hxl := lt_of_heap' J1.heap
      clear hJ
      go_upto_region 9 with fail
      go_cut [34] (fun s34 wx => s34 = .bool (decide (kd = 0) && decide (sz ≠ 1)) ∧ Heap w wx [HP.blk xb #[.int .i64 kd, .int .u64 pc, .int .u64 tgt, .int .i64 sz, .bool tk] 34, HP.gg b c, HP.gg br d])
      case first =>
        by_cases q0 : kd = 0
        · subst q0
          by_cases q1 : sz = 1
          · subst q1
            go_wp2
            go_meet
            exact ⟨rfl, J1⟩
          · have z : (sz == 1) = false := beq_eq_false_iff_ne.2 q1
            have z' : (sz != 1) = true := bne_iff_ne.2 q1
            go_wp2
            go_meet
            exact ⟨by simp [q1], J1⟩
        · have z : (kd == 0) = false := beq_eq_false_iff_ne.2 q0
          go_wp2
          go_meet
          exact ⟨by simp [q0], J1⟩
      case rest =>
        obtain ⟨rfl, J1⟩ := hcut
        clear c5 hxl
        have c5 := cells5 J1.heap
        have hxl := lt_of_heap' J1.heap
        go_upto_if 34 with fail
        go_cut [34] (fun _ wx => ∃ c d : St, Ag sa sb c d ∧ Heap w wx [HP.blk xb #[.int .i64 kd, .int .u64 pc, .int .u64 tgt, .int .i64 sz, .bool tk] 34, HP.gg b c, HP.gg br d])
        case first =>
          by_cases q : kd = 0 ∧ sz ≠ 1
          · obtain ⟨q0, q1⟩ := q
            subst q0
            have z : (decide ((0 : Int) = 0) && decide (sz ≠ 1)) = true := by simp [q1]
            rw [z]
            go_wp2_with fail
            refine (learn_h J1.f2 pc sz tk tgt y0 y1 t0 t1).mono ?_
            rintro r w5 ⟨rfl, h5⟩
            clear J1 c5
            have c5 := cells5 h5.f2.heap
            have hxl := lt_of_heap' h5.f2.heap
            go_wp2_with fail
            refine (learn_h h5.f3 pc sz tk tgt y0 y1 t0 t1).mono ?_
            rintro r w6 ⟨rfl, h6⟩
            clear h5 c5
            go_wp2
            go_meet
            exact ⟨_, _, (unhide Hag).learn pc sz tk tgt q1, h6.f2.f3⟩
          · have z : (decide (kd = 0) && decide (sz ≠ 1)) = false := by
              rw [Bool.and_eq_false_iff, decide_eq_false_iff_not, decide_eq_false_iff_not]
              by_cases h0 : kd = 0
              · exact .inr fun h1 => q ⟨h0, h1⟩
              · exact .inl h0
            rw [z]
            go_wp2
            go_meet
            exact ⟨_, _, unhide Hag, J1⟩
        case rest =>
          obtain ⟨c, d, hag, J1⟩ := hcut
          have c5 := cells5 J1.heap
          have hxl := lt_of_heap' J1.heap
          have hIc := J1.f2.ggI
          obtain ⟨hag1, hout⟩ := hag.next hIc.size pc 4
          have HMk := hag1.mkEq
          have hI1 := hIc.next pc 4
          have Hag1 := hide hag1
          obtain ⟨v, hv⟩ : ∃ v, nOut c pc 4 = v := ⟨_, rfl⟩
          obtain ⟨c1, hc1⟩ : ∃ c1, nSt c pc 4 = c1 := ⟨_, rfl⟩
          obtain ⟨d1, hd1⟩ : ∃ d1, nSt d pc 4 = d1 := ⟨_, rfl⟩
          rw [hc1, hd1] at Hag1 HMk
          rw [hc1] at hI1
          have HMk := hide HMk
          have HB := hide (mk_bd hI1)
          have Pb : Hid (∀ w_ L, Heap w w_ (HP.gg b c :: L) → Calls Try.prog 14 #[.pointer (some ⟨b, 0, none⟩), .int .u64 pc, .int .i64 4] w_ fun r w' => r = .returned (.int .u64 v) ∧ Heap w w' (HP.gg b c1 :: L)) := hide fun w_ L hh => by
            have := next_h hh pc 4 y0 y1
            rw [hv, hc1] at this
            exact this
          have Pr : Hid (∀ w_ L, Heap w w_ (HP.gg br d :: L) → Calls Try.prog 14 #[.pointer (some ⟨br, 0, none⟩), .int .u64 pc, .int .i64 4] w_ fun r w' => r = .returned (.int .u64 v) ∧ Heap w w' (HP.gg br d1 :: L)) := hide fun w_ L hh => by
            have := next_h hh pc 4 y0 y1
            rw [← hout, hv, hd1] at this
            exact this
          clear hv hc1 hd1 hout hag1 hag hIc hI1
          go_wp2_with fail
          obtain ⟨vals, e0, e1, e2, e3, e4, e5, e6, e7, e8, e9, e10, e11, e12, e13, e14, e15⟩ : ∃ vals : Nat → Value, vals 0 = .pointer (some ⟨b, 0, none⟩) ∧ vals 1 = .pointer (some ⟨xb, 1, none⟩) ∧ vals 2 = .int .u64 pc ∧ vals 3 = .int .u64 v ∧ vals 4 = .pointer (some ⟨br, 0, none⟩) ∧ vals 5 = .pointer (some ⟨xb, 1, none⟩) ∧ vals 6 = .int .u64 pc ∧ vals 7 = .int .u64 v ∧ vals 8 = .bool false ∧ vals 9 = .bool false ∧ vals 10 = .pointer (some ⟨b, 0, none⟩) ∧ vals 11 = .agg #[.int .u64 (c1 112), .int .u64 (c1 113), .int .u64 (c1 114), .int .u64 (c1 115), .int .i64 (c1 116), .int .u64 (c1 117)] ∧ vals 12 = .pointer (some ⟨br, 0, none⟩) ∧ vals 13 = .agg #[.int .u64 (c1 112), .int .u64 (c1 113), .int .u64 (c1 114), .int .u64 (c1 115), .int .i64 (c1 116), .int .u64 (c1 117)] ∧ vals 14 = .bool false ∧ vals 15 = .bool false :=
            ⟨fun k_ => match k_ with
              | 0 => .pointer (some ⟨b, 0, none⟩)
              | 1 => .pointer (some ⟨xb, 1, none⟩)
              | 2 => .int .u64 pc
              | 3 => .int .u64 v
              | 4 => .pointer (some ⟨br, 0, none⟩)
              | 5 => .pointer (some ⟨xb, 1, none⟩)
              | 6 => .int .u64 pc
              | 7 => .int .u64 v
              | 8 => .bool false
              | 9 => .bool false
              | 10 => .pointer (some ⟨b, 0, none⟩)
              | 11 => .agg #[.int .u64 (c1 112), .int .u64 (c1 113), .int .u64 (c1 114), .int .u64 (c1 115), .int .i64 (c1 116), .int .u64 (c1 117)]
              | 12 => .pointer (some ⟨br, 0, none⟩)
              | 13 => .agg #[.int .u64 (c1 112), .int .u64 (c1 113), .int .u64 (c1 114), .int .u64 (c1 115), .int .i64 (c1 116), .int .u64 (c1 117)]
              | 14 => .bool false
              | _ => .bool false
              , rfl, rfl, rfl, rfl, rfl, rfl, rfl, rfl, rfl, rfl, rfl, rfl, rfl, rfl, rfl, rfl⟩
          refine wp_region_V (J3 3 7 [8, 9, 10, 11, 12, 13, 14, 15] (fun a1 a2 w_ => Heap w w_ [HP.gg b (bif a1 then c1 else c), HP.gg br (bif a2 then d1 else d), HP.blk xb #[.int .i64 kd, .int .u64 pc, .int .u64 tgt, .int .i64 sz, .bool tk] 34])) vals fol (by kernel_rfl) (J3.start ?_) ?_ ?_
          · exact J1.f3.f3.drew
          · show wpV _ _ _ _ 0 (_ :: _) _
            refine wpV_cons e0 (j3val (by decide) (by decide) (by decide) (.pointer (some ⟨b, 0, none⟩)) fun a1 a2 w_ hK => ?_) ?_
            · exact ⟨by kernel_rfl, by kernel_rfl⟩
            refine wpV_cons e1 (j3val (by decide) (by decide) (by decide) (.pointer (some ⟨xb, 1, none⟩)) fun a1 a2 w_ hK => ?_) ?_
            · exact ⟨by kernel_rfl, by kernel_rfl⟩
            refine wpV_cons e2 (j3op (by decide) (by decide) (by decide) (Instr.loadAt 22 (.pointer (some ⟨xb, 1, none⟩))) (.int .u64 pc) fun a1 a2 w_ hK => ?_) ?_
            · exact ⟨by kernel_rfl, by kernel_rfl, run_load1 (by kernel_rfl) (cells5 hK.f3.heap).2.1⟩
            refine wpV_cons e3 (j3oneC (by decide) (by decide) 14 #[.pointer (some ⟨b, 0, none⟩), .int .u64 pc, .int .i64 4] (.int .u64 v) fun a2 w_ hK => ?_) ?_
            · exact ⟨by kernel_rfl, by kernel_rfl, (unhide Pb w_ _ hK).mono fun e w2 ⟨he, hh⟩ => ⟨he, hh⟩⟩
            refine wpV_cons e4 (j3val (by decide) (by decide) (by decide) (.pointer (some ⟨br, 0, none⟩)) fun a1 a2 w_ hK => ?_) ?_
            · exact ⟨by kernel_rfl, by kernel_rfl⟩
            refine wpV_cons e5 (j3val (by decide) (by decide) (by decide) (.pointer (some ⟨xb, 1, none⟩)) fun a1 a2 w_ hK => ?_) ?_
            · exact ⟨by kernel_rfl, by kernel_rfl⟩
            refine wpV_cons e6 (j3op (by decide) (by decide) (by decide) (Instr.loadAt 22 (.pointer (some ⟨xb, 1, none⟩))) (.int .u64 pc) fun a1 a2 w_ hK => ?_) ?_
            · exact ⟨by kernel_rfl, by kernel_rfl, run_load1 (by kernel_rfl) (cells5 hK.f3.heap).2.1⟩
            refine wpV_cons e7 (j3twoC (by decide) (by decide) 14 #[.pointer (some ⟨br, 0, none⟩), .int .u64 pc, .int .i64 4] (.int .u64 v) fun a1 w_ hK => ?_) ?_
            · exact ⟨by kernel_rfl, by kernel_rfl, (unhide Pr w_ _ hK.f2).mono fun e w2 ⟨he, hh⟩ => ⟨he, hh.f2⟩⟩
            refine wpV_cons e8 (j3lateO rfl (by decide) (by decide) (.inl ⟨by kernel_rfl, by kernel_rfl⟩) (binOp .neq 22 (.int .u64 v) (.int .u64 v)) (.bool false) fun w_ hK => ?_) ?_
            · exact ⟨by kernel_rfl, by kernel_rfl, neq22 _ w_⟩
            refine wpV_cons e9 (j3lateV rfl (by decide) (by decide) (.inr ⟨8, by decide, by kernel_rfl⟩) (.bool false) fun w_ hK => ?_) ?_
            · exact ⟨by kernel_rfl, by kernel_rfl⟩
            refine wpV_cons e10 (j3lateV rfl (by decide) (by decide) (.inr ⟨9, by decide, by kernel_rfl⟩) (.pointer (some ⟨b, 0, none⟩)) fun w_ hK => ?_) ?_
            · exact ⟨by kernel_rfl, by kernel_rfl⟩
            refine wpV_cons e11 (j3lateC rfl (by decide) (by decide) (.inr ⟨10, by decide, by kernel_rfl⟩) 11 #[.pointer (some ⟨b, 0, none⟩)] (.agg #[.int .u64 (c1 112), .int .u64 (c1 113), .int .u64 (c1 114), .int .u64 (c1 115), .int .i64 (c1 116), .int .u64 (c1 117)]) fun w_ hK => ?_) ?_
            · exact ⟨by kernel_rfl, by kernel_rfl, (mark_h hK).mono fun e w2 ⟨he, hh⟩ => ⟨he, hh⟩⟩
            refine wpV_cons e12 (j3lateV rfl (by decide) (by decide) (.inr ⟨9, by decide, by kernel_rfl⟩) (.pointer (some ⟨br, 0, none⟩)) fun w_ hK => ?_) ?_
            · exact ⟨by kernel_rfl, by kernel_rfl⟩
            refine wpV_cons e13 (j3lateC rfl (by decide) (by decide) (.inr ⟨12, by decide, by kernel_rfl⟩) 11 #[.pointer (some ⟨br, 0, none⟩)] (.agg #[.int .u64 (c1 112), .int .u64 (c1 113), .int .u64 (c1 114), .int .u64 (c1 115), .int .i64 (c1 116), .int .u64 (c1 117)]) fun w_ hK => ?_) ?_
            · exact ⟨by kernel_rfl, by kernel_rfl, (mark_h hK.f2).mono fun e w2 ⟨he, hh⟩ => ⟨by rw [he]; show Ending.returned (Value.agg (mkv d1)) = _; rw [unhide HMk]; rfl, hh.f2⟩⟩
            refine wpV_cons e14 (j3lateO rfl (by decide) (by decide) (.inr ⟨13, by decide, by kernel_rfl⟩) (do eqGuard .neq 31 (.tmp 66) (.tmp 68) (.agg #[.int .u64 (c1 112), .int .u64 (c1 113), .int .u64 (c1 114), .int .u64 (c1 115), .int .i64 (c1 116), .int .u64 (c1 117)]) (.agg #[.int .u64 (c1 112), .int .u64 (c1 113), .int .u64 (c1 114), .int .u64 (c1 115), .int .i64 (c1 116), .int .u64 (c1 117)]); binOp .neq 31 (.agg #[.int .u64 (c1 112), .int .u64 (c1 113), .int .u64 (c1 114), .int .u64 (c1 115), .int .i64 (c1 116), .int .u64 (c1 117)]) (.agg #[.int .u64 (c1 112), .int .u64 (c1 113), .int .u64 (c1 114), .int .u64 (c1 115), .int .i64 (c1 116), .int .u64 (c1 117)])) (.bool false) fun w_ hK => ?_) ?_
            · exact ⟨by kernel_rfl, by kernel_rfl, eqg31 (neql31 _ _ _ _ _ _ (unhide HB) w_)⟩
            refine wpV_cons e15 (j3lateV rfl (by decide) (by decide) (.inr ⟨9, by decide, by kernel_rfl⟩) (.bool false) fun w_ hK => ?_) wpV_nil
            · exact ⟨by kernel_rfl, by kernel_rfl⟩
          · intro w_ hJ2
            have h5 := hJ2.done (by decide) (by decide)
            simp only [cond_true] at h5
            clear hJ2 J1 c5
            simp only [fillG, Nat.zero_add, Nat.reduceAdd, e0, e1, e2, e3, e4, e5, e6, e7, e8, e9, e10, e11, e12, e13, e14, e15, Act.put, List.setIfInBounds_toArray, List.set_cons_succ, List.set_cons_zero]
            clear e0 e1 e2 e3 e4 e5 e6 e7 e8 e9 e10 e11 e12 e13 e14 e15
            go_wp2
            exact ⟨⟨k + 1, c1, d1, by go_num, by omega, unhide Hag1, h5.two⟩, by simp [intOf]; omega⟩
    · obtain rfl : k = n := by omega
      obtain ⟨E, hE⟩ := eql43 (c := c) (d := d) hJ.ggI hJ.f2.ggI
      have HE := hide hE
      have HC := hide (ctl_eq (c := c0 sa) (d := c) fun i h1 h2 => ((unhide Hag).left i h1 h2).symm)
      have HD := hide (ctl_eq (c := c0 sb) (d := d) fun i h1 h2 => ((unhide Hag).right i h1 h2).symm)
      clear hE
      go_wp2_with fail
      refine wp_region_F (fun w_ => Heap w w_ [HP.gg b c, HP.gg br d]) GN (fun k_ v_ w_ => match k_ with
          | 0 => v_ = .pointer (some ⟨b, 0, none⟩)
          | 1 => v_ = .agg (ctl (c)).toArray
          | 2 => v_ = .pointer (some ⟨br, 0, none⟩)
          | 3 => v_ = .agg (ctl (d)).toArray
          | 4 => v_ = .bool E
          | 5 => v_ = .int .u64 sa
          | 6 => ∃ bx, v_ = .pointer (some ⟨bx, 0, none⟩) ∧ w_.heap[bx]? = some (.cells (gl (c0 sa)).toArray 56 (0, 0))
          | 7 => v_ = .agg (ctl (c)).toArray
          | 8 => v_ = .int .u64 sb
          | 9 => ∃ bx, v_ = .pointer (some ⟨bx, 0, none⟩) ∧ w_.heap[bx]? = some (.cells (gl (c0 sb)).toArray 56 (0, 0))
          | 10 => v_ = .agg (ctl (d)).toArray
          | 11 => v_ = .bool E
          | 12 => v_ = .bool true
          | _ => v_ = .bool true) fol (by kernel_rfl) ?_ ?_ ?_ ?_
      · exact hJ.drew
      · intro k_ v_ w_ w2_ h1 hg
        split at h1 <;> first | exact h1 | (obtain ⟨bx, h1, h2⟩ := h1; exact ⟨bx, h1, hg.heap h2⟩)
      · intro vals
        show wpG _ _ _ _ _ _ 0 (_ :: _) _
        refine wpG_cons (gval (.pointer (some ⟨b, 0, none⟩)) GN.refl fun w_ hJ hd => ?_) ?_
        · exact ⟨by kernel_rfl, by kernel_rfl, rfl⟩
        refine wpG_cons (gcall 22 #[.pointer (some ⟨b, 0, none⟩)] fun w_ hJ hd => ?_) ?_
        · have e0 : vals 0 = _ := hd 0 (by decide) (by kernel_rfl)
          rw [e0]
          exact ⟨by kernel_rfl, by kernel_rfl, (counters_any (Heap.gg.1 hJ).2.heap).mono fun e w2 ⟨he, hg⟩ => ⟨_, he, hJ.grown hg, hg, rfl⟩⟩
        refine wpG_cons (gval (.pointer (some ⟨br, 0, none⟩)) GN.refl fun w_ hJ hd => ?_) ?_
        · exact ⟨by kernel_rfl, by kernel_rfl, rfl⟩
        refine wpG_cons (gcall 22 #[.pointer (some ⟨br, 0, none⟩)] fun w_ hJ hd => ?_) ?_
        · have e2 : vals 2 = _ := hd 2 (by decide) (by kernel_rfl)
          rw [e2]
          exact ⟨by kernel_rfl, by kernel_rfl, (counters_any (Heap.gg.1 hJ.f2).2.heap).mono fun e w2 ⟨he, hg⟩ => ⟨_, he, hJ.grown hg, hg, rfl⟩⟩
        refine wpG_cons (gop ((do eqGuard .eql 43 (.tmp 72) (.tmp 74) (.agg (ctl (c)).toArray) (.agg (ctl (d)).toArray); binOp .eql 43 (.agg (ctl (c)).toArray) (.agg (ctl (d)).toArray))) (.bool E) GN.refl fun w_ hJ hd => ?_) ?_
        · have e1 : vals 1 = _ := hd 1 (by decide) (by kernel_rfl)
          have e3 : vals 3 = _ := hd 3 (by decide) (by kernel_rfl)
          rw [e1, e3]
          exact ⟨by kernel_rfl, by kernel_rfl, eqg43 (unhide HE w_), rfl⟩
        refine wpG_cons (gval (.int .u64 sa) GN.refl fun w_ hJ hd => ?_) ?_
        · exact ⟨by kernel_rfl, by kernel_rfl, rfl⟩
        refine wpG_cons (gcall 9 #[.int .u64 sa] fun w_ hJ hd => ?_) ?_
        · have e5 : vals 5 = _ := hd 5 (by decide) (by kernel_rfl)
          rw [e5]
          exact ⟨by kernel_rfl, by kernel_rfl, (new_h (Heap.nil w_) sa (unhide Hs).1 (unhide Hs).2).mono fun e w2 ⟨bx, he, hg⟩ => ⟨_, he, hJ.grown (gn_of_below hg.below), gn_of_below hg.below, bx, rfl, (Heap.gg.1 hg).2.heap⟩⟩
        refine wpG_cons (gcall 22 #[vals 6] fun w_ hJ hd => ?_) ?_
        · have e6 : ∃ bx, (vals 6) = .pointer (some ⟨bx, 0, none⟩) ∧ w_.heap[bx]? = some (.cells (gl (c0 sa)).toArray 56 (0, 0)) := hd 6 (by decide) (by kernel_rfl)
          have ex6 := e6
          exact ⟨by kernel_rfl, by kernel_rfl, ex6.elim fun bx hx => hx.1 ▸ (counters_any hx.2).mono fun e w2 ⟨he, hg⟩ => ⟨_, he, hJ.grown hg, hg, congrArg (fun l : List Value => Value.agg l.toArray) (unhide HC)⟩⟩
        refine wpG_cons (gval (.int .u64 sb) GN.refl fun w_ hJ hd => ?_) ?_
        · exact ⟨by kernel_rfl, by kernel_rfl, rfl⟩
        refine wpG_cons (gcall 9 #[.int .u64 sb] fun w_ hJ hd => ?_) ?_
        · have e8 : vals 8 = _ := hd 8 (by decide) (by kernel_rfl)
          rw [e8]
          exact ⟨by kernel_rfl, by kernel_rfl, (new_h (Heap.nil w_) sb (unhide Ht).1 (unhide Ht).2).mono fun e w2 ⟨bx, he, hg⟩ => ⟨_, he, hJ.grown (gn_of_below hg.below), gn_of_below hg.below, bx, rfl, (Heap.gg.1 hg).2.heap⟩⟩
        refine wpG_cons (gcall 22 #[vals 9] fun w_ hJ hd => ?_) ?_
        · have e9 : ∃ bx, (vals 9) = .pointer (some ⟨bx, 0, none⟩) ∧ w_.heap[bx]? = some (.cells (gl (c0 sb)).toArray 56 (0, 0)) := hd 9 (by decide) (by kernel_rfl)
          have ex9 := e9
          exact ⟨by kernel_rfl, by kernel_rfl, ex9.elim fun bx hx => hx.1 ▸ (counters_any hx.2).mono fun e w2 ⟨he, hg⟩ => ⟨_, he, hJ.grown hg, hg, congrArg (fun l : List Value => Value.agg l.toArray) (unhide HD)⟩⟩
        refine wpG_cons (gop ((do eqGuard .eql 43 (.tmp 78) (.tmp 81) (.agg (ctl (c)).toArray) (.agg (ctl (d)).toArray); binOp .eql 43 (.agg (ctl (c)).toArray) (.agg (ctl (d)).toArray))) (.bool E) GN.refl fun w_ hJ hd => ?_) ?_
        · have e7 : vals 7 = _ := hd 7 (by decide) (by kernel_rfl)
          have e10 : vals 10 = _ := hd 10 (by decide) (by kernel_rfl)
          rw [e7, e10]
          exact ⟨by kernel_rfl, by kernel_rfl, eqg43 (unhide HE w_), rfl⟩
        refine wpG_cons (gval (.bool true) GN.refl fun w_ hJ hd => ?_) ?_
        · have e4 : vals 4 = _ := hd 4 (by decide) (by kernel_rfl)
          have e11 : vals 11 = _ := hd 11 (by decide) (by kernel_rfl)
          rw [e4, e11]
          cases E <;> exact ⟨by kernel_rfl, by kernel_rfl, rfl⟩
        refine wpG_cons (gval (.bool true) GN.refl fun w_ hJ hd => ?_) wpG_nil
        · have e12 : vals 12 = _ := hd 12 (by decide) (by kernel_rfl)
          rw [e12]
          exact ⟨by kernel_rfl, by kernel_rfl, rfl⟩
      · intro vals w_ hJ hf
        have e0 : vals 0 = _ := hf 0 (by decide)
        have e1 : vals 1 = _ := hf 1 (by decide)
        have e2 : vals 2 = _ := hf 2 (by decide)
        have e3 : vals 3 = _ := hf 3 (by decide)
        have e4 : vals 4 = _ := hf 4 (by decide)
        have e5 : vals 5 = _ := hf 5 (by decide)
        have e7 : vals 7 = _ := hf 7 (by decide)
        have e8 : vals 8 = _ := hf 8 (by decide)
        have e10 : vals 10 = _ := hf 10 (by decide)
        have e11 : vals 11 = _ := hf 11 (by decide)
        have e12 : vals 12 = _ := hf 12 (by decide)
        have e13 : vals 13 = _ := hf 13 (by decide)
        simp only [fillG, Nat.zero_add, Nat.reduceAdd, e0, e1, e2, e3, e4, e5, e7, e8, e10, e11, e12, e13, Act.put, List.setIfInBounds_toArray, List.set_cons_succ, List.set_cons_zero]
        clear e0 e1 e2 e3 e4 e5 e7 e8 e10 e11 e12 e13 hf
        generalize vals 6 = v6
        generalize vals 9 = v9
        go_wp2
        go_ret
        exact ⟨rfl, hJ.below⟩
end Go.Proofs.Ytabkkeniaepibaa
