/- Layer 20: the walk of FetchChains. -/
import Derived.Test.YtblbgalpkodibaaDoorF8
import Derived.Test.YtblbgalpkodibaaDoorFM
import Derived.Deep.CutRange
import Derived.Deep.CutBlock
namespace Go.Proofs.YtblbgalpkodibaaDoor
open Go.RowKit Go.Shelf
attribute [local go_sem] Oper.semAt_some
theorem stepF_at {w wr : World} {A : Option Addr} {n k : Nat} (hS : SlArg [some .i64, some .i64, some .u64, some .u64] w A n) (hb : Below w.heap.size w wr) (hk : k < n) : ∃ ab ao, A = some ⟨ab, ao, none⟩ ∧ ∃ (kd nn pc' to' : Int),
    (wr.cell? ⟨ab, ao + k * 4, none⟩ = some (.int .i64 kd) ∧ wr.cell? ⟨ab, ao + k * 4 + 1, none⟩ = some (.int .i64 nn) ∧ wr.cell? ⟨ab, ao + k * 4 + 2, none⟩ = some (.int .u64 pc') ∧ wr.cell? ⟨ab, ao + k * 4 + 3, none⟩ = some (.int .u64 to')) ∧
    (-9223372036854775808 ≤ nn ∧ nn < 9223372036854775808) ∧ (0 ≤ pc' ∧ pc' < 18446744073709551616) ∧ (0 ≤ to' ∧ to' < 18446744073709551616) ∧ ab < wr.heap.size := by
  obtain ⟨ab, ao, hA, hab, hX⟩ := hS (by omega)
  obtain ⟨cs, hf, hc⟩ := hX k hk
  have c0 := cell_int hf hc (j := 0) rfl
  have c1 := cell_int hf hc (j := 1) rfl
  have c2 := cell_int hf hc (j := 2) rfl
  have c3 := cell_int hf hc (j := 3) rfl
  simp only [List.length_cons, List.length_nil, Nat.zero_add, Nat.reduceAdd, Nat.add_zero] at c0 c1 c2 c3
  have up : ∀ {o : Nat} {v : Value}, w.cell? ⟨ab, o, none⟩ = some v → wr.cell? ⟨ab, o, none⟩ = some v := fun h => (hb.cell (p := ⟨ab, _, none⟩) hab).trans h
  exact ⟨ab, ao, hA, _, _, _, _, ⟨up c0.1, up c1.1, up c2.1, up c3.1⟩, i64' c1.2, b64' c2.2, b64' c3.2, Nat.lt_of_lt_of_le hab hb.size⟩
def dms (Ds : List Nat) : List HP := Ds.map fun D => HP.obj D (.deferred (some []))
def dfs (Ds : List Nat) : List Deferred := Ds.map fun D => { target := .collected D, args := #[] }
theorem res7 {tmps : Array Value} {w : World} {r : Nat} {v : Bool} (h2 : tmps.getD 6 undef = .pointer (some ⟨r, 0, none⟩)) (hb : w.heap[r]? = some (.cells #[.bool v] 4 (0, 0))) :
    (results Tryd.f7 tmps).run Tryd.prog w = .ok (.bool v) w := by
  have hc := (cells1 hb).1
  have h2' : tmps[6]?.getD undef = .pointer (some ⟨r, 0, none⟩) := by simpa using h2
  have ha : (isAgg 4).run Tryd.prog w = .ok false w := by kernel_rfl
  have hl4 : (loadVar 4 ⟨r, 0, none⟩).run Tryd.prog w = .ok (.bool v) w := by
    simp only [loadVar, Sem.run_bind, ha, Result.andThen_ok, Bool.false_eq_true, if_false, run_load, hc]
  simp only [results, Tryd.results7]
  simp [Sem.run_bind, Result.andThen, h2', asAddr, hl4]
theorem takeF_n {F : Fr} (h : F.q = []) : takeF F = F := by
  obtain ⟨a, b, c, d, q⟩ := F
  subst h
  rfl
section
set_option maxRecDepth 100000 in
set_option maxHeartbeats 4000000 in
theorem chains_walk (seed pc : Int) (hs : 0 ≤ seed ∧ seed < 18446744073709551616) (hp : 0 ≤ pc ∧ pc < 18446744073709551616)
    (A : Option Addr) (n cap : Nat) (W : World) (hT : Tab W) (hS : SlArg [some .i64, some .i64, some .u64, some .u64] W A n) (hn : n ≤ 70368744177664) :
    Calls Tryd.prog 7 #[.int .u64 seed, .int .u64 pc, .slice A n cap] W fun e w' => e = .returned (.bool true) ∧ Below W.heap.size W w' := by
  have HS := hide hS
  have HT := hide hT
  clear hS hT
  have e1 := u64_not1 pc hp.1 hp.2
  rw [show pc / 2 * 2 = evn pc from rfl] at e1
  refine (callsIn_wide (n := 6)).1 ?_
  refine callsIn_of_wp_marks Tryd.func7 rfl trivial ?_ rfl
  simp only [Tryd.ntmps7, List.size_toArray, List.length_cons, List.length_nil, Nat.reduceAdd, Nat.reduceSub, Array.replicate_succ, Array.replicate_zero, List.push_toArray, List.append_toArray, List.nil_append, List.cons_append]
  refine (wpIn_wide (n := 6)).2 ?_
  have H0 := (Heap.nil W).new ([.bool false] : List Value).toArray 4
  obtain ⟨r, hr⟩ : ∃ r, W.heap.size = r := ⟨_, rfl⟩
  rw [hr] at H0
  obtain ⟨w1, hw1⟩ : ∃ w1, W.alloc (.cells ([.bool false] : List Value).toArray 4) = w1 := ⟨_, rfl⟩
  rw [hw1] at H0
  have H := hide H0
  clear H0
  go_wp2_with fail
  refine (fixed_f (unhide HT) (unhide H)).mono ?_
  rintro rr w1 ⟨rfl, h1⟩
  have H := hide h1
  clear h1 hw1
  go_wp2_with fail
  refine (new_h (unhide H) seed hs.1 hs.2).mono ?_
  rintro rr w2 ⟨g, rfl, h1⟩
  generalize c0 seed = c at h1
  have H := hide h1
  clear h1
  go_wp2_with fail
  refine (new_f (g := g) (unhide H) pc hp.1 hp.2).mono ?_
  rintro rr w3 ⟨b, rfl, h1⟩
  have hch : Chain (evn pc) (newF pc).q (newF pc).at_ (newF pc).stop := ⟨rfl, rfl⟩
  have ha := evn_bd hp
  generalize newF pc = F at h1 hch
  generalize evn pc = a at e1 hch ha
  have Hch := hide hch
  have H := hide h1
  have Hr := hide hr
  clear h1 hch hr
  go_wp2_with fail
  refine wp_loop (fun a_ wr => ∃ (Ds : List Nat) (u3 u4 u5 u9 u10 u11 u12 u13 u14 u15 u16 u17 u18 u19 u20 u21 u22 u23 u24 u25 u26 u27 u28 u29 u30 u31 u32 u33 u34 u35 u36 u37 u38 u39 u40 u41 u42 u43 u44 u45 u46 u47 u48 u49 u50 u51 u52 u53 u54 u55 u56 u57 u58 u59 u60 u61 u62 u63 u64 u65 u66 u67 u68 u69 u70 u71 u72 u73 u74 u75 u76 u77 u78 u79 u80 u81 u82 u83 u84 u85 u86 u87 u88 u89 u90 u91 u92 u93 u94 u95 u96 u97 u98 u99 u100 u101 u102 u103 u104 u105 u106 u107 u108 u109 u110 u111 u112 u113 u114 u115 : Value), (∃ (k : Nat) (F : Fr) (c : St) (nx : Int), u9 = .int .u64 nx ∧ u10 = .int .i64 k ∧ k ≤ n ∧ (0 ≤ nx ∧ nx < 18446744073709551616) ∧ Chain nx F.q F.at_ F.stop ∧ Heap W wr (HP.fr b g F :: HP.gg g c :: HP.blk r ([.bool false] : List Value).toArray 4 :: dms Ds)) ∧ a_ = { tmps := ([.int .u64 seed, .int .u64 pc, .slice A n cap, u3, u4, u5, .pointer (some ⟨r, 0, none⟩), .pointer (some ⟨g, 0, none⟩), .pointer (some ⟨b, 0, none⟩), u9, u10, u11, u12, u13, u14, u15, u16, u17, u18, u19, u20, u21, u22, u23, u24, u25, u26, u27, u28, u29, u30, u31, u32, u33, u34, u35, u36, u37, u38, u39, u40, u41, u42, u43, u44, u45, u46, u47, u48, u49, u50, u51, u52, u53, u54, u55, u56, u57, u58, u59, u60, u61, u62, u63, u64, u65, u66, u67, u68, u69, u70, u71, u72, u73, u74, u75, u76, u77, u78, u79, u80, u81, u82, u83, u84, u85, u86, u87, u88, u89, u90, u91, u92, u93, u94, u95, u96, u97, u98, u99, u100, u101, u102, u103, u104, u105, u106, u107, u108, u109, u110, u111, u112, u113, u114, u115] : List Value).toArray, defers := dfs Ds }) (fun a_ _ => n - (intOf (a_.tmps.getD 10 undef)).toNat) ?start ?round
  case start =>
    refine ⟨[], ?_⟩
    repeat apply Exists.intro
    refine ⟨?_, rfl⟩
    exact ⟨0, F, c, a, rfl, rfl, Nat.zero_le _, ha, unhide Hch, unhide H⟩
  case round =>
    clear H Hch e1 ha
    intro a_ wr hinv
    obtain ⟨Ds, hinv⟩ := hinv
    obtain ⟨u3, hinv⟩ := hinv
    obtain ⟨u4, hinv⟩ := hinv
    obtain ⟨u5, hinv⟩ := hinv
    obtain ⟨u9, hinv⟩ := hinv
    obtain ⟨u10, hinv⟩ := hinv
    obtain ⟨u11, hinv⟩ := hinv
    obtain ⟨u12, hinv⟩ := hinv
    obtain ⟨u13, hinv⟩ := hinv
    obtain ⟨u14, hinv⟩ := hinv
    obtain ⟨u15, hinv⟩ := hinv
    obtain ⟨u16, hinv⟩ := hinv
    obtain ⟨u17, hinv⟩ := hinv
    obtain ⟨u18, hinv⟩ := hinv
    obtain ⟨u19, hinv⟩ := hinv
    obtain ⟨u20, hinv⟩ := hinv
    obtain ⟨u21, hinv⟩ := hinv
    obtain ⟨u22, hinv⟩ := hinv
    obtain ⟨u23, hinv⟩ := hinv
    obtain ⟨u24, hinv⟩ := hinv
    obtain ⟨u25, hinv⟩ := hinv
    obtain ⟨u26, hinv⟩ := hinv
    obtain ⟨u27, hinv⟩ := hinv
    obtain ⟨u28, hinv⟩ := hinv
    obtain ⟨u29, hinv⟩ := hinv
    obtain ⟨u30, hinv⟩ := hinv
    obtain ⟨u31, hinv⟩ := hinv
    obtain ⟨u32, hinv⟩ := hinv
    obtain ⟨u33, hinv⟩ := hinv
    obtain ⟨u34, hinv⟩ := hinv
    obtain ⟨u35, hinv⟩ := hinv
    obtain ⟨u36, hinv⟩ := hinv
    obtain ⟨u37, hinv⟩ := hinv
    obtain ⟨u38, hinv⟩ := hinv
    obtain ⟨u39, hinv⟩ := hinv
    obtain ⟨u40, hinv⟩ := hinv
    obtain ⟨u41, hinv⟩ := hinv
    obtain ⟨u42, hinv⟩ := hinv
    obtain ⟨u43, hinv⟩ := hinv
    obtain ⟨u44, hinv⟩ := hinv
    obtain ⟨u45, hinv⟩ := hinv
    obtain ⟨u46, hinv⟩ := hinv
    obtain ⟨u47, hinv⟩ := hinv
    obtain ⟨u48, hinv⟩ := hinv
    obtain ⟨u49, hinv⟩ := hinv
    obtain ⟨u50, hinv⟩ := hinv
    obtain ⟨u51, hinv⟩ := hinv
    obtain ⟨u52, hinv⟩ := hinv
    obtain ⟨u53, hinv⟩ := hinv
    obtain ⟨u54, hinv⟩ := hinv
    obtain ⟨u55, hinv⟩ := hinv
    obtain ⟨u56, hinv⟩ := hinv
    obtain ⟨u57, hinv⟩ := hinv
    obtain ⟨u58, hinv⟩ := hinv
    obtain ⟨u59, hinv⟩ := hinv
    obtain ⟨u60, hinv⟩ := hinv
    obtain ⟨u61, hinv⟩ := hinv
    obtain ⟨u62, hinv⟩ := hinv
    obtain ⟨u63, hinv⟩ := hinv
    obtain ⟨u64, hinv⟩ := hinv
    obtain ⟨u65, hinv⟩ := hinv
    obtain ⟨u66, hinv⟩ := hinv
    obtain ⟨u67, hinv⟩ := hinv
    obtain ⟨u68, hinv⟩ := hinv
    obtain ⟨u69, hinv⟩ := hinv
    obtain ⟨u70, hinv⟩ := hinv
    obtain ⟨u71, hinv⟩ := hinv
    obtain ⟨u72, hinv⟩ := hinv
    obtain ⟨u73, hinv⟩ := hinv
    obtain ⟨u74, hinv⟩ := hinv
    obtain ⟨u75, hinv⟩ := hinv
    obtain ⟨u76, hinv⟩ := hinv
    obtain ⟨u77, hinv⟩ := hinv
    obtain ⟨u78, hinv⟩ := hinv
    obtain ⟨u79, hinv⟩ := hinv
    obtain ⟨u80, hinv⟩ := hinv
    obtain ⟨u81, hinv⟩ := hinv
    obtain ⟨u82, hinv⟩ := hinv
    obtain ⟨u83, hinv⟩ := hinv
    obtain ⟨u84, hinv⟩ := hinv
    obtain ⟨u85, hinv⟩ := hinv
    obtain ⟨u86, hinv⟩ := hinv
    obtain ⟨u87, hinv⟩ := hinv
    obtain ⟨u88, hinv⟩ := hinv
    obtain ⟨u89, hinv⟩ := hinv
    obtain ⟨u90, hinv⟩ := hinv
    obtain ⟨u91, hinv⟩ := hinv
    obtain ⟨u92, hinv⟩ := hinv
    obtain ⟨u93, hinv⟩ := hinv
    obtain ⟨u94, hinv⟩ := hinv
    obtain ⟨u95, hinv⟩ := hinv
    obtain ⟨u96, hinv⟩ := hinv
    obtain ⟨u97, hinv⟩ := hinv
    obtain ⟨u98, hinv⟩ := hinv
    obtain ⟨u99, hinv⟩ := hinv
    obtain ⟨u100, hinv⟩ := hinv
    obtain ⟨u101, hinv⟩ := hinv
    obtain ⟨u102, hinv⟩ := hinv
    obtain ⟨u103, hinv⟩ := hinv
    obtain ⟨u104, hinv⟩ := hinv
    obtain ⟨u105, hinv⟩ := hinv
    obtain ⟨u106, hinv⟩ := hinv
    obtain ⟨u107, hinv⟩ := hinv
    obtain ⟨u108, hinv⟩ := hinv
    obtain ⟨u109, hinv⟩ := hinv
    obtain ⟨u110, hinv⟩ := hinv
    obtain ⟨u111, hinv⟩ := hinv
    obtain ⟨u112, hinv⟩ := hinv
    obtain ⟨u113, hinv⟩ := hinv
    obtain ⟨u114, hinv⟩ := hinv
    obtain ⟨u115, hinv⟩ := hinv
    obtain ⟨hrel, ha⟩ := hinv
    subst ha
    try dsimp only
    obtain ⟨k, F, c, nx, rfl, rfl, hk, hnx, hch, hJ⟩ := hrel
    by_cases hlt : k < n
    · obtain ⟨ab, ao, rfl, kd, nn, pc', to', ⟨x0, x1, x2, x3⟩, hnb, hpb, htb, hab⟩ := stepF_at (unhide HS) hJ.below hlt
      have J0 := Heap.sort (L1 := [_, _, _, _]) (L2 := [_, _, _, _]) (M := dms Ds) (hJ.new ([.int .i64 kd, .int .i64 nn, .int .u64 pc', .int .u64 to'] : List Value).toArray 59) [1, 2, 0, 3] rfl rfl (by decide)
      obtain ⟨xb, hxb⟩ : ∃ xb, wr.heap.size = xb := ⟨_, rfl⟩
      rw [hxb] at J0
      obtain ⟨wx, hwx⟩ : ∃ wx, wr.alloc (.cells ([.int .i64 kd, .int .i64 nn, .int .u64 pc', .int .u64 to'] : List Value).toArray 59) = wx := ⟨_, rfl⟩
      rw [hwx] at J0
      have H := hide J0
      have Hch := hide hch
      clear hJ J0 hch
      go_upto_region 10 with fail
      clear x0 x1 x2 x3 hab hxb hwx
      have x0 : wx.cell? ⟨xb, 0, none⟩ = some (.int .i64 kd) := (cell_blk (Heap.heap (unhide H).f3) 0).1
      have x1 : wx.cell? ⟨xb, 1, none⟩ = some (.int .i64 nn) := (cell_blk (Heap.heap (unhide H).f3) 1).1
      have x2 : wx.cell? ⟨xb, 2, none⟩ = some (.int .u64 pc') := (cell_blk (Heap.heap (unhide H).f3) 2).1
      have x3 : wx.cell? ⟨xb, 3, none⟩ = some (.int .u64 to') := (cell_blk (Heap.heap (unhide H).f3) 3).1
      have hxl := lt_of_heap' (Heap.heap (unhide H).f3)
      go_upto_block 2 with fail
      go_cut [9, 10, 11] from 9 to 98 (fun s9 s10 s11 wy => ∃ (F : Fr) (c : St) (nx : Int), s9 = .int .u64 nx ∧ s10 = .int .i64 k ∧ (0 ≤ nx ∧ nx < 18446744073709551616) ∧ Chain nx F.q F.at_ F.stop ∧ Heap W wy (HP.fr b g F :: HP.gg g c :: HP.blk r ([.bool false] : List Value).toArray 4 :: dms Ds))
      case first =>
        by_cases q2 : kd = 2
        · subst q2
          have hii := (unhide H).frI
          have hT_ := hide (take_f (unhide H))
          clear x0 x1 x2 x3 hxl
          rcases hq : F.q with _ | ⟨y, q'⟩
          · rw [show headI F = zeroI from by unfold headI; rw [hq]; rfl, show (!F.q.isEmpty) = false from by rw [hq]; rfl, takeF_n hq] at hT_
            obtain ⟨y, hy⟩ : ∃ y, zeroI = y := ⟨_, rfl⟩
            rw [hy] at hT_
            clear hy hii hq
            go_wp2_with fail
            refine (unhide hT_).mono ?_
            rintro r wt ⟨rfl, h1⟩
            clear hT_
            have hN := h1.clone #[.int .u64 0, .int .u32 0, .int .u32 0, .int .i64 0, .int .u64 0, .int .u64 0, .int .u64 0, .int .u64 0, .int .u64 0, .int .u64 0, .int .u64 0, .int .i64 0, .int .u64 0] 38 (itl (y)) rfl
            obtain ⟨kx, hkx⟩ : ∃ k, wt.heap.size = k := ⟨_, rfl⟩
            rw [hkx] at hN
            have HN := hide hN
            have Ht := hide (show (wt.alloc (.cells #[.int .u64 0, .int .u32 0, .int .u32 0, .int .i64 0, .int .u64 0, .int .u64 0, .int .u64 0, .int .u64 0, .int .u64 0, .int .u64 0, .int .u64 0, .int .i64 0, .int .u64 0] 38)).there kx 0 (itl (y)).toArray.size from by rw [← hkx]; exact there_new _ _ _ rfl)
            clear hN h1
            go_wp2_with (refine wpList_store_mid rfl 38 (.tmp 12) (.tmp 49) rfl kx 0 (itl (y)).toArray rfl rfl ?_ (by kernel_rfl) (all_oneCell_toArray (itl_cell (y))) ?_
                         rotate_left
                         refine unhide ?_)
            rotate_left
            · exact unhide Ht
            have hN := unhide HN
            change Hid (wpList _ _ _ _ _ ((wt.alloc (.cells #[.int .u64 0, .int .u32 0, .int .u32 0, .int .i64 0, .int .u64 0, .int .u64 0, .int .u64 0, .int .u64 0, .int .u64 0, .int .u64 0, .int .u64 0, .int .i64 0, .int .u64 0] 38)).setCells kx 0 (itl (y))))
            generalize (wt.alloc (.cells #[.int .u64 0, .int .u32 0, .int .u32 0, .int .i64 0, .int .u64 0, .int .u64 0, .int .u64 0, .int .u64 0, .int .u64 0, .int .u64 0, .int .u64 0, .int .i64 0, .int .u64 0] 38)).setCells kx 0 (itl (y)) = wu at hN ⊢
            clear HN Ht hkx
            have H := hide hN.f2
            clear hN
            refine hide ?_
            go_wp2_with fail
            go_meet
            exact ⟨F, c, nx, rfl, rfl, hnx, unhide Hch, (Heap.sort (L1 := [_, _, _, _, _]) (L2 := [_, _, _, _, _]) (M := dms Ds) (unhide H) [1, 3, 0, 2, 4] rfl rfl (by decide)).tail.tail⟩
          · obtain ⟨F2, hF2⟩ : ∃ F2, takeF F = F2 := ⟨_, rfl⟩
            have hq2 : F2.q = q' := by rw [← hF2]; unfold takeF; rw [hq]; rfl
            have ha2 : F2.at_ = F.at_ := by rw [← hF2]; rfl
            have hs2 : F2.stop = F.stop := by rw [← hF2]; rfl
            have hch := unhide Hch
            rw [hq] at hch
            obtain ⟨hpc, hch⟩ := hch
            have hnb2 := (hii.all y (by rw [hq]; simp)).nxt
            rw [show headI F = y from by unfold headI; rw [hq]; rfl, show (!F.q.isEmpty) = true from by rw [hq]; rfl, hF2] at hT_
            rw [← hq2, ← ha2, ← hs2] at hch
            have HC := hide hch
            have Hpc := hide hpc
            clear hii hq hF2 hq2 ha2 hs2 hch hpc Hch
            go_wp2_with fail
            refine (unhide hT_).mono ?_
            rintro r wt ⟨rfl, h1⟩
            clear hT_
            have hN := h1.clone #[.int .u64 0, .int .u32 0, .int .u32 0, .int .i64 0, .int .u64 0, .int .u64 0, .int .u64 0, .int .u64 0, .int .u64 0, .int .u64 0, .int .u64 0, .int .i64 0, .int .u64 0] 38 (itl (y)) rfl
            obtain ⟨kx, hkx⟩ : ∃ k, wt.heap.size = k := ⟨_, rfl⟩
            rw [hkx] at hN
            have HN := hide hN
            have Ht := hide (show (wt.alloc (.cells #[.int .u64 0, .int .u32 0, .int .u32 0, .int .i64 0, .int .u64 0, .int .u64 0, .int .u64 0, .int .u64 0, .int .u64 0, .int .u64 0, .int .u64 0, .int .i64 0, .int .u64 0] 38)).there kx 0 (itl (y)).toArray.size from by rw [← hkx]; exact there_new _ _ _ rfl)
            clear hN h1
            go_wp2_with (refine wpList_store_mid rfl 38 (.tmp 12) (.tmp 49) rfl kx 0 (itl (y)).toArray rfl rfl ?_ (by kernel_rfl) (all_oneCell_toArray (itl_cell (y))) ?_
                         rotate_left
                         refine unhide ?_)
            rotate_left
            · exact unhide Ht
            have hN := unhide HN
            change Hid (wpList _ _ _ _ _ ((wt.alloc (.cells #[.int .u64 0, .int .u32 0, .int .u32 0, .int .i64 0, .int .u64 0, .int .u64 0, .int .u64 0, .int .u64 0, .int .u64 0, .int .u64 0, .int .u64 0, .int .i64 0, .int .u64 0] 38)).setCells kx 0 (itl (y))))
            generalize (wt.alloc (.cells #[.int .u64 0, .int .u32 0, .int .u32 0, .int .i64 0, .int .u64 0, .int .u64 0, .int .u64 0, .int .u64 0, .int .u64 0, .int .u64 0, .int .u64 0, .int .i64 0, .int .u64 0] 38)).setCells kx 0 (itl (y)) = wu at hN ⊢
            clear HN Ht hkx
            have H := hide hN.f2
            clear hN
            refine hide ?_
            have y0 : wu.cell? ⟨kx, 0, none⟩ = some (.int .u64 y.pc) := (cell_blk (Heap.heap (unhide H).f2) 0).1
            have y4 : wu.cell? ⟨kx, 4, none⟩ = some (.int .u64 y.cause) := (cell_blk (Heap.heap (unhide H).f2) 4).1
            have y6 : wu.cell? ⟨kx, 6, none⟩ = some (.int .u64 y.nxt) := (cell_blk (Heap.heap (unhide H).f2) 6).1
            have hkxl := lt_of_heap' (Heap.heap (unhide H).f2)
            rw [unhide Hpc] at y0
            rcases unhide HC with ⟨hc0, hch⟩ | ⟨hc0, hqe, hst⟩
            · rw [hc0] at y4
              have Hch := hide hch
              clear hc0 hch HC
              go_wp2_with fail
              go_meet
              exact ⟨F2, c, y.nxt, rfl, rfl, hnb2, unhide Hch, (Heap.sort (L1 := [_, _, _, _, _]) (L2 := [_, _, _, _, _]) (M := dms Ds) (unhide H) [1, 3, 0, 2, 4] rfl rfl (by decide)).tail.tail⟩
            · have zn : (y.cause != 0) = true := by simp [hc0]
              have hW := hide (want_f (unhide H))
              rw [show canF F2 = false from by unfold canF; rw [hst]; rfl] at hW
              clear hqe hst HC
              go_wp2_with fail
              refine (unhide hW).mono ?_
              rintro rr w5 ⟨rfl, h1⟩
              clear y0 y4 y6 hkxl hW H
              have x0 : w5.cell? ⟨xb, 0, none⟩ = some (.int .i64 2) := (cell_blk (Heap.heap h1.f4) 0).1
              have x1 : w5.cell? ⟨xb, 1, none⟩ = some (.int .i64 nn) := (cell_blk (Heap.heap h1.f4) 1).1
              have x2 : w5.cell? ⟨xb, 2, none⟩ = some (.int .u64 pc') := (cell_blk (Heap.heap h1.f4) 2).1
              have x3 : w5.cell? ⟨xb, 3, none⟩ = some (.int .u64 to') := (cell_blk (Heap.heap h1.f4) 3).1
              have hxl := lt_of_heap' (Heap.heap h1.f4)
              have H := hide h1
              clear h1
              go_wp2_with fail
              refine (redirect_f (unhide H) pc' hpb.1 hpb.2).mono ?_
              rintro rr w6 ⟨rfl, h1⟩
              have hch : Chain (evn pc') (newF pc').q (newF pc').at_ (newF pc').stop := ⟨rfl, rfl⟩
              have hnx2 := evn_bd hpb
              have e2 := u64_not1 pc' hpb.1 hpb.2
              rw [show pc' / 2 * 2 = evn pc' from rfl] at e2
              generalize newF pc' = F3 at h1 hch
              generalize evn pc' = a2 at e2 hch hnx2
              clear x0 x1 x2 x3 hxl
              have x0 : w6.cell? ⟨xb, 0, none⟩ = some (.int .i64 2) := (cell_blk (Heap.heap h1.f4) 0).1
              have x1 : w6.cell? ⟨xb, 1, none⟩ = some (.int .i64 nn) := (cell_blk (Heap.heap h1.f4) 1).1
              have x2 : w6.cell? ⟨xb, 2, none⟩ = some (.int .u64 pc') := (cell_blk (Heap.heap h1.f4) 2).1
              have x3 : w6.cell? ⟨xb, 3, none⟩ = some (.int .u64 to') := (cell_blk (Heap.heap h1.f4) 3).1
              have hxl := lt_of_heap' (Heap.heap h1.f4)
              have H := hide h1
              have Hch := hide hch
              clear h1 hch
              go_wp2_with fail
              go_meet
              exact ⟨F3, c, a2, rfl, rfl, hnx2, unhide Hch, (Heap.sort (L1 := [_, _, _, _, _]) (L2 := [_, _, _, _, _]) (M := dms Ds) (unhide H) [1, 3, 0, 2, 4] rfl rfl (by decide)).tail.tail⟩
        · have z2 : (kd == 2) = false := beq_eq_false_iff_ne.2 q2
          by_cases q3 : kd = 3
          · subst q3
            go_wp2_with fail
            refine (redirect_f (unhide H) pc' hpb.1 hpb.2).mono ?_
            rintro rr w5 ⟨rfl, h1⟩
            have hch : Chain (evn pc') (newF pc').q (newF pc').at_ (newF pc').stop := ⟨rfl, rfl⟩
            have hnx := evn_bd hpb
            have e2 := u64_not1 pc' hpb.1 hpb.2
            rw [show pc' / 2 * 2 = evn pc' from rfl] at e2
            generalize newF pc' = F2 at h1 hch
            generalize evn pc' = a2 at e2 hch hnx
            clear x0 x1 x2 x3 hxl
            have x0 : w5.cell? ⟨xb, 0, none⟩ = some (.int .i64 3) := (cell_blk (Heap.heap h1.f3) 0).1
            have x1 : w5.cell? ⟨xb, 1, none⟩ = some (.int .i64 nn) := (cell_blk (Heap.heap h1.f3) 1).1
            have x2 : w5.cell? ⟨xb, 2, none⟩ = some (.int .u64 pc') := (cell_blk (Heap.heap h1.f3) 2).1
            have x3 : w5.cell? ⟨xb, 3, none⟩ = some (.int .u64 to') := (cell_blk (Heap.heap h1.f3) 3).1
            have hxl := lt_of_heap' (Heap.heap h1.f3)
            have H := hide h1
            have Hch := hide hch
            clear h1 hch
            go_wp2_with fail
            go_meet
            exact ⟨F2, c, a2, rfl, rfl, hnx, unhide Hch, (unhide H).f3.tail⟩
          · have z3 : (kd == 3) = false := beq_eq_false_iff_ne.2 q3
            by_cases q4 : kd = 4
            · subst q4
              go_wp2_with fail
              refine (learn_h (unhide H).f2 pc' nn true to' hpb.1 hpb.2 htb.1 htb.2).mono ?_
              rintro rr w5 ⟨rfl, h1⟩
              have H := hide h1.f2
              clear h1
              go_wp2_with fail
              go_meet
              exact ⟨F, _, nx, rfl, rfl, hnx, unhide Hch, (unhide H).f3.tail⟩
            · have z4 : (kd == 4) = false := beq_eq_false_iff_ne.2 q4
              obtain ⟨h, hh⟩ : ∃ h : Nat, (nn % 65536).toNat = h := ⟨_, rfl⟩
              have hw : IntKind.u16.wrap nn = (h : Nat) := by rw [IntKind.wrap_u16]; omega
              have hx : h < 65536 := by omega
              clear hh
              have hG := hide (give_f ((unhide HT).at (unhide H)) (unhide H) h hx)
              go_wp2_with fail
              refine (unhide hG).mono ?_
              rintro rr w5 ⟨rfl, h1⟩
              have H := hide h1
              clear h1 hG hw
              go_wp2_with fail
              go_meet
              exact ⟨_, _, nx, rfl, rfl, hnx, (unhide Hch).give, (unhide H).f3.tail⟩
      case rest =>
        obtain ⟨F, c, nx, rfl, rfl, hnx, hch, hJ⟩ := hcut
        clear H Hch x0 x1 x2 x3 hxl
        have Hch := hide hch
        obtain ⟨A1, cap1, hC, hh⟩ := hJ.fc
        have hI := hC.I
        have hlen := hI.len
        have hJ0 := (hh.new ([.int .i64 0] : List Value).toArray 3).new #[.pointer (some ⟨b, 0, none⟩)] 25
        obtain ⟨km, hkm⟩ : ∃ k, wc.heap.size = k := ⟨_, rfl⟩
        clear hJ hC hh hch
        go_wp2_with fail
        refine (items_f _ b).mono ?_
        rintro rr w9 ⟨rfl, rfl⟩
        simp only [World.size_alloc, hkm] at hJ0
        go_wp2_with fail
        obtain ⟨box, hbox⟩ : ∃ k, km + 1 = k := ⟨_, rfl⟩
        rw [hbox] at hJ0 ⊢
        generalize ((wc.alloc (.cells ([.int .i64 0] : List Value).toArray 3)).alloc (.cells #[.pointer (some ⟨b, 0, none⟩)] 25)) = W1 at hJ0 ⊢
        unfold FB at hJ0
        have hJ1 := Heap.sort (L1 := [_, _, _, _]) (L2 := [_, _, _, _]) hJ0 [0, 2, 3, 1] rfl rfl (by decide)
        obtain ⟨P, hP, hJ2, back⟩ := Heap.pinL (Y := [_, _, _, _]) hJ1
        have hJ2 : Heap W W1 (HP.blk box #[.pointer (some ⟨b, 0, none⟩)] 25 :: FB b g F (.slice A1 F.q.length cap1) [HP.blk km ([.int .i64 (([] : List It).length : Int)] : List Value).toArray 3, P]) := hJ2
        clear hJ0 hJ1 hkm hbox
        refine range_itemsM (γ := Unit) (fun pre => [HP.blk km ([.int .i64 (pre.length : Int)] : List Value).toArray 3, P]) (fun _ => True) (fun _ _ _ => False) (fun _ => []) rfl hI rfl rfl rfl rfl rfl rfl (s := 17) (show 101 < 116 by decide) (show 17 < 116 by decide) (by decide)
          (fun _ => .blk (.cons hP .nil)) (fun _ => .nil) trivial hJ2 ?body ?done (fun _ _ _ _ _ h _ _ => h.elim)
        case body =>
          rintro l pre x kx W2 _ hlt2 hx hkB hkx hB
          simp only [List.setIfInBounds_toArray, List.set_cons_succ, List.set_cons_zero]
          unfold FB at hB
          have n0 : W2.cell? ⟨km, 0, none⟩ = some (.int .i64 (pre.length : Int)) := (cell_blk (Heap.heap hB.f4) 0).1
          have n0f := (cell_blk (Heap.heap hB.f4) 0).2
          have hkml := lt_of_heap' (Heap.heap hB.f4)
          have y0 : W2.cell? ⟨kx, 0, none⟩ = some (.int .u64 x.pc) := (cell_blk hkx 0).1
          have y6 : W2.cell? ⟨kx, 6, none⟩ = some (.int .u64 x.nxt) := (cell_blk hkx 6).1
          have hkxl := lt_of_heap' hkx
          have m1 : bits .and .u64 x.pc 1 = 0 := by rw [u64_mask1 x.pc hx.pc.1 hx.pc.2]; exact hx.evn.1
          have m2 : bits .and .u64 x.nxt 1 = 0 := by rw [u64_mask1 x.nxt hx.nxt.1 hx.nxt.2]; exact hx.evn.2
          have HB := hide hB
          clear hB hkx hx
          gi_wp2
          refine ⟨by rw [size_setCell]; exact Nat.le_refl _, trivial, ?_⟩
          have h5 := (unhide HB).f4.setl 0 (.int .i64 ((pre.length : Int) + 1))
          have h6 := Heap.sort (L1 := [_, _, _, _]) (L2 := [_, _, _, _]) h5 [1, 2, 3, 0] rfl rfl (by decide)
          unfold FB
          show Heap W _ (_ :: _ :: _ :: HP.blk km ([.int .i64 ((pre ++ [x]).length : Int)] : List Value).toArray 3 :: _)
          rw [show (((pre ++ [x]).length : Nat) : Int) = (pre.length : Int) + 1 by simp]
          exact h6
        case done =>
          rintro D W4 _ hJ
          unfold FB at hJ
          have n0 : W4.cell? ⟨km, 0, none⟩ = some (.int .i64 (F.q.length : Int)) := (cell_blk (Heap.heap hJ.f4) 0).1
          have hkml := lt_of_heap' (Heap.heap hJ.f4)
          have hJ := back (Z := [_, _, _, _]) hJ
          have hJ := Heap.fr.2 ⟨_, hI, Heap.sort (L1 := [_, _, _, _]) (L2 := [_, _, _, _]) hJ [1, 2, 0, 3] rfl rfl (by decide)⟩
          obtain ⟨m, hm⟩ : ∃ m, F.q.length = m := ⟨_, rfl⟩
          rw [hm] at n0 hlen
          have H := hide hJ
          clear hJ back hJ2 hm hI
          go_wp2_with fail
          refine ⟨⟨D :: Ds, ?_⟩, by simp [intOf]; omega⟩
          repeat apply Exists.intro
          refine ⟨?_, rfl⟩
          exact ⟨k + 1, F, c, nx, rfl, by simp, by omega, hnx, unhide Hch, (Heap.sort (L1 := [_, _, _, _, _]) (L2 := [_, _, _, _, _]) (M := dms Ds) (unhide H) [2, 0, 3, 4, 1] rfl rfl (by decide)).tail⟩

    · obtain rfl : k = n := by omega
      have H := hide hJ
      have r0 : wr.cell? ⟨r, 0, none⟩ = some (.bool false) := (cell_blk (Heap.heap hJ.f3) 0).1
      have r0f := (cell_blk (Heap.heap hJ.f3) 0).2
      have hrl := lt_of_heap' (Heap.heap hJ.f3)
      clear hJ hch
      go_wp2_with fail
      have h5 := (unhide H).f3.setl 0 (.bool true)
      exact leaves_marks (L := [_, _, _]) (fun w' hJ => ⟨_, res7 rfl (v := true) hJ.heap, rfl, hJ.below⟩) Ds (h5.perm (List.perm_append_comm (l₁ := [_, _, _])))
end
end Go.Proofs.YtblbgalpkodibaaDoor
