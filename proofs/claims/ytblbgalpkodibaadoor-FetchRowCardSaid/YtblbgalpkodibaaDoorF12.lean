/- Layer 20: the walk of FetchRow. -/
import Derived.Test.YtblbgalpkodibaaDoorF8
import Derived.Test.YtblbgalpkodibaaDoorF11
import Derived.Test.YtblbgalpkodibaaDoorR8
namespace Go.Proofs.YtblbgalpkodibaaDoor
open Go.RowKit
theorem info32 : (Tryd.prog.info? 32).map (fun i => (i.zero, i.size, i.bytes)) = some (some (.int .u16 0), 1, 2) := by kernel_rfl
theorem run_eq64 (x : Int) (w : World) : (binOp .eql 22 (.int .u64 x) (.int .u64 x)).run Tryd.prog w = .ok (.bool true) w := by
  have h : (binOp .eql 22 (.int .u64 x) (.int .u64 x)).run Tryd.prog w = .ok (.bool (x == x)) w := by kernel_rfl
  rw [h]; simp
theorem run_eq3 (x : Int) (w : World) : (binOp .eql 3 (.int .i64 x) (.int .i64 x)).run Tryd.prog w = .ok (.bool true) w := by
  have h : (binOp .eql 3 (.int .i64 x) (.int .i64 x)).run Tryd.prog w = .ok (.bool (x == x)) w := by kernel_rfl
  rw [h]; simp
theorem run_ne32 (x : Int) (w : World) : (binOp .neq 32 (.int .u16 x) (.int .u16 x)).run Tryd.prog w = .ok (.bool false) w := by
  have h : (binOp .neq 32 (.int .u16 x) (.int .u16 x)).run Tryd.prog w = .ok (.bool (x != x)) w := by kernel_rfl
  rw [h]; simp
theorem hvs_take {l : List Nat} {k t h : Nat} (hk : k < t) (hl : l[k]? = some h) : (hvs (l.take t))[k]? = some (.int .u16 (h : Int)) := hvs_at (by rw [List.getElem?_take_of_lt hk]; exact hl)
section
set_option maxRecDepth 100000 in
set_option maxHeartbeats 4000000 in
theorem row_walk (seed pc : Int) (hs : 0 ≤ seed ∧ seed < 18446744073709551616) (hp : 0 ≤ pc ∧ pc < 18446744073709551616)
    (A : Option Addr) (n cap : Nat) (W : World) (hT : Tab W) (hS : SlArg [some .u16] W A n) (hn : n ≤ 70368744177664) :
    Calls Tryd.prog 3 #[.int .u64 seed, .int .u64 pc, .slice A n cap] W fun e w' => e = .returned (.bool true) ∧ Below W.heap.size W w' := by
  obtain ⟨i0, hi0, hz0, hz1, hz2⟩ := info_parts info32
  obtain ⟨X, hX⟩ := half_fun hS
  obtain ⟨l, hl⟩ : ∃ l, (List.range n).map X = l := ⟨_, rfl⟩
  have HL := hide (show l.length = n by rw [← hl]; simp)
  have HX : Hid (∀ k, k < n → ∃ h, l[k]? = some h ∧ h < 65536 ∧ ∀ wr, Below W.heap.size W wr → ∃ ab ao, A = some ⟨ab, ao, none⟩ ∧ wr.cell? ⟨ab, ao + k, none⟩ = some (.int .u16 (h : Nat)) ∧ ab < wr.heap.size) := hide fun k hk => ⟨X k, by rw [← hl]; simp [hk], hX k hk⟩
  have HB : Hid (∀ (k x : Nat), l[k]? = some x → x < 65536) := hide fun k x hx => by
    have hk := (List.getElem?_eq_some_iff.1 hx).1
    rw [unhide HL] at hk
    obtain ⟨h, h1, h2, _⟩ := unhide HX k hk
    rw [h1] at hx
    injection hx with hx
    omega
  have HT := hide hT
  clear hS hX hT hl
  have e1 := u64_not1 pc hp.1 hp.2
  rw [show pc / 2 * 2 = evn pc from rfl] at e1
  go_enter Tryd.func3, Tryd.ntmps3
  go_wp2_with fail
  refine (fixed_f (unhide HT) (Heap.nil W)).mono ?_
  rintro r w1 ⟨rfl, h1⟩
  have H := hide h1
  clear h1
  go_wp2_with fail
  refine (new_h (unhide H) seed hs.1 hs.2).mono ?_
  rintro r w2 ⟨g, rfl, h1⟩
  obtain ⟨c, hc⟩ : ∃ c, c0 seed = c := ⟨_, rfl⟩
  have hd : Dull c := by rw [← hc]; exact dull_c0 seed
  rw [hc] at h1
  have R0 := hide (RowI.new l hp h1.ggI hd)
  have Hd := hide hd
  have H := hide h1
  clear h1 hc hd
  go_wp2_with fail
  refine (new_f (g := g) (unhide H) pc hp.1 hp.2).mono ?_
  rintro r w3 ⟨b, rfl, h1⟩
  generalize newF pc = F at h1 R0
  have ha := evn_bd hp
  generalize evn pc = a at e1 R0 ha
  have H := hide (Heap.sort (L1 := [_, _, _]) (L2 := [_, _, _]) (M := []) (h1.emptyW (sz := 1) 32) [1, 2, 0] rfl rfl (by decide))
  clear h1
  go_wp2
  go_loopw [9, 10] (fun v s wr => ∃ (i t : Nat) (F : Fr) (A2 : Option Addr) (cap2 : Nat), v = .slice A2 t cap2 ∧ s = .int .i64 i ∧ i ≤ n ∧ t ≤ n ∧ RowI l a F c t i ∧ Heap W wr [HP.fr b g F, HP.gg g c, HP.slw (.slice A2 t cap2) 1 t (hvs (l.take t))]) (fun _ s _ => n - (intOf s).toNat)
  case atStart => exact ⟨0, 0, F, _, _, rfl, rfl, Nat.zero_le _, Nat.zero_le _, unhide R0, unhide H⟩
  case round =>
    clear H R0
    obtain ⟨i, t, F, A2, cap2, rfl, rfl, hi, ht, hR, hJ⟩ := hrel
    by_cases hlt : i < n
    · obtain ⟨h, hlh, hx, hat⟩ := unhide HX i hlt
      have hC := hR.found hx hlh (unhide HB)
      have hcan := hR.can
      have hwant := hR.want
      obtain ⟨ab, ao, rfl, c0, hab⟩ := hat wr hJ.below
      obtain ⟨F2, hF2⟩ : ∃ F2, giveF F c h = F2 := ⟨_, rfl⟩
      obtain ⟨y, hy⟩ : ∃ y, headI F2 = y := ⟨_, rfl⟩
      obtain ⟨ev, hev⟩ : ∃ e, (!F2.q.isEmpty) = e := ⟨_, rfl⟩
      obtain ⟨av, hav⟩ : ∃ av, w64 (a + 2 * (i : Int)) = av := ⟨_, rfl⟩
      obtain ⟨pv, hpv⟩ : ∃ pv, w64 (a + 2 * (t : Int)) = pv := ⟨_, rfl⟩
      have ea : IntKind.u64.wrap (a + 2 * (i : Int)) = av := by rw [IntKind.wrap_u64, ← hav]; rfl
      have ep : IntKind.u64.wrap (a + 2 * (t : Int)) = pv := by rw [IntKind.wrap_u64, ← hpv]; rfl
      have hW := hide (want_f hJ)
      rw [hcan, hwant, hav] at hW
      rw [hF2, hpv, hy, hev] at hC
      have HC := hide hC
      have Hcan := hide hcan
      have HF2 := hide hF2
      have Hy := hide hy
      have Hev := hide hev
      clear hJ hat hC hR hcan hwant hF2 hy hev hav
      go_wp2_with fail
      refine (unhide hW).mono ?_
      rintro r w4 ⟨rfl, h1⟩
      have c0 : w4.cell? ⟨ab, ao + i, none⟩ = some (.int .u16 (h : Nat)) := by
        obtain ⟨h', hlh', _, hat⟩ := unhide HX i hlt
        obtain ⟨_, _, e9, e10, _⟩ := hat w4 h1.below
        injection e9 with e9
        injection e9 with e9 e8
        subst e9 e8
        rw [hlh] at hlh'
        injection hlh' with e9
        rw [e9]; exact e10
      have hG := hide (give_f ((unhide HT).at h1) h1 h hx)
      rw [giveC_dull (unhide Hd), unhide HF2, unhide Hcan] at hG
      clear hW h1 hab
      go_wp2_with fail
      refine (unhide hG).mono ?_
      rintro r w5 ⟨rfl, h1⟩
      have hT_ := hide (take_f h1)
      rw [unhide Hy, unhide Hev] at hT_
      clear hG h1 c0 HF2 Hcan Hy Hev
      go_wp2_with fail
      refine (unhide hT_).mono ?_
      rintro r wt ⟨rfl, h1⟩
      clear hT_
      have hN := h1.clone #[.int .u64 0, .int .u32 0, .int .u32 0, .int .i64 0, .int .u64 0, .int .u64 0, .int .u64 0, .int .u64 0, .int .u64 0, .int .u64 0, .int .u64 0, .int .i64 0, .int .u64 0] 38 (itl (y)) rfl
      obtain ⟨kx, hkx⟩ : ∃ k, wt.heap.size = k := ⟨_, rfl⟩
      rw [hkx] at hN
      have HN := hide hN
      have Ht := hide (show (wt.alloc (.cells #[.int .u64 0, .int .u32 0, .int .u32 0, .int .i64 0, .int .u64 0, .int .u64 0, .int .u64 0, .int .u64 0, .int .u64 0, .int .u64 0, .int .u64 0, .int .i64 0, .int .u64 0] 38)).there kx 0 (itl (y)).toArray.size from by rw [← hkx]; exact there_new _ _ _ rfl)
      clear hN h1
      go_wp2_with (refine wpList_store_mid rfl 38 (.tmp 13) (.tmp 65) rfl kx 0 (itl (y)).toArray rfl rfl ?_ (by kernel_rfl) (all_oneCell_toArray (itl_cell (y))) ?_
                   rotate_left
                   refine unhide ?_)
      rotate_left
      · exact unhide Ht
      have hN := unhide HN
      change Hid (wpList _ _ _ _ _ ((wt.alloc (.cells #[.int .u64 0, .int .u32 0, .int .u32 0, .int .i64 0, .int .u64 0, .int .u64 0, .int .u64 0, .int .u64 0, .int .u64 0, .int .u64 0, .int .u64 0, .int .i64 0, .int .u64 0] 38)).setCells kx 0 (itl (y))))
      generalize (wt.alloc (.cells #[.int .u64 0, .int .u32 0, .int .u32 0, .int .i64 0, .int .u64 0, .int .u64 0, .int .u64 0, .int .u64 0, .int .u64 0, .int .u64 0, .int .u64 0, .int .i64 0, .int .u64 0] 38)).setCells kx 0 (itl (y)) = wu at hN ⊢
      clear HN Ht hkx
      have H := hide hN.f2
      clear hN
      refine hide ?_
      have Hca : Hid (wu.cell? ⟨ab, ao + i, none⟩ = some (.int .u16 (h : Nat)) ∧ ab < wu.heap.size) := hide (by
        obtain ⟨h', hlh', _, hat⟩ := unhide HX i hlt
        obtain ⟨_, _, e9, e10, e11⟩ := hat wu (unhide H).below
        injection e9 with e9
        injection e9 with e9 e8
        subst e9 e8
        rw [hlh] at hlh'
        injection hlh' with e9
        rw [e9]; exact ⟨e10, e11⟩)
      have Hlh := hide hlh
      clear hlh
      rcases unhide HC with ⟨rfl, nx⟩ | ⟨rfl, pcE, cu, tv, st, lo, no, ti⟩ | ⟨rfl, pcE, cu, sz, nxE, bi, ins, ti, tk, next⟩ | ⟨f, rfl, pcE, cu, sz, nxE, bi, ins, ti, tk, hf, next⟩
      · have H9 := hide ((unhide H).f2.tail)
        have Nx := hide nx
        clear nx HC H Hca
        go_wp2
        go_roundw
        case rel => exact ⟨i + 1, t, _, _, _, rfl, by simp, by omega, ht, unhide Nx, unhide H9⟩
        case measure => simp [intOf]; omega
      · clear HC
        have ti := ti.symm
        subst ti
        have y0 : wu.cell? ⟨kx, 0, none⟩ = some (.int .u64 y.pc) := (cell_blk (Heap.heap (unhide H).f2) 0).1
        have y4 : wu.cell? ⟨kx, 4, none⟩ = some (.int .u64 y.cause) := (cell_blk (Heap.heap (unhide H).f2) 4).1
        have y5 : wu.cell? ⟨kx, 5, none⟩ = some (.int .u64 y.tval) := (cell_blk (Heap.heap (unhide H).f2) 5).1
        have hkxl := lt_of_heap' (Heap.heap (unhide H).f2)
        rw [pcE] at y0
        rw [cu] at y4
        rw [tv] at y5
        obtain ⟨ca, cab⟩ := unhide Hca
        have hX := hide (rexpand_ex ((unhide HT).at (unhide H)) h hx wu (GN.refl wu))
        rw [no] at hX
        have Hst := hide st
        have Hlo := hide lo
        clear pcE cu tv st lo no Hca
        go_wp2_with fail
        refine (unhide hX).mono ?_
        rintro r w6 ⟨rfl, hg⟩
        have H := hide ((unhide H).grown hg)
        have Hy4 := hide (cell_GN hg y4)
        have Hy5 := hide (cell_GN hg y5)
        have Hca := hide (cell_GN hg ca)
        have hW := hide (want_c (unhide H).fc.choose_spec.choose_spec.1)
        rw [unhide Hst] at hW
        clear hX hg y0 y4 y5 ca cab hkxl
        go_wp2_with fail
        refine (unhide hW).mono ?_
        rintro r wu ⟨rfl, hg⟩
        have H := hide ((unhide H).grown hg)
        have Hy4 := hide (cell_GN hg (unhide Hy4))
        have Hy5 := hide (cell_GN hg (unhide Hy5))
        have Hca := hide (cell_GN hg (unhide Hca))
        have HSh : Hid (∀ w_, Calls Tryd.prog 15 #[.int .u16 (h : Nat)] w_ fun e w' => e = .returned (.bool true) ∧ GN w_ w') := hide fun w_ => by
          have := rshort_any h hx w_
          rw [← short_eq h hx, bne_iff_ne.2 (unhide Hlo)] at this
          exact this
        clear hW hg Hlo Hst
        go_upto_region 19 with fail
        refine wp_region_F (fun w_ => GN wu w_) GN (fun k_ v_ w_ => match k_ with
            | 0 => v_ = .pointer (some ⟨kx, 0 + 4, none⟩)
            | 1 => v_ = .int .u64 2
            | 2 => v_ = .bool true
            | 3 => v_ = .bool true
            | 4 => v_ = .pointer (some ⟨kx, 0 + 5, none⟩)
            | 5 => v_ = .int .u64 (h : Nat)
            | 6 => v_ = .slice (some ⟨ab, ao, none⟩) n cap
            | 7 => v_ = .int .i64 (i : Nat)
            | 8 => v_ = .pointer (some ⟨ab, ao + i * 1, none⟩)
            | 9 => v_ = .int .u16 (h : Nat)
            | 10 => v_ = .int .u64 (h : Nat)
            | 11 => v_ = .bool true
            | 12 => v_ = .bool true
            | 13 => v_ = .bool true
            | 14 => v_ = .slice (some ⟨ab, ao, none⟩) n cap
            | 15 => v_ = .int .i64 (i : Nat)
            | 16 => v_ = .pointer (some ⟨ab, ao + i * 1, none⟩)
            | 17 => v_ = .int .u16 (h : Nat)
            | 18 => v_ = .bool true
            | 19 => v_ = .bool true
            | 20 => v_ = .bool true
            | 21 => v_ = .bool false
            | 22 => v_ = .bool true
            | 23 => v_ = .bool true
            | 24 => v_ = .bool true
            | 25 => v_ = .bool false
            | 26 => v_ = .bool true
            | 27 => v_ = .bool true
            | 28 => v_ = .bool true
            | 29 => v_ = .slice A2 i cap2
            | 30 => v_ = .int .i64 (i : Nat)
            | 31 => v_ = .int .i64 (i : Nat)
            | 32 => v_ = .bool true
            | 33 => v_ = .bool true
            | _ => v_ = .bool true) fol (by kernel_rfl) ?_ ?_ ?_ ?_
        · exact (GN.refl wu).drew
        · intro k_ v_ w_ w2_ h1 hg
          split at h1 <;> exact h1
        · intro vals
          show wpG _ _ _ _ _ _ 0 (_ :: _) _
          refine wpG_cons (gval (.pointer (some ⟨kx, 0 + 4, none⟩)) GN.refl fun w_ hJ hd => ?_) ?_
          · exact ⟨by kernel_rfl, by kernel_rfl, rfl⟩
          refine wpG_cons (gop (Instr.loadAt 22 (.pointer (some ⟨kx, 0 + 4, none⟩))) (.int .u64 2) GN.refl fun w_ hJ hd => ?_) ?_
          · have e0 : vals 0 = _ := hd 0 (by decide) (by kernel_rfl)
            rw [e0]
            exact ⟨by kernel_rfl, by kernel_rfl, run_load1 (by kernel_rfl) (cell_GN hJ (unhide Hy4)), rfl⟩
          refine wpG_cons (gval (.bool true) GN.refl fun w_ hJ hd => ?_) ?_
          · have e1 : vals 1 = _ := hd 1 (by decide) (by kernel_rfl)
            rw [e1]
            exact ⟨by kernel_rfl, by kernel_rfl, rfl⟩
          refine wpG_cons (gval (.bool true) GN.refl fun w_ hJ hd => ?_) ?_
          · have e2 : vals 2 = _ := hd 2 (by decide) (by kernel_rfl)
            rw [e2]
            exact ⟨by kernel_rfl, by kernel_rfl, rfl⟩
          refine wpG_cons (gval (.pointer (some ⟨kx, 0 + 5, none⟩)) GN.refl fun w_ hJ hd => ?_) ?_
          · have e3 : vals 3 = _ := hd 3 (by decide) (by kernel_rfl)
            rw [e3]
            exact ⟨by kernel_rfl, by kernel_rfl, rfl⟩
          refine wpG_cons (gop (Instr.loadAt 22 (.pointer (some ⟨kx, 0 + 5, none⟩))) (.int .u64 (h : Nat)) GN.refl fun w_ hJ hd => ?_) ?_
          · have e4 : vals 4 = _ := hd 4 (by decide) (by kernel_rfl)
            have e3 : vals 3 = _ := hd 3 (by decide) (by kernel_rfl)
            rw [e4, e3]
            exact ⟨by kernel_rfl, by kernel_rfl, run_load1 (by kernel_rfl) (cell_GN hJ (unhide Hy5)), rfl⟩
          refine wpG_cons (gval (.slice (some ⟨ab, ao, none⟩) n cap) GN.refl fun w_ hJ hd => ?_) ?_
          · have e3 : vals 3 = _ := hd 3 (by decide) (by kernel_rfl)
            rw [e3]
            exact ⟨by kernel_rfl, by kernel_rfl, rfl⟩
          refine wpG_cons (gval (.int .i64 (i : Nat)) GN.refl fun w_ hJ hd => ?_) ?_
          · have e3 : vals 3 = _ := hd 3 (by decide) (by kernel_rfl)
            rw [e3]
            exact ⟨by kernel_rfl, by kernel_rfl, rfl⟩
          refine wpG_cons (gop (Instr.indexAt 23 (.slice (some ⟨ab, ao, none⟩) n cap) (.int .i64 (i : Nat))) (.pointer (some ⟨ab, ao + i * 1, none⟩)) GN.refl fun w_ hJ hd => ?_) ?_
          · have e6 : vals 6 = _ := hd 6 (by decide) (by kernel_rfl)
            have e7 : vals 7 = _ := hd 7 (by decide) (by kernel_rfl)
            have e3 : vals 3 = _ := hd 3 (by decide) (by kernel_rfl)
            rw [e6, e7, e3]
            exact ⟨by kernel_rfl, by kernel_rfl, run_ixat 23 32 1 Tryd.underlying23 (by kernel_rfl) ab ao n cap i hlt w_, rfl⟩
          refine wpG_cons (gop (Instr.loadAt 32 (.pointer (some ⟨ab, ao + i * 1, none⟩))) (.int .u16 (h : Nat)) GN.refl fun w_ hJ hd => ?_) ?_
          · have e8 : vals 8 = _ := hd 8 (by decide) (by kernel_rfl)
            have e3 : vals 3 = _ := hd 3 (by decide) (by kernel_rfl)
            rw [e8, e3]
            exact ⟨by kernel_rfl, by kernel_rfl, run_load1 (by kernel_rfl) (by rw [Nat.mul_one]; exact cell_GN hJ (unhide Hca)), rfl⟩
          refine wpG_cons (gop (convert 32 22 (.int .u16 (h : Nat))) (.int .u64 (h : Nat)) GN.refl fun w_ hJ hd => ?_) ?_
          · have e9 : vals 9 = _ := hd 9 (by decide) (by kernel_rfl)
            have e3 : vals 3 = _ := hd 3 (by decide) (by kernel_rfl)
            rw [e9, e3]
            exact ⟨by kernel_rfl, by kernel_rfl, run_cv64 h hx w_, rfl⟩
          refine wpG_cons (gop (binOp .eql 22 (.int .u64 (h : Nat)) (.int .u64 (h : Nat))) (.bool true) GN.refl fun w_ hJ hd => ?_) ?_
          · have e5 : vals 5 = _ := hd 5 (by decide) (by kernel_rfl)
            have e10 : vals 10 = _ := hd 10 (by decide) (by kernel_rfl)
            have e3 : vals 3 = _ := hd 3 (by decide) (by kernel_rfl)
            rw [e5, e10, e3]
            exact ⟨by kernel_rfl, by kernel_rfl, run_eq64 _ w_, rfl⟩
          refine wpG_cons (gval (.bool true) GN.refl fun w_ hJ hd => ?_) ?_
          · have e3 : vals 3 = _ := hd 3 (by decide) (by kernel_rfl)
            have e11 : vals 11 = _ := hd 11 (by decide) (by kernel_rfl)
            rw [e3, e11]
            exact ⟨by kernel_rfl, by kernel_rfl, rfl⟩
          refine wpG_cons (gval (.bool true) GN.refl fun w_ hJ hd => ?_) ?_
          · have e12 : vals 12 = _ := hd 12 (by decide) (by kernel_rfl)
            rw [e12]
            exact ⟨by kernel_rfl, by kernel_rfl, rfl⟩
          refine wpG_cons (gval (.slice (some ⟨ab, ao, none⟩) n cap) GN.refl fun w_ hJ hd => ?_) ?_
          · have e13 : vals 13 = _ := hd 13 (by decide) (by kernel_rfl)
            rw [e13]
            exact ⟨by kernel_rfl, by kernel_rfl, rfl⟩
          refine wpG_cons (gval (.int .i64 (i : Nat)) GN.refl fun w_ hJ hd => ?_) ?_
          · have e13 : vals 13 = _ := hd 13 (by decide) (by kernel_rfl)
            rw [e13]
            exact ⟨by kernel_rfl, by kernel_rfl, rfl⟩
          refine wpG_cons (gop (Instr.indexAt 23 (.slice (some ⟨ab, ao, none⟩) n cap) (.int .i64 (i : Nat))) (.pointer (some ⟨ab, ao + i * 1, none⟩)) GN.refl fun w_ hJ hd => ?_) ?_
          · have e14 : vals 14 = _ := hd 14 (by decide) (by kernel_rfl)
            have e15 : vals 15 = _ := hd 15 (by decide) (by kernel_rfl)
            have e13 : vals 13 = _ := hd 13 (by decide) (by kernel_rfl)
            rw [e14, e15, e13]
            exact ⟨by kernel_rfl, by kernel_rfl, run_ixat 23 32 1 Tryd.underlying23 (by kernel_rfl) ab ao n cap i hlt w_, rfl⟩
          refine wpG_cons (gop (Instr.loadAt 32 (.pointer (some ⟨ab, ao + i * 1, none⟩))) (.int .u16 (h : Nat)) GN.refl fun w_ hJ hd => ?_) ?_
          · have e16 : vals 16 = _ := hd 16 (by decide) (by kernel_rfl)
            have e13 : vals 13 = _ := hd 13 (by decide) (by kernel_rfl)
            rw [e16, e13]
            exact ⟨by kernel_rfl, by kernel_rfl, run_load1 (by kernel_rfl) (by rw [Nat.mul_one]; exact cell_GN hJ (unhide Hca)), rfl⟩
          refine wpG_cons (gcall 15 #[.int .u16 (h : Nat)] fun w_ hJ hd => ?_) ?_
          · have e17 : vals 17 = _ := hd 17 (by decide) (by kernel_rfl)
            have e13 : vals 13 = _ := hd 13 (by decide) (by kernel_rfl)
            rw [e17, e13]
            exact ⟨by kernel_rfl, by kernel_rfl, (unhide HSh w_).mono fun e w2 ⟨he, hg⟩ => ⟨_, he, GN.trans hJ hg, hg, rfl⟩⟩
          refine wpG_cons (gval (.bool true) GN.refl fun w_ hJ hd => ?_) ?_
          · have e13 : vals 13 = _ := hd 13 (by decide) (by kernel_rfl)
            have e18 : vals 18 = _ := hd 18 (by decide) (by kernel_rfl)
            rw [e13, e18]
            exact ⟨by kernel_rfl, by kernel_rfl, rfl⟩
          refine wpG_cons (gval (.bool true) GN.refl fun w_ hJ hd => ?_) ?_
          · have e19 : vals 19 = _ := hd 19 (by decide) (by kernel_rfl)
            rw [e19]
            exact ⟨by kernel_rfl, by kernel_rfl, rfl⟩
          refine wpG_cons (gval (.bool false) GN.refl fun w_ hJ hd => ?_) ?_
          · have e20 : vals 20 = _ := hd 20 (by decide) (by kernel_rfl)
            rw [e20]
            exact ⟨by kernel_rfl, by kernel_rfl, rfl⟩
          refine wpG_cons (gval (.bool true) GN.refl fun w_ hJ hd => ?_) ?_
          · have e21 : vals 21 = _ := hd 21 (by decide) (by kernel_rfl)
            have e20 : vals 20 = _ := hd 20 (by decide) (by kernel_rfl)
            rw [e21, e20]
            exact ⟨by kernel_rfl, by kernel_rfl, rfl⟩
          refine wpG_cons (gval (.bool true) GN.refl fun w_ hJ hd => ?_) ?_
          · have e20 : vals 20 = _ := hd 20 (by decide) (by kernel_rfl)
            have e22 : vals 22 = _ := hd 22 (by decide) (by kernel_rfl)
            rw [e20, e22]
            exact ⟨by kernel_rfl, by kernel_rfl, rfl⟩
          refine wpG_cons (gval (.bool true) GN.refl fun w_ hJ hd => ?_) ?_
          · have e23 : vals 23 = _ := hd 23 (by decide) (by kernel_rfl)
            rw [e23]
            exact ⟨by kernel_rfl, by kernel_rfl, rfl⟩
          refine wpG_cons (gval (.bool false) GN.refl fun w_ hJ hd => ?_) ?_
          · have e24 : vals 24 = _ := hd 24 (by decide) (by kernel_rfl)
            rw [e24]
            exact ⟨by kernel_rfl, by kernel_rfl, rfl⟩
          refine wpG_cons (gval (.bool true) GN.refl fun w_ hJ hd => ?_) ?_
          · have e25 : vals 25 = _ := hd 25 (by decide) (by kernel_rfl)
            have e24 : vals 24 = _ := hd 24 (by decide) (by kernel_rfl)
            rw [e25, e24]
            exact ⟨by kernel_rfl, by kernel_rfl, rfl⟩
          refine wpG_cons (gval (.bool true) GN.refl fun w_ hJ hd => ?_) ?_
          · have e24 : vals 24 = _ := hd 24 (by decide) (by kernel_rfl)
            have e26 : vals 26 = _ := hd 26 (by decide) (by kernel_rfl)
            rw [e24, e26]
            exact ⟨by kernel_rfl, by kernel_rfl, rfl⟩
          refine wpG_cons (gval (.bool true) GN.refl fun w_ hJ hd => ?_) ?_
          · have e27 : vals 27 = _ := hd 27 (by decide) (by kernel_rfl)
            rw [e27]
            exact ⟨by kernel_rfl, by kernel_rfl, rfl⟩
          refine wpG_cons (gval (.slice A2 i cap2) GN.refl fun w_ hJ hd => ?_) ?_
          · have e28 : vals 28 = _ := hd 28 (by decide) (by kernel_rfl)
            rw [e28]
            exact ⟨by kernel_rfl, by kernel_rfl, rfl⟩
          refine wpG_cons (gval (.int .i64 (i : Nat)) GN.refl fun w_ hJ hd => ?_) ?_
          · have e29 : vals 29 = _ := hd 29 (by decide) (by kernel_rfl)
            have e28 : vals 28 = _ := hd 28 (by decide) (by kernel_rfl)
            rw [e29, e28]
            exact ⟨by kernel_rfl, by kernel_rfl, rfl⟩
          refine wpG_cons (gval (.int .i64 (i : Nat)) GN.refl fun w_ hJ hd => ?_) ?_
          · have e28 : vals 28 = _ := hd 28 (by decide) (by kernel_rfl)
            rw [e28]
            exact ⟨by kernel_rfl, by kernel_rfl, rfl⟩
          refine wpG_cons (gop (binOp .eql 3 (.int .i64 (i : Nat)) (.int .i64 (i : Nat))) (.bool true) GN.refl fun w_ hJ hd => ?_) ?_
          · have e30 : vals 30 = _ := hd 30 (by decide) (by kernel_rfl)
            have e31 : vals 31 = _ := hd 31 (by decide) (by kernel_rfl)
            have e28 : vals 28 = _ := hd 28 (by decide) (by kernel_rfl)
            rw [e30, e31, e28]
            exact ⟨by kernel_rfl, by kernel_rfl, run_eq3 _ w_, rfl⟩
          refine wpG_cons (gval (.bool true) GN.refl fun w_ hJ hd => ?_) ?_
          · have e28 : vals 28 = _ := hd 28 (by decide) (by kernel_rfl)
            have e32 : vals 32 = _ := hd 32 (by decide) (by kernel_rfl)
            rw [e28, e32]
            exact ⟨by kernel_rfl, by kernel_rfl, rfl⟩
          refine wpG_cons (gval (.bool true) GN.refl fun w_ hJ hd => ?_) wpG_nil
          · have e33 : vals 33 = _ := hd 33 (by decide) (by kernel_rfl)
            rw [e33]
            exact ⟨by kernel_rfl, by kernel_rfl, rfl⟩
        · intro vals w_ hJ hf
          have e0 : vals 0 = _ := hf 0 (by decide)
          have e1 : vals 1 = _ := hf 1 (by decide)
          have e2 : vals 2 = _ := hf 2 (by decide)
          have e3 : vals 3 = _ := hf 3 (by decide)
          have e4 : vals 4 = _ := hf 4 (by decide)
          have e5 : vals 5 = _ := hf 5 (by decide)
          have e6 : vals 6 = _ := hf 6 (by decide)
          have e7 : vals 7 = _ := hf 7 (by decide)
          have e8 : vals 8 = _ := hf 8 (by decide)
          have e9 : vals 9 = _ := hf 9 (by decide)
          have e10 : vals 10 = _ := hf 10 (by decide)
          have e11 : vals 11 = _ := hf 11 (by decide)
          have e12 : vals 12 = _ := hf 12 (by decide)
          have e13 : vals 13 = _ := hf 13 (by decide)
          have e14 : vals 14 = _ := hf 14 (by decide)
          have e15 : vals 15 = _ := hf 15 (by decide)
          have e16 : vals 16 = _ := hf 16 (by decide)
          have e17 : vals 17 = _ := hf 17 (by decide)
          have e18 : vals 18 = _ := hf 18 (by decide)
          have e19 : vals 19 = _ := hf 19 (by decide)
          have e20 : vals 20 = _ := hf 20 (by decide)
          have e21 : vals 21 = _ := hf 21 (by decide)
          have e22 : vals 22 = _ := hf 22 (by decide)
          have e23 : vals 23 = _ := hf 23 (by decide)
          have e24 : vals 24 = _ := hf 24 (by decide)
          have e25 : vals 25 = _ := hf 25 (by decide)
          have e26 : vals 26 = _ := hf 26 (by decide)
          have e27 : vals 27 = _ := hf 27 (by decide)
          have e28 : vals 28 = _ := hf 28 (by decide)
          have e29 : vals 29 = _ := hf 29 (by decide)
          have e30 : vals 30 = _ := hf 30 (by decide)
          have e31 : vals 31 = _ := hf 31 (by decide)
          have e32 : vals 32 = _ := hf 32 (by decide)
          have e33 : vals 33 = _ := hf 33 (by decide)
          have e34 : vals 34 = _ := hf 34 (by decide)
          simp only [fillG, Nat.zero_add, Nat.reduceAdd, e0, e1, e2, e3, e4, e5, e6, e7, e8, e9, e10, e11, e12, e13, e14, e15, e16, e17, e18, e19, e20, e21, e22, e23, e24, e25, e26, e27, e28, e29, e30, e31, e32, e33, e34, Act.put, List.setIfInBounds_toArray, List.set_cons_succ, List.set_cons_zero]
          clear e0 e1 e2 e3 e4 e5 e6 e7 e8 e9 e10 e11 e12 e13 e14 e15 e16 e17 e18 e19 e20 e21 e22 e23 e24 e25 e26 e27 e28 e29 e30 e31 e32 e33 e34 hf
          have hb := ((unhide H).grown hJ).below
          clear hJ H Hy4 Hy5 Hca HSh
          have Hb := hide hb
          clear hb
          go_wp2
          go_ret
          exact ⟨rfl, unhide Hb⟩
      · clear HC
        have ti := ti.symm
        subst ti
        obtain ⟨nv, hnv⟩ : ∃ nv, w64 (pv + 2) = nv := ⟨_, rfl⟩
        have en : IntKind.u64.wrap (pv + 2) = nv := by rw [IntKind.wrap_u64, ← hnv]; rfl
        have Tk := hide tk
        have Nx := hide next
        have Ins := hide ins
        obtain ⟨bv, hbv⟩ : ∃ bv, y.bits = bv := ⟨_, rfl⟩
        obtain ⟨iv, hiv⟩ : ∃ iv, y.inst = iv := ⟨_, rfl⟩
        have Hbv := hide (hbv.symm.trans bi)
        have Hiv := hide hiv
        have y0 : wu.cell? ⟨kx, 0, none⟩ = some (.int .u64 y.pc) := (cell_blk (Heap.heap (unhide H).f2) 0).1
        have y3 : wu.cell? ⟨kx, 3, none⟩ = some (.int .i64 y.size) := (cell_blk (Heap.heap (unhide H).f2) 3).1
        have y4 : wu.cell? ⟨kx, 4, none⟩ = some (.int .u64 y.cause) := (cell_blk (Heap.heap (unhide H).f2) 4).1
        have y6 : wu.cell? ⟨kx, 6, none⟩ = some (.int .u64 y.nxt) := (cell_blk (Heap.heap (unhide H).f2) 6).1
        have y1 : wu.cell? ⟨kx, 1, none⟩ = some (.int .u32 y.bits) := (cell_blk (Heap.heap (unhide H).f2) 1).1
        have hkxl := lt_of_heap' (Heap.heap (unhide H).f2)
        rw [pcE] at y0
        rw [sz] at y3
        rw [cu] at y4
        rw [nxE, hnv] at y6
        rw [hbv] at y1
        have Hsz := hide sz
        have Hbe := hide hbv
        clear pcE cu sz nxE bi ins tk next hnv hbv hiv Hca
        have bh : IntKind.u16.wrap bv = (h : Nat) := by rw [unhide Hbv, IntKind.wrap_u16]; omega
        have H := hide (Heap.sort (L1 := [_, _, _, _]) (L2 := [_, _, _, _]) (M := []) (unhide H) [3, 0, 1, 2] rfl rfl (by decide))
        go_wp2_with (at_builtin; refine wpList_append_sl (n := i) (m := 1) rfl _ _ 23 rfl 32 i0 _ 1 2 Tryd.underlying23 hi0 hz0 hz1 hz2 rfl rfl rfl ((unhide H).slw.alloc _) (Sl.single _ 32 (.int .u16 (h : Nat)) (by simp)) (by simp; rfl) (by omega) (by omega) ?_; intro v' wv hsl hgr hblk hsp; obtain ⟨A9, cap9, rfl, _⟩ := hsl.parts; have hA := ((unhide H).alloc _).appendw hsl hgr hblk; clear H hsl hgr hblk hsp; refine unhide ?_)
        clear y0 y1 y3 y4 y6 hkxl
        have y3 : wv.cell? ⟨kx, 3, none⟩ = some (.int .i64 y.size) := (cell_blk (Heap.heap hA.f3) 3).1
        have y1 : wv.cell? ⟨kx, 1, none⟩ = some (.int .u32 y.bits) := (cell_blk (Heap.heap hA.f3) 1).1
        have hkxl := lt_of_heap' (Heap.heap hA.f3)
        have y2 : wv.cell? ⟨kx, 2, none⟩ = some (.int .u32 y.inst) := (cell_blk (Heap.heap hA.f3) 2).1
        rw [unhide Hsz] at y3
        rw [unhide Hbe] at y1
        rw [unhide Hiv] at y2
        have hi3 : bits .and .u32 iv 3 = 3 := by rw [← unhide Hiv]; exact unhide Ins
        have hb0 := unhide Hbv
        have hb1 : 0 ≤ bv ∧ bv < 65536 := by omega
        rw [← unhide Tk] at hA
        have HA := hide (Heap.sort (L1 := [_, _, _, _]) (L2 := [_, _, _, _]) (M := []) hA [2, 1, 3, 0] rfl rfl (by decide)).tail
        clear hA hb0
        refine hide ?_
        go_wp2_with fail
        go_roundw
        case rel => exact ⟨i + 1, i + 1, _, _, _, rfl, by simp, by omega, by omega, unhide Nx, unhide HA⟩
        case measure => simp [intOf]; omega
      · clear HC
        skip
        subst ti
        obtain ⟨nv, hnv⟩ : ∃ nv, w64 (pv + 4) = nv := ⟨_, rfl⟩
        have en : IntKind.u64.wrap (pv + 4) = nv := by rw [IntKind.wrap_u64, ← hnv]; rfl
        have Tk := hide tk
        have Nx := hide next
        have Ins := hide ins
        obtain ⟨bv, hbv⟩ : ∃ bv, y.bits = bv := ⟨_, rfl⟩
        obtain ⟨iv, hiv⟩ : ∃ iv, y.inst = iv := ⟨_, rfl⟩
        have Hbv := hide (hbv.symm.trans bi)
        have Hiv := hide hiv
        have y0 : wu.cell? ⟨kx, 0, none⟩ = some (.int .u64 y.pc) := (cell_blk (Heap.heap (unhide H).f2) 0).1
        have y3 : wu.cell? ⟨kx, 3, none⟩ = some (.int .i64 y.size) := (cell_blk (Heap.heap (unhide H).f2) 3).1
        have y4 : wu.cell? ⟨kx, 4, none⟩ = some (.int .u64 y.cause) := (cell_blk (Heap.heap (unhide H).f2) 4).1
        have y6 : wu.cell? ⟨kx, 6, none⟩ = some (.int .u64 y.nxt) := (cell_blk (Heap.heap (unhide H).f2) 6).1
        have y1 : wu.cell? ⟨kx, 1, none⟩ = some (.int .u32 y.bits) := (cell_blk (Heap.heap (unhide H).f2) 1).1
        have hkxl := lt_of_heap' (Heap.heap (unhide H).f2)
        rw [pcE] at y0
        rw [sz] at y3
        rw [cu] at y4
        rw [nxE, hnv] at y6
        rw [hbv] at y1
        have Hsz := hide sz
        have Hbe := hide hbv
        clear pcE cu sz nxE bi ins tk next hnv hbv hiv Hca
        have bh : IntKind.u16.wrap bv = (f : Nat) := by rw [unhide Hbv, IntKind.wrap_u16]; omega
        have H := hide (Heap.sort (L1 := [_, _, _, _]) (L2 := [_, _, _, _]) (M := []) (unhide H) [3, 0, 1, 2] rfl rfl (by decide))
        go_wp2_with (at_builtin; refine wpList_append_sl (n := t) (m := 1) rfl _ _ 23 rfl 32 i0 _ 1 2 Tryd.underlying23 hi0 hz0 hz1 hz2 rfl rfl rfl ((unhide H).slw.alloc _) (Sl.single _ 32 (.int .u16 (f : Nat)) (by simp)) (by simp; rfl) (by omega) (by omega) ?_; intro v' wv hsl hgr hblk hsp; obtain ⟨A9, cap9, rfl, _⟩ := hsl.parts; have hA := ((unhide H).alloc _).appendw hsl hgr hblk; clear H hsl hgr hblk hsp; refine unhide ?_)
        clear y0 y1 y3 y4 y6 hkxl
        have y3 : wv.cell? ⟨kx, 3, none⟩ = some (.int .i64 y.size) := (cell_blk (Heap.heap hA.f3) 3).1
        have y1 : wv.cell? ⟨kx, 1, none⟩ = some (.int .u32 y.bits) := (cell_blk (Heap.heap hA.f3) 1).1
        have hkxl := lt_of_heap' (Heap.heap hA.f3)
        have y2 : wv.cell? ⟨kx, 2, none⟩ = some (.int .u32 y.inst) := (cell_blk (Heap.heap hA.f3) 2).1
        rw [unhide Hsz] at y3
        rw [unhide Hbe] at y1
        rw [unhide Hiv] at y2
        have HA := hide hA
        have bh2 : IntKind.u16.wrap (bv / 65536) = (h : Nat) := by rw [unhide Hbv, IntKind.wrap_u16]; omega
        clear hA y2
        refine hide ?_
        go_wp2_with (at_builtin; refine wpList_append_sl (n := (t + 1)) (m := 1) rfl _ _ 23 rfl 32 i0 _ 1 2 Tryd.underlying23 hi0 hz0 hz1 hz2 rfl rfl rfl ((unhide HA).slw.alloc _) (Sl.single _ 32 (.int .u16 (h : Nat)) (by simp)) (by simp; rfl) (by omega) (by omega) ?_; intro v' wx hsl hgr hblk hsp; obtain ⟨A9, cap9, rfl, _⟩ := hsl.parts; have hA := ((unhide HA).alloc _).appendw hsl hgr hblk; clear HA hsl hgr hblk hsp; refine unhide ?_)
        clear y1 y3 hkxl
        have y3 : wx.cell? ⟨kx, 3, none⟩ = some (.int .i64 y.size) := (cell_blk (Heap.heap hA.f3) 3).1
        have y1 : wx.cell? ⟨kx, 1, none⟩ = some (.int .u32 y.bits) := (cell_blk (Heap.heap hA.f3) 1).1
        have hkxl := lt_of_heap' (Heap.heap hA.f3)
        have y2 : wx.cell? ⟨kx, 2, none⟩ = some (.int .u32 y.inst) := (cell_blk (Heap.heap hA.f3) 2).1
        rw [unhide Hsz] at y3
        rw [unhide Hbe] at y1
        rw [unhide Hiv] at y2
        have hi3 : bits .and .u32 iv 3 = 3 := by rw [← unhide Hiv]; exact unhide Ins
        rw [← unhide Tk] at hA
        have HA := hide (Heap.sort (L1 := [_, _, _, _]) (L2 := [_, _, _, _]) (M := []) hA [2, 1, 3, 0] rfl rfl (by decide)).tail
        clear hA
        refine hide ?_
        go_wp2_with fail
        go_roundw
        case rel => exact ⟨t + 1 + 1, t + 2, _, _, _, rfl, by simp, by omega, by omega, unhide Nx, unhide HA⟩
        case measure => simp [intOf]; omega
    · obtain rfl : i = n := by omega
      have hq := hR.q
      have hge : t = i ∨ t + 1 = i := by
        cases hs : F.some
        · exact .inl (hR.none hs).symm
        · exact .inr (hR.one hs).1.symm
      have HQ := hide hq
      have H := hide hJ
      clear hq hJ hR e1
      rcases hge with hge | hge
      · subst hge
        go_wp2
        go_loopw [19] (fun s wr => ∃ (k : Nat), s = .int .i64 k ∧ k ≤ t ∧ Heap W wr [HP.fr b g F, HP.gg g c, HP.slw (.slice A2 t cap2) 1 t (hvs (l.take t))]) (fun s _ => t - (intOf s).toNat)
        case atStart => exact ⟨0, rfl, Nat.zero_le _, unhide H⟩
        case round =>
          clear H
          obtain ⟨k, rfl, hk, hJ⟩ := hrel
          by_cases hlt : k < t
          · have hkn : k < t := by omega
            obtain ⟨h, hlh, hx, hat⟩ := unhide HX k hkn
            obtain ⟨ab, ao, rfl, hca⟩ := hat wr hJ.below
            obtain ⟨g1, o1, cap3, hv1, _⟩ := hJ.f3.slw.addr (by omega)
            obtain ⟨hA, _⟩ : A2 = some ⟨g1, o1, none⟩ ∧ True := by
              injection hv1 with h1 _ _
              exact ⟨h1, trivial⟩
            subst hA
            have Hca := hide hca.1
            have HS := hide hJ.f3.slw
            have Htk := hide (hvs_take hlt hlh)
            have H := hide hJ
            clear hv1 hca hlh hat hJ
            go_upto_region 32 with fail
            refine wp_region_F (fun w_ => GN wr w_) GN (fun k_ v_ w_ => match k_ with
                | 0 => v_ = .slice (some ⟨g1, o1, none⟩) t cap2
                | 1 => v_ = .int .i64 (k : Nat)
                | 2 => v_ = .pointer (some ⟨g1, o1 + k * 1, none⟩)
                | 3 => v_ = .int .u16 (h : Nat)
                | 4 => v_ = .slice (some ⟨ab, ao, none⟩) (t) cap
                | 5 => v_ = .int .i64 (k : Nat)
                | 6 => v_ = .pointer (some ⟨ab, ao + k * 1, none⟩)
                | 7 => v_ = .int .u16 (h : Nat)
                | _ => v_ = .bool false) fol (by kernel_rfl) ?_ ?_ ?_ ?_
            · exact (GN.refl wr).drew
            · intro k_ v_ w_ w2_ h1 hg
              split at h1 <;> exact h1
            · intro vals
              show wpG _ _ _ _ _ _ 0 (_ :: _) _
              refine wpG_cons (gval (.slice (some ⟨g1, o1, none⟩) t cap2) GN.refl fun w_ hJ hd => ?_) ?_
              · exact ⟨by kernel_rfl, by kernel_rfl, rfl⟩
              refine wpG_cons (gval (.int .i64 (k : Nat)) GN.refl fun w_ hJ hd => ?_) ?_
              · exact ⟨by kernel_rfl, by kernel_rfl, rfl⟩
              refine wpG_cons (gop (Instr.indexAt 23 (.slice (some ⟨g1, o1, none⟩) t cap2) (.int .i64 (k : Nat))) (.pointer (some ⟨g1, o1 + k * 1, none⟩)) GN.refl fun w_ hJ hd => ?_) ?_
              · have e0 : vals 0 = _ := hd 0 (by decide) (by kernel_rfl)
                have e1 : vals 1 = _ := hd 1 (by decide) (by kernel_rfl)
                rw [e0, e1]
                exact ⟨by kernel_rfl, by kernel_rfl, run_ixat 23 32 1 Tryd.underlying23 (by kernel_rfl) g1 o1 t cap2 k hlt w_, rfl⟩
              refine wpG_cons (gop (Instr.loadAt 32 (.pointer (some ⟨g1, o1 + k * 1, none⟩))) (.int .u16 (h : Nat)) GN.refl fun w_ hJ hd => ?_) ?_
              · have e2 : vals 2 = _ := hd 2 (by decide) (by kernel_rfl)
                rw [e2]
                exact ⟨by kernel_rfl, by kernel_rfl, run_load1 (by kernel_rfl) (by rw [Nat.mul_one]; exact (((unhide HS).gn hJ).at_ (j := k) (by omega)).2.1.trans (unhide Htk)), rfl⟩
              refine wpG_cons (gval (.slice (some ⟨ab, ao, none⟩) (t) cap) GN.refl fun w_ hJ hd => ?_) ?_
              · exact ⟨by kernel_rfl, by kernel_rfl, rfl⟩
              refine wpG_cons (gval (.int .i64 (k : Nat)) GN.refl fun w_ hJ hd => ?_) ?_
              · exact ⟨by kernel_rfl, by kernel_rfl, rfl⟩
              refine wpG_cons (gop (Instr.indexAt 23 (.slice (some ⟨ab, ao, none⟩) (t) cap) (.int .i64 (k : Nat))) (.pointer (some ⟨ab, ao + k * 1, none⟩)) GN.refl fun w_ hJ hd => ?_) ?_
              · have e4 : vals 4 = _ := hd 4 (by decide) (by kernel_rfl)
                have e5 : vals 5 = _ := hd 5 (by decide) (by kernel_rfl)
                rw [e4, e5]
                exact ⟨by kernel_rfl, by kernel_rfl, run_ixat 23 32 1 Tryd.underlying23 (by kernel_rfl) ab ao (t) cap k hkn w_, rfl⟩
              refine wpG_cons (gop (Instr.loadAt 32 (.pointer (some ⟨ab, ao + k * 1, none⟩))) (.int .u16 (h : Nat)) GN.refl fun w_ hJ hd => ?_) ?_
              · have e6 : vals 6 = _ := hd 6 (by decide) (by kernel_rfl)
                rw [e6]
                exact ⟨by kernel_rfl, by kernel_rfl, run_load1 (by kernel_rfl) (by rw [Nat.mul_one]; exact cell_GN hJ (unhide Hca)), rfl⟩
              refine wpG_cons (gop (binOp .neq 32 (.int .u16 (h : Nat)) (.int .u16 (h : Nat))) (.bool false) GN.refl fun w_ hJ hd => ?_) wpG_nil
              · have e3 : vals 3 = _ := hd 3 (by decide) (by kernel_rfl)
                have e7 : vals 7 = _ := hd 7 (by decide) (by kernel_rfl)
                rw [e3, e7]
                exact ⟨by kernel_rfl, by kernel_rfl, run_ne32 _ w_, rfl⟩
            · intro vals w_ hJ hf
              have e0 : vals 0 = _ := hf 0 (by decide)
              have e1 : vals 1 = _ := hf 1 (by decide)
              have e2 : vals 2 = _ := hf 2 (by decide)
              have e3 : vals 3 = _ := hf 3 (by decide)
              have e4 : vals 4 = _ := hf 4 (by decide)
              have e5 : vals 5 = _ := hf 5 (by decide)
              have e6 : vals 6 = _ := hf 6 (by decide)
              have e7 : vals 7 = _ := hf 7 (by decide)
              have e8 : vals 8 = _ := hf 8 (by decide)
              simp only [fillG, Nat.zero_add, Nat.reduceAdd, e0, e1, e2, e3, e4, e5, e6, e7, e8, Act.put, List.setIfInBounds_toArray, List.set_cons_succ, List.set_cons_zero]
              clear e0 e1 e2 e3 e4 e5 e6 e7 e8 hf
              have h9 := (unhide H).grown hJ
              clear hJ H Hca HS Htk
              have H := hide h9
              clear h9
              go_wp2
              go_roundw
              case rel => exact ⟨k + 1, by simp, by omega, unhide H⟩
              case measure => simp [intOf]; omega
          · have hkt : t = k := by omega
            subst hkt
            obtain ⟨y, hy⟩ : ∃ y, headI F = y := ⟨_, rfl⟩
            have hT_ := hide (take_f hJ)
            rw [hy, show (!F.q.isEmpty) = false from by rw [unhide HQ]; rfl] at hT_
            clear hJ hy
            go_wp2_with fail
            refine (unhide hT_).mono ?_
            rintro r wt ⟨rfl, h1⟩
            clear hT_
            have hN := h1.clone #[.int .u64 0, .int .u32 0, .int .u32 0, .int .i64 0, .int .u64 0, .int .u64 0, .int .u64 0, .int .u64 0, .int .u64 0, .int .u64 0, .int .u64 0, .int .i64 0, .int .u64 0] 38 (itl (y)) rfl
            obtain ⟨kx, hkx⟩ : ∃ k, wt.heap.size = k := ⟨_, rfl⟩
            rw [hkx] at hN
            have HN := hide hN
            have Ht := hide (show (wt.alloc (.cells #[.int .u64 0, .int .u32 0, .int .u32 0, .int .i64 0, .int .u64 0, .int .u64 0, .int .u64 0, .int .u64 0, .int .u64 0, .int .u64 0, .int .u64 0, .int .i64 0, .int .u64 0] 38)).there kx 0 (itl (y)).toArray.size from by rw [← hkx]; exact there_new _ _ _ rfl)
            clear hN h1
            go_wp2_with (refine wpList_store_mid rfl 38 (.tmp 20) (.tmp 216) rfl kx 0 (itl (y)).toArray rfl rfl ?_ (by kernel_rfl) (all_oneCell_toArray (itl_cell (y))) ?_
                         rotate_left
                         refine unhide ?_)
            rotate_left
            · exact unhide Ht
            have hN := unhide HN
            change Hid (wpList _ _ _ _ _ ((wt.alloc (.cells #[.int .u64 0, .int .u32 0, .int .u32 0, .int .i64 0, .int .u64 0, .int .u64 0, .int .u64 0, .int .u64 0, .int .u64 0, .int .u64 0, .int .u64 0, .int .i64 0, .int .u64 0] 38)).setCells kx 0 (itl (y))))
            generalize (wt.alloc (.cells #[.int .u64 0, .int .u32 0, .int .u32 0, .int .i64 0, .int .u64 0, .int .u64 0, .int .u64 0, .int .u64 0, .int .u64 0, .int .u64 0, .int .u64 0, .int .i64 0, .int .u64 0] 38)).setCells kx 0 (itl (y)) = wu at hN ⊢
            clear HN Ht hkx
            have H := hide hN.f2
            clear hN
            refine hide ?_
            have Hb := hide (unhide H).below
            clear H
            go_wp2
            go_ret
            exact ⟨rfl, unhide Hb⟩
      · subst hge
        go_wp2
        go_loopw [19] (fun s wr => ∃ (k : Nat), s = .int .i64 k ∧ k ≤ t ∧ Heap W wr [HP.fr b g F, HP.gg g c, HP.slw (.slice A2 t cap2) 1 t (hvs (l.take t))]) (fun s _ => t - (intOf s).toNat)
        case atStart => exact ⟨0, rfl, Nat.zero_le _, unhide H⟩
        case round =>
          clear H
          obtain ⟨k, rfl, hk, hJ⟩ := hrel
          by_cases hlt : k < t
          · have hkn : k < (t + 1) := by omega
            obtain ⟨h, hlh, hx, hat⟩ := unhide HX k hkn
            obtain ⟨ab, ao, rfl, hca⟩ := hat wr hJ.below
            obtain ⟨g1, o1, cap3, hv1, _⟩ := hJ.f3.slw.addr (by omega)
            obtain ⟨hA, _⟩ : A2 = some ⟨g1, o1, none⟩ ∧ True := by
              injection hv1 with h1 _ _
              exact ⟨h1, trivial⟩
            subst hA
            have Hca := hide hca.1
            have HS := hide hJ.f3.slw
            have Htk := hide (hvs_take hlt hlh)
            have H := hide hJ
            clear hv1 hca hlh hat hJ
            go_upto_region 32 with fail
            refine wp_region_F (fun w_ => GN wr w_) GN (fun k_ v_ w_ => match k_ with
                | 0 => v_ = .slice (some ⟨g1, o1, none⟩) t cap2
                | 1 => v_ = .int .i64 (k : Nat)
                | 2 => v_ = .pointer (some ⟨g1, o1 + k * 1, none⟩)
                | 3 => v_ = .int .u16 (h : Nat)
                | 4 => v_ = .slice (some ⟨ab, ao, none⟩) ((t + 1)) cap
                | 5 => v_ = .int .i64 (k : Nat)
                | 6 => v_ = .pointer (some ⟨ab, ao + k * 1, none⟩)
                | 7 => v_ = .int .u16 (h : Nat)
                | _ => v_ = .bool false) fol (by kernel_rfl) ?_ ?_ ?_ ?_
            · exact (GN.refl wr).drew
            · intro k_ v_ w_ w2_ h1 hg
              split at h1 <;> exact h1
            · intro vals
              show wpG _ _ _ _ _ _ 0 (_ :: _) _
              refine wpG_cons (gval (.slice (some ⟨g1, o1, none⟩) t cap2) GN.refl fun w_ hJ hd => ?_) ?_
              · exact ⟨by kernel_rfl, by kernel_rfl, rfl⟩
              refine wpG_cons (gval (.int .i64 (k : Nat)) GN.refl fun w_ hJ hd => ?_) ?_
              · exact ⟨by kernel_rfl, by kernel_rfl, rfl⟩
              refine wpG_cons (gop (Instr.indexAt 23 (.slice (some ⟨g1, o1, none⟩) t cap2) (.int .i64 (k : Nat))) (.pointer (some ⟨g1, o1 + k * 1, none⟩)) GN.refl fun w_ hJ hd => ?_) ?_
              · have e0 : vals 0 = _ := hd 0 (by decide) (by kernel_rfl)
                have e1 : vals 1 = _ := hd 1 (by decide) (by kernel_rfl)
                rw [e0, e1]
                exact ⟨by kernel_rfl, by kernel_rfl, run_ixat 23 32 1 Tryd.underlying23 (by kernel_rfl) g1 o1 t cap2 k hlt w_, rfl⟩
              refine wpG_cons (gop (Instr.loadAt 32 (.pointer (some ⟨g1, o1 + k * 1, none⟩))) (.int .u16 (h : Nat)) GN.refl fun w_ hJ hd => ?_) ?_
              · have e2 : vals 2 = _ := hd 2 (by decide) (by kernel_rfl)
                rw [e2]
                exact ⟨by kernel_rfl, by kernel_rfl, run_load1 (by kernel_rfl) (by rw [Nat.mul_one]; exact (((unhide HS).gn hJ).at_ (j := k) (by omega)).2.1.trans (unhide Htk)), rfl⟩
              refine wpG_cons (gval (.slice (some ⟨ab, ao, none⟩) ((t + 1)) cap) GN.refl fun w_ hJ hd => ?_) ?_
              · exact ⟨by kernel_rfl, by kernel_rfl, rfl⟩
              refine wpG_cons (gval (.int .i64 (k : Nat)) GN.refl fun w_ hJ hd => ?_) ?_
              · exact ⟨by kernel_rfl, by kernel_rfl, rfl⟩
              refine wpG_cons (gop (Instr.indexAt 23 (.slice (some ⟨ab, ao, none⟩) ((t + 1)) cap) (.int .i64 (k : Nat))) (.pointer (some ⟨ab, ao + k * 1, none⟩)) GN.refl fun w_ hJ hd => ?_) ?_
              · have e4 : vals 4 = _ := hd 4 (by decide) (by kernel_rfl)
                have e5 : vals 5 = _ := hd 5 (by decide) (by kernel_rfl)
                rw [e4, e5]
                exact ⟨by kernel_rfl, by kernel_rfl, run_ixat 23 32 1 Tryd.underlying23 (by kernel_rfl) ab ao ((t + 1)) cap k hkn w_, rfl⟩
              refine wpG_cons (gop (Instr.loadAt 32 (.pointer (some ⟨ab, ao + k * 1, none⟩))) (.int .u16 (h : Nat)) GN.refl fun w_ hJ hd => ?_) ?_
              · have e6 : vals 6 = _ := hd 6 (by decide) (by kernel_rfl)
                rw [e6]
                exact ⟨by kernel_rfl, by kernel_rfl, run_load1 (by kernel_rfl) (by rw [Nat.mul_one]; exact cell_GN hJ (unhide Hca)), rfl⟩
              refine wpG_cons (gop (binOp .neq 32 (.int .u16 (h : Nat)) (.int .u16 (h : Nat))) (.bool false) GN.refl fun w_ hJ hd => ?_) wpG_nil
              · have e3 : vals 3 = _ := hd 3 (by decide) (by kernel_rfl)
                have e7 : vals 7 = _ := hd 7 (by decide) (by kernel_rfl)
                rw [e3, e7]
                exact ⟨by kernel_rfl, by kernel_rfl, run_ne32 _ w_, rfl⟩
            · intro vals w_ hJ hf
              have e0 : vals 0 = _ := hf 0 (by decide)
              have e1 : vals 1 = _ := hf 1 (by decide)
              have e2 : vals 2 = _ := hf 2 (by decide)
              have e3 : vals 3 = _ := hf 3 (by decide)
              have e4 : vals 4 = _ := hf 4 (by decide)
              have e5 : vals 5 = _ := hf 5 (by decide)
              have e6 : vals 6 = _ := hf 6 (by decide)
              have e7 : vals 7 = _ := hf 7 (by decide)
              have e8 : vals 8 = _ := hf 8 (by decide)
              simp only [fillG, Nat.zero_add, Nat.reduceAdd, e0, e1, e2, e3, e4, e5, e6, e7, e8, Act.put, List.setIfInBounds_toArray, List.set_cons_succ, List.set_cons_zero]
              clear e0 e1 e2 e3 e4 e5 e6 e7 e8 hf
              have h9 := (unhide H).grown hJ
              clear hJ H Hca HS Htk
              have H := hide h9
              clear h9
              go_wp2
              go_roundw
              case rel => exact ⟨k + 1, by simp, by omega, unhide H⟩
              case measure => simp [intOf]; omega
          · have hkt : t = k := by omega
            subst hkt
            obtain ⟨y, hy⟩ : ∃ y, headI F = y := ⟨_, rfl⟩
            have hT_ := hide (take_f hJ)
            rw [hy, show (!F.q.isEmpty) = false from by rw [unhide HQ]; rfl] at hT_
            clear hJ hy
            go_wp2_with fail
            refine (unhide hT_).mono ?_
            rintro r wt ⟨rfl, h1⟩
            clear hT_
            have hN := h1.clone #[.int .u64 0, .int .u32 0, .int .u32 0, .int .i64 0, .int .u64 0, .int .u64 0, .int .u64 0, .int .u64 0, .int .u64 0, .int .u64 0, .int .u64 0, .int .i64 0, .int .u64 0] 38 (itl (y)) rfl
            obtain ⟨kx, hkx⟩ : ∃ k, wt.heap.size = k := ⟨_, rfl⟩
            rw [hkx] at hN
            have HN := hide hN
            have Ht := hide (show (wt.alloc (.cells #[.int .u64 0, .int .u32 0, .int .u32 0, .int .i64 0, .int .u64 0, .int .u64 0, .int .u64 0, .int .u64 0, .int .u64 0, .int .u64 0, .int .u64 0, .int .i64 0, .int .u64 0] 38)).there kx 0 (itl (y)).toArray.size from by rw [← hkx]; exact there_new _ _ _ rfl)
            clear hN h1
            go_wp2_with (refine wpList_store_mid rfl 38 (.tmp 20) (.tmp 216) rfl kx 0 (itl (y)).toArray rfl rfl ?_ (by kernel_rfl) (all_oneCell_toArray (itl_cell (y))) ?_
                         rotate_left
                         refine unhide ?_)
            rotate_left
            · exact unhide Ht
            have hN := unhide HN
            change Hid (wpList _ _ _ _ _ ((wt.alloc (.cells #[.int .u64 0, .int .u32 0, .int .u32 0, .int .i64 0, .int .u64 0, .int .u64 0, .int .u64 0, .int .u64 0, .int .u64 0, .int .u64 0, .int .u64 0, .int .i64 0, .int .u64 0] 38)).setCells kx 0 (itl (y))))
            generalize (wt.alloc (.cells #[.int .u64 0, .int .u32 0, .int .u32 0, .int .i64 0, .int .u64 0, .int .u64 0, .int .u64 0, .int .u64 0, .int .u64 0, .int .u64 0, .int .u64 0, .int .i64 0, .int .u64 0] 38)).setCells kx 0 (itl (y)) = wu at hN ⊢
            clear HN Ht hkx
            have H := hide hN.f2
            clear hN
            refine hide ?_
            have Hb := hide (unhide H).below
            clear H
            go_wp2
            go_ret
            exact ⟨rfl, unhide Hb⟩
end
end Go.Proofs.YtblbgalpkodibaaDoor
