/- The end of the laws of the port: do both stand alike. -/
import Derived.Test.YtaholijnfekkgaaU8
import Derived.Test.YtaholijnfekkgaaRegion
namespace Go.Proofs.Ytaholijnfekkgaa
open Go.RowKit

def GN (w w' : World) : Prop := w.grownBy w' none
section
variable {w0 w w' : World} {L : List HP} {b br : Nat} {q s came : List Int} {rd : Nat} {wa lo : Bool} {sc : Int}
theorem rd_le (h : Heap w0 w (HP.ru br came s rd wa lo sc :: L)) : rd ≤ came.length := by
  obtain ⟨_, _, hu, _⟩ := h.ru
  exact hu.hr
theorem uu_sb (h : Heap w0 w (HP.uu b q s wa lo sc :: L)) : ∀ x ∈ s, 0 ≤ x ∧ x < 256 := by
  obtain ⟨_, _, hu, _⟩ := h.uu
  exact hu.sb
theorem uu_qb (h : Heap w0 w (HP.uu b q s wa lo sc :: L)) : ∀ x ∈ q, 0 ≤ x ∧ x < 256 := by
  obtain ⟨_, _, hu, _⟩ := h.uu
  exact hu.qb
theorem str_neq_same (P : Program) (z : ByteArray) (w : World) : (binOp .neq 9 (.string z) (.string z)).run P w = .ok (.bool false) w := by simp [binOp_string_neq]
theorem str_eql_same (P : Program) (z : ByteArray) (w : World) : (binOp .eql 9 (.string z) (.string z)).run P w = .ok (.bool true) w := by simp [binOp_string_eql]
theorem GN.refl (w : World) : GN w w := grown_self w none
theorem sent_q (h : Heap w0 w (HP.uu b q s wa lo sc :: L)) (hs : s.length ≤ 140737488355328) : Calls Try.prog 20 #[.pointer (some ⟨b, 0, none⟩)] w fun e w' =>
    ∃ v', e = .returned v' ∧ Sl w' 1 v' s.length (s.map bv) ∧ w.grownBy w' none := by
  obtain ⟨qv, sv, hu, _⟩ := h.uu
  exact (sent_any hu hs).mono fun _ _ ⟨v', he, hsl, hg, hb⟩ => ⟨v', he, hsl, hg⟩
theorem sentR_q (h : Heap w0 w (HP.ru b q s rd wa lo sc :: L)) (hs : s.length ≤ 140737488355328) : Calls Try.prog 21 #[.pointer (some ⟨b, 0, none⟩)] w fun e w' =>
    ∃ v', e = .returned v' ∧ Sl w' 1 v' s.length (s.map bv) ∧ w.grownBy w' none := by
  obtain ⟨qv, sv, hu, _⟩ := h.ru
  exact (sentR_any hu hs).mono fun _ _ ⟨v', he, hsl, hg, hb⟩ => ⟨v', he, hsl, hg⟩
set_option maxRecDepth 100000 in
set_option maxHeartbeats 1600000 in
theorem ends_h (h : Heap w0 w (HP.uu b q s wa lo sc :: HP.ru br came s rd wa lo sc :: L)) (hq : q = came.drop rd) (hl : came.length < 140737488355327) (hs : s.length < 140737488355327) :
    Calls Try.prog 22 #[.pointer (some ⟨b, 0, none⟩), .pointer (some ⟨br, 0, none⟩)] w fun e w' => e = .returned (.bool true) ∧ Heap w0 w' L := by
  have hup : (wa && decide (rd < came.length)) = (wa && decide (0 < q.length)) := by
    rw [hq, List.length_drop]; congr 1; exact decide_eq_decide.2 (by omega)
  obtain ⟨i0, hi, hz0, hz1, hz2⟩ := info_parts info5
  go_enter Try.func22, Try.ntmps22
  go_wp2
  refine wp_region_F (fun w => Heap w0 w (HP.uu b q s wa lo sc :: HP.ru br came s rd wa lo sc :: L)) GN
    (fun k v w => match k with
      | 0 => v = .pointer (some ⟨b, 0, none⟩)
      | 1 => v = .bool (wa && decide (0 < q.length))
      | 2 => v = .pointer (some ⟨br, 0, none⟩)
      | 3 => v = .bool (wa && decide (0 < q.length))
      | 4 => v = .bool false
      | 5 => v = .bool false
      | 6 => v = .pointer (some ⟨b, 0, none⟩)
      | 7 => Sl w 1 v s.length (s.map bv)
      | 8 => v = .string (strOf s)
      | 9 => v = .pointer (some ⟨br, 0, none⟩)
      | 10 => Sl w 1 v s.length (s.map bv)
      | 11 => v = .string (strOf s)
      | _ => v = .bool false) fol (by kernel_rfl) ?_ ?_ ?_ ?_
  · exact h.drew
  · intro k v w w' h1 hg
    split at h1 <;> first | exact h1 | exact h1.kept (row := none) hg (fun _ _ h => by cases h)
  · intro vals
    show wpG _ _ _ _ _ _ 0 (_ :: _) _
    refine wpG_cons (gval (.pointer (some ⟨b, 0, none⟩)) GN.refl fun w hJ hd => ⟨by kernel_rfl, by kernel_rfl, rfl⟩) ?_
    refine wpG_cons (gcall 18 #[.pointer (some ⟨b, 0, none⟩)] fun w hJ hd => ?_) ?_
    · have e0 : vals 0 = _ := hd 0 (by decide) (by kernel_rfl)
      rw [e0]
      exact ⟨by kernel_rfl, by kernel_rfl, (up_h hJ).mono fun e w' ⟨he, hw⟩ => ⟨_, he, by rw [hw]; exact hJ, by rw [hw]; exact GN.refl _, rfl⟩⟩
    refine wpG_cons (gval (.pointer (some ⟨br, 0, none⟩)) GN.refl fun w hJ hd => ⟨by kernel_rfl, by kernel_rfl, rfl⟩) ?_
    refine wpG_cons (gcall 19 #[.pointer (some ⟨br, 0, none⟩)] fun w hJ hd => ?_) ?_
    · have e0 : vals 2 = _ := hd 2 (by decide) (by kernel_rfl)
      rw [e0]
      exact ⟨by kernel_rfl, by kernel_rfl, (upR_h hJ.f2).mono fun e w' ⟨he, n, hw⟩ => ⟨_, he, by rw [hw]; exact hJ.drewN n, by rw [hw]; exact grown_drewN (grown_self _ _) _, by rw [hup]; rfl⟩⟩
    refine wpG_cons (gval (.bool false) GN.refl fun w hJ hd => ?_) ?_
    · have e0 : vals 1 = _ := hd 1 (by decide) (by kernel_rfl)
      have e1 : vals 3 = _ := hd 3 (by decide) (by kernel_rfl)
      rw [e0, e1]
      generalize (wa && decide (0 < q.length)) = u
      cases u <;> exact ⟨by kernel_rfl, by kernel_rfl, rfl⟩
    refine wpG_cons (gval (.bool false) GN.refl fun w hJ hd => ?_) ?_
    · have e0 : vals 4 = _ := hd 4 (by decide) (by kernel_rfl)
      rw [e0]
      exact ⟨by kernel_rfl, by kernel_rfl, rfl⟩
    refine wpG_cons (gval (.pointer (some ⟨b, 0, none⟩)) GN.refl fun w hJ hd => ?_) ?_
    · have e0 : vals 5 = _ := hd 5 (by decide) (by kernel_rfl)
      rw [e0]
      exact ⟨by kernel_rfl, by kernel_rfl, rfl⟩
    refine wpG_cons (gcall 20 #[.pointer (some ⟨b, 0, none⟩)] fun w hJ hd => ?_) ?_
    · have e0 : vals 5 = _ := hd 5 (by decide) (by kernel_rfl)
      have e1 : vals 6 = _ := hd 6 (by decide) (by kernel_rfl)
      rw [e0, e1]
      exact ⟨by kernel_rfl, by kernel_rfl, (sent_q hJ (by omega)).mono fun e w' ⟨v, he, hsl, hg⟩ => ⟨_, he, hJ.grown hg, hg, hsl⟩⟩
    refine wpG_cons (gop (convert 35 9 (vals 7)) (.string (strOf s)) GN.refl fun w hJ hd => ?_) ?_
    · have e0 : vals 5 = _ := hd 5 (by decide) (by kernel_rfl)
      have e1 : Sl w 1 (vals 7) s.length (s.map bv) := hd 7 (by decide) (by kernel_rfl)
      rw [e0]
      exact ⟨by kernel_rfl, by kernel_rfl, conv_sl e1, rfl⟩
    refine wpG_cons (gval (.pointer (some ⟨br, 0, none⟩)) GN.refl fun w hJ hd => ?_) ?_
    · have e0 : vals 5 = _ := hd 5 (by decide) (by kernel_rfl)
      rw [e0]
      exact ⟨by kernel_rfl, by kernel_rfl, rfl⟩
    refine wpG_cons (gcall 21 #[.pointer (some ⟨br, 0, none⟩)] fun w hJ hd => ?_) ?_
    · have e0 : vals 5 = _ := hd 5 (by decide) (by kernel_rfl)
      have e1 : vals 9 = _ := hd 9 (by decide) (by kernel_rfl)
      rw [e0, e1]
      exact ⟨by kernel_rfl, by kernel_rfl, (sentR_q hJ.f2 (by omega)).mono fun e w' ⟨v, he, hsl, hg⟩ => ⟨_, he, hJ.grown hg, hg, hsl⟩⟩
    refine wpG_cons (gop (convert 35 9 (vals 10)) (.string (strOf s)) GN.refl fun w hJ hd => ?_) ?_
    · have e0 : vals 5 = _ := hd 5 (by decide) (by kernel_rfl)
      have e1 : Sl w 1 (vals 10) s.length (s.map bv) := hd 10 (by decide) (by kernel_rfl)
      rw [e0]
      exact ⟨by kernel_rfl, by kernel_rfl, conv_sl e1, rfl⟩
    refine wpG_cons (gop (binOp .neq 9 (.string (strOf s)) (.string (strOf s))) (.bool false) GN.refl fun w hJ hd => ?_) ?_
    · have e0 : vals 5 = _ := hd 5 (by decide) (by kernel_rfl)
      have e1 : vals 8 = _ := hd 8 (by decide) (by kernel_rfl)
      have e2 : vals 11 = _ := hd 11 (by decide) (by kernel_rfl)
      rw [e0, e1, e2]
      exact ⟨by kernel_rfl, by kernel_rfl, str_neq_same _ _ _, rfl⟩
    refine wpG_cons (gval (.bool false) GN.refl fun w hJ hd => ?_) wpG_nil
    · have e0 : vals 5 = _ := hd 5 (by decide) (by kernel_rfl)
      have e1 : vals 12 = _ := hd 12 (by decide) (by kernel_rfl)
      rw [e0, e1]
      exact ⟨by kernel_rfl, by kernel_rfl, rfl⟩
  · intro vals w hJ hf
    have e0 : vals 0 = _ := hf 0 (by decide)
    have e1 : vals 1 = _ := hf 1 (by decide)
    have e2 : vals 2 = _ := hf 2 (by decide)
    have e3 : vals 3 = _ := hf 3 (by decide)
    have e4 : vals 4 = _ := hf 4 (by decide)
    have e5 : vals 5 = _ := hf 5 (by decide)
    have e6 : vals 6 = _ := hf 6 (by decide)
    have e8 : vals 8 = _ := hf 8 (by decide)
    have e9 : vals 9 = _ := hf 9 (by decide)
    have e11 : vals 11 = _ := hf 11 (by decide)
    have e12 : vals 12 = _ := hf 12 (by decide)
    have e13 : vals 13 = _ := hf 13 (by decide)
    simp only [fillG, Nat.zero_add, Nat.reduceAdd, e0, e1, e2, e3, e4, e5, e6, e8, e9, e11, e12, e13, Act.put, List.setIfInBounds_toArray, List.set_cons_succ, List.set_cons_zero]
    clear e0 e1 e2 e3 e4 e5 e6 e8 e9 e11 e12 e13 hf
    generalize vals 7 = v7
    generalize vals 10 = v10
    have hJ2 : Heap w0 w (HP.uu b (came.drop rd) s wa lo sc :: HP.ru br came s rd wa lo sc :: L) := hq ▸ hJ
    clear hJ h hup hq
    go_wp2
    go_loopw [5] (fun i wr => ∃ (k rd : Nat) (lo : Bool), i = .int .i64 k ∧ k ≤ 18 ∧ Heap w0 wr (HP.uu b (came.drop rd) s wa lo sc :: HP.ru br came s rd wa lo sc :: L)) (fun i _ => 18 - (intOf i).toNat)
    case atStart => exact ⟨0, rd, lo, rfl, Nat.zero_le _, hJ2⟩
    case round =>
      clear hJ2
      obtain ⟨k, rd, lo, rfl, hk, hJ2⟩ := hrel
      by_cases hlt : k < 18
      · have hkd : decide ((k : Int) < 18) = true := by simp; omega
        go_wp2
        obtain ⟨wo, rfl⟩ : ∃ wo : World, wo = wr := ⟨_, rfl⟩
        go_loopw [6] (fun i wr => ∃ (j rd : Nat) (lo : Bool), i = .int .u64 j ∧ j ≤ 9 ∧ Heap w0 wr (HP.uu b (came.drop rd) s wa lo sc :: HP.ru br came s rd wa lo sc :: L)) (fun i _ => 9 - (intOf i).toNat)
        case atStart => exact ⟨0, rd, lo, rfl, Nat.zero_le _, hJ2⟩
        case round =>
          clear hJ2
          obtain ⟨j, rd, lo, rfl, hj, hJ2⟩ := hrel
          by_cases hjl : j < 9
          · have k0 : (0 : Int) ≤ ((j : Int) * 5 + (k : Int)) % 9 := by omega
            go_wp2_with fail
            refine (read_h hJ2 _ 1 k0).mono ?_
            rintro e w1 ⟨rfl, hJ3⟩
            clear hJ2
            rw [rQ_drop _ _ _ _ (rd_le hJ3.f2)] at hJ3
            go_wp2_with fail
            refine (readR_h hJ3.f2 (by omega) _ 1 k0).mono ?_
            rintro e w2 ⟨rfl, hJ4⟩
            have hJ5 := hJ4.f2
            clear hJ3 hJ4
            go_wp2_with fail
            go_roundw
            case rel => exact ⟨j + 1, _, _, by go_num, by omega, hJ5⟩
            case measure => simp [intOf]; omega
          · obtain rfl : j = 9 := by omega
            go_wp2
            go_roundw
            case rel => exact ⟨k + 1, _, _, by go_num, by omega, hJ2⟩
            case measure => simp [intOf]; omega
      · obtain rfl : k = 18 := by omega
        have hsb := uu_sb hJ2
        have hone := bv_one [7]
        go_wp2_with fail
        refine (sent_h hJ2 (by omega)).mono ?_
        rintro e w1 ⟨v1, rfl, hsl, hJ3⟩
        clear hJ2
        obtain ⟨A1, cap1, rfl, hcap1⟩ := hsl.parts
        clear hsl
        go_wp2_with fail
        go_loopw [13] (fun i wr => ∃ (k : Nat) (ys : List Int), i = .int .i64 k ∧ k ≤ s.length ∧ ys.length = s.length ∧ (∀ x ∈ ys, 0 ≤ x ∧ x < 256) ∧ Heap w0 wr (HP.slw (.slice A1 s.length cap1) 1 s.length (ys.map bv) :: HP.uu b (came.drop rd) s wa lo sc :: HP.ru br came s rd wa lo sc :: L)) (fun i _ => s.length - (intOf i).toNat)
        case atStart => exact ⟨0, s, rfl, Nat.zero_le _, rfl, hsb, hJ3⟩
        case round =>
          clear hJ3
          obtain ⟨j, ys, rfl, hj, hys, hys0, hJ3⟩ := hrel
          by_cases hjl : j < s.length
          · have hsl := hJ3.slw
            obtain ⟨g, o, cap, hv, hcc, hg, _, hcell, hfr⟩ := hsl.cell (j := j) (by omega)
            injection hv with hv1 hv2 hv3
            subst hv1
            subst hv3
            have hy : (ys.map bv)[j]? = some (bv ys[j]) := by simp [List.getElem?_map, List.getElem?_eq_getElem (show j < ys.length by omega)]
            rw [hy] at hcell
            unfold bv at hcell
            have hx0 := hys0 ys[j] (List.getElem_mem (by omega))
            have hW := hJ3.write (j := j) (by omega) (bv ((ys[j] + 1) % 256))
            rw [← List.map_set] at hW
            have hW' := hide hW
            clear hsl hy hv2 hW hJ3
            go_wp2
            refine ⟨⟨j + 1, ys.set j ((ys[j] + 1) % 256), by go_num, by omega, by simpa using hys, fun x hx => ?_, unhide hW'⟩, by simp [intOf]; omega⟩
            rcases List.mem_or_eq_of_mem_set hx with h1 | h1
            · exact hys0 x h1
            · subst h1; omega
          · obtain rfl : s.length = j := by omega
            go_wp2_with (at_builtin; refine wpList_append_sl rfl _ _ 35 rfl 5 i0 _ 1 1 Try.underlying35 hi hz0 hz1 hz2 rfl rfl rfl (hJ3.slw.alloc _) (Sl.one _ 5 (.int .u8 7)) hone (by omega) (by omega) ?_; intro v' w' hsl hgr hblk hsp)
            have hJ4 : Heap w0 w' (HP.uu b (came.drop rd) s wa lo sc :: HP.ru br came s rd wa lo sc :: L) := ((hJ3.alloc _).appendw hsl hgr hblk).tail
            clear hJ3 hsl hgr hblk hsp
            refine wp_region_F (fun w => Heap w0 w (HP.uu b (came.drop rd) s wa lo sc :: HP.ru br came s rd wa lo sc :: L)) GN (fun k v w => match k with
                | 0 => v = .pointer (some ⟨b, 0, none⟩)
                | 1 => Sl w 1 v s.length (s.map bv)
                | 2 => v = .string (strOf s)
                | 3 => v = .pointer (some ⟨br, 0, none⟩)
                | 4 => Sl w 1 v s.length (s.map bv)
                | 5 => v = .string (strOf s)
                | 6 => v = .bool true
                | _ => v = .bool true) fol (by kernel_rfl) ?_ ?_ ?_ ?_
            · exact hJ4.drew
            · intro k v w w' h1 hg
              split at h1 <;> first | exact h1 | exact h1.kept (row := none) hg (fun _ _ h => by cases h)
            · intro vals
              show wpG _ _ _ _ _ _ 0 (_ :: _) _
              refine wpG_cons (gval (.pointer (some ⟨b, 0, none⟩)) GN.refl fun w hJ hd => ?_) ?_
              · exact ⟨by kernel_rfl, by kernel_rfl, rfl⟩
              refine wpG_cons (gcall 20 #[.pointer (some ⟨b, 0, none⟩)] fun w hJ hd => ?_) ?_
              · have e0 : vals 0 = _ := hd 0 (by decide) (by kernel_rfl)
                rw [e0]
                exact ⟨by kernel_rfl, by kernel_rfl, (sent_q hJ (by omega)).mono fun e w' ⟨v, he, hsl, hg⟩ => ⟨_, he, hJ.grown hg, hg, hsl⟩⟩
              refine wpG_cons (gop (convert 35 9 (vals 1)) (.string (strOf s)) GN.refl fun w hJ hd => ?_) ?_
              · have e1 : Sl w 1 (vals 1) s.length (s.map bv) := hd 1 (by decide) (by kernel_rfl)
                exact ⟨by kernel_rfl, by kernel_rfl, conv_sl e1, rfl⟩
              refine wpG_cons (gval (.pointer (some ⟨br, 0, none⟩)) GN.refl fun w hJ hd => ?_) ?_
              · exact ⟨by kernel_rfl, by kernel_rfl, rfl⟩
              refine wpG_cons (gcall 21 #[.pointer (some ⟨br, 0, none⟩)] fun w hJ hd => ?_) ?_
              · have e3 : vals 3 = _ := hd 3 (by decide) (by kernel_rfl)
                rw [e3]
                exact ⟨by kernel_rfl, by kernel_rfl, (sentR_q hJ.f2 (by omega)).mono fun e w' ⟨v, he, hsl, hg⟩ => ⟨_, he, hJ.grown hg, hg, hsl⟩⟩
              refine wpG_cons (gop (convert 35 9 (vals 4)) (.string (strOf s)) GN.refl fun w hJ hd => ?_) ?_
              · have e4 : Sl w 1 (vals 4) s.length (s.map bv) := hd 4 (by decide) (by kernel_rfl)
                exact ⟨by kernel_rfl, by kernel_rfl, conv_sl e4, rfl⟩
              refine wpG_cons (gop (binOp .eql 9 (.string (strOf s)) (.string (strOf s))) (.bool true) GN.refl fun w hJ hd => ?_) ?_
              · have e2 : vals 2 = _ := hd 2 (by decide) (by kernel_rfl)
                have e5 : vals 5 = _ := hd 5 (by decide) (by kernel_rfl)
                rw [e2, e5]
                exact ⟨by kernel_rfl, by kernel_rfl, str_eql_same _ _ _, rfl⟩
              refine wpG_cons (gval (.bool true) GN.refl fun w hJ hd => ?_) wpG_nil
              · have e6 : vals 6 = _ := hd 6 (by decide) (by kernel_rfl)
                rw [e6]
                exact ⟨by kernel_rfl, by kernel_rfl, rfl⟩
            · intro vals w hJ hf
              have e0 : vals 0 = _ := hf 0 (by decide)
              have e2 : vals 2 = _ := hf 2 (by decide)
              have e3 : vals 3 = _ := hf 3 (by decide)
              have e5 : vals 5 = _ := hf 5 (by decide)
              have e6 : vals 6 = _ := hf 6 (by decide)
              have e7 : vals 7 = _ := hf 7 (by decide)
              simp only [fillG, Nat.zero_add, Nat.reduceAdd, e0, e2, e3, e5, e6, e7, Act.put, List.setIfInBounds_toArray, List.set_cons_succ, List.set_cons_zero]
              clear e0 e2 e3 e5 e6 e7 hf
              generalize vals 1 = v1
              generalize vals 4 = v4
              go_wp2
              go_ret
              exact ⟨rfl, hJ.tail.tail⟩
end
end Go.Proofs.Ytaholijnfekkgaa
