/- Layer 23: LsqDoes: Where. -/
import Derived.Test.YtdmkgomcomcfhaaR12
namespace Go.Proofs.Ytdmkgomcomcfhaa
open Go.RowKit
set_option maxRecDepth 1000000 in
set_option maxHeartbeats 8000000 in
theorem caseWhere {W wr : World} {ab ao n cap bq br k : Nat} {s : Qs} {tg a sz v : Int} (hn : n ≤ 4398046511104) (hab : ab < wr.heap.size)
    (x0 : wr.cell? ⟨ab, ao + k * 5, none⟩ = some (.int .i64 2)) (x1 : wr.cell? ⟨ab, ao + k * 5 + 1, none⟩ = some (.int .i64 tg)) (x2 : wr.cell? ⟨ab, ao + k * 5 + 2, none⟩ = some (.int .u64 a)) (x3 : wr.cell? ⟨ab, ao + k * 5 + 3, none⟩ = some (.int .i64 sz)) (x4 : wr.cell? ⟨ab, ao + k * 5 + 4, none⟩ = some (.int .u64 v))
    (ht : -9223372036854775808 ≤ tg ∧ tg < 9223372036854775808) (ha : 0 ≤ a ∧ a < 18446744073709551616) (hv : 0 ≤ v ∧ v < 18446744073709551616) (hJ : Heap W wr [HP.q bq s, HP.r br s]) (hlt : k < n)  (Q0 : Exit → Act → World → Prop) (c1 c26 c27 c28 c29 u2 u6 u7 u8 u9 u10 u11 u12 u13 u14 u15 u16 u17 u18 u19 u20 u21 u22 u23 u24 u25 u30 u31 u32 u33 u34 u35 u36 u37 u38 u39 u40 u41 u42 u43 u44 u45 u46 u47 u48 u49 u50 u51 u52 u53 u54 u55 u56 u57 u58 u59 u60 u61 u62 u63 u64 u65 u66 u67 u68 u69 u70 u71 u72 u73 u74 u75 u76 u77 u78 u79 u80 u81 u82 u83 u84 u85 u86 u87 u88 u89 u90 u91 u92 u93 u94 u95 u96 u97 u98 u99 u100 u101 u102 u103 u104 u105 u106 u107 u108 u109 u110 u111 u112 u113 u114 u115 u116 u117 u118 u119 u120 u121 u122 u123 u124 u125 u126 u127 u128 u129 u130 u131 u132 u133 u134 u135 u136 u137 u138 u139 u140 u141 u142 u143 u144 u145 u146 u147 u148 u149 u150 u151 u152 u153 u154 u155 u156 u157 u158 u159 u160 u161 u162 u163 u164 u165 u166 u167 u168 u169 u170 u171 u172 u173 u174 u175 u176 u177 u178 u179 u180 u181 u182 u183 u184 u185 u186 u187 u188 u189 u190 u191 u192 u193 u194 u195 u196 u197 u198 u199 u200 u201 u202 u203 : Value) :
    Code.wp Try.prog bodyD (Exit.then (fun a' w'' => WIDo c1 c26 c27 c28 c29 W (some ⟨ab, ao, none⟩) n cap bq br a' w'' ∧ WmuD n a' w'' < n - k) Q0) ⟨#[.slice (some ⟨ab, ao, none⟩) n cap, c1, u2, .pointer (some ⟨bq, 0, none⟩), .pointer (some ⟨br, 0, none⟩), .int .i64 (k : Int), u6, u7, u8, u9, u10, u11, u12, u13, u14, u15, u16, u17, u18, u19, u20, u21, u22, u23, u24, u25, c26, c27, c28, c29, u30, u31, u32, u33, u34, u35, u36, u37, u38, u39, u40, u41, u42, u43, u44, u45, u46, u47, u48, u49, u50, u51, u52, u53, u54, u55, u56, u57, u58, u59, u60, u61, u62, u63, u64, u65, u66, u67, u68, u69, u70, u71, u72, u73, u74, u75, u76, u77, u78, u79, u80, u81, u82, u83, u84, u85, u86, u87, u88, u89, u90, u91, u92, u93, u94, u95, u96, u97, u98, u99, u100, u101, u102, u103, u104, u105, u106, u107, u108, u109, u110, u111, u112, u113, u114, u115, u116, u117, u118, u119, u120, u121, u122, u123, u124, u125, u126, u127, u128, u129, u130, u131, u132, u133, u134, u135, u136, u137, u138, u139, u140, u141, u142, u143, u144, u145, u146, u147, u148, u149, u150, u151, u152, u153, u154, u155, u156, u157, u158, u159, u160, u161, u162, u163, u164, u165, u166, u167, u168, u169, u170, u171, u172, u173, u174, u175, u176, u177, u178, u179, u180, u181, u182, u183, u184, u185, u186, u187, u188, u189, u190, u191, u192, u193, u194, u195, u196, u197, u198, u199, u200, u201, u202, u203], []⟩ wr := by
  conv => arg 2; whnf
  have HT := hide ht
  have HA := hide ha
  have HV := hide hv
  have HI := hide hJ.rI2
  have hD := (hJ.new #[.int .i64 2, .int .i64 tg, .int .u64 a, .int .i64 sz, .int .u64 v] 30).b3
  obtain ⟨kx, hkx⟩ : ∃ k, wr.heap.size = k := ⟨_, rfl⟩
  rw [hkx] at hD
  have Hkx := hide hkx
  have H := hide hD
  clear hJ hD hkx ht ha hv
  go_upto_region 9 with fail
  rw [unhide Hkx]
  generalize wr.alloc (.cells #[.int .i64 2, .int .i64 tg, .int .u64 a, .int .i64 sz, .int .u64 v] 30) = w1 at H ⊢
  clear x0 x1 x2 x3 x4 hab Hkx
  obtain ⟨y0, y1, y2, y3, y4⟩ := cells5s (Heap.heap (Heap.f3 (unhide H)))
  have hxl := lt_of_heap' (Heap.heap (Heap.f3 (unhide H)))
  have hlen := where_len (unhide HI) tg a sz
  obtain ⟨l, hl⟩ : ∃ z, (whereQ s tg a sz).1.1 = z := ⟨_, rfl⟩
  obtain ⟨mc, hmc⟩ : ∃ z, (whereQ s tg a sz).1.2 = z := ⟨_, rfl⟩
  obtain ⟨s2, hs2⟩ : ∃ z, (whereQ s tg a sz).2 = z := ⟨_, rfl⟩
  have HMC := hide (And.intro hl (And.intro hmc hs2))
  rw [hl] at hlen
  have Hlen := hide hlen
  clear hl hmc hs2 hlen
  go_wp2_with fail
  refine (where_h (unhide H) tg a sz (unhide HA)).mono ?_
  rintro r_ w5 ⟨v1, rfl, h5⟩
  rw [(unhide HMC).1, (unhide HMC).2.2] at h5
  rw [(unhide HMC).2.1]
  obtain ⟨A1, cap1, rfl, _⟩ := h5.slw.parts
  have H5 := hide h5.f3
  clear y0 y1 y2 y3 y4 hxl
  obtain ⟨y0, y1, y2, y3, y4⟩ := cells5s (Heap.heap (Heap.f4 (h5)))
  have hxl := lt_of_heap' (Heap.heap (Heap.f4 (h5)))
  clear h5
  go_wp2_with fail
  refine (where_r (unhide H5) tg a sz (unhide HA)).mono ?_
  rintro r_ w6 ⟨v2, rfl, h6⟩
  rw [(unhide HMC).1, (unhide HMC).2.2] at h6
  rw [(unhide HMC).2.1]
  obtain ⟨A2, cap2, rfl, _⟩ := h6.slw.parts
  have H6 := hide h6
  clear y0 y1 y2 y3 y4 hxl
  obtain ⟨y0, y1, y2, y3, y4⟩ := cells5s (Heap.heap (Heap.f5 (h6)))
  have hxl := lt_of_heap' (Heap.heap (Heap.f5 (h6)))
  have hsame := hide (same_eq h6.f3.slw h6.slw (unhide Hlen))
  clear h6 H5
  go_wp2_with fail
  refine (unhide hsame).mono ?_
  rintro r_ w7 ⟨rfl, hg7⟩
  have h7 := ((unhide H6).grown hg7).f3
  have H7 := hide h7
  clear y0 y1 y2 y3 y4 hxl
  obtain ⟨y0, y1, y2, y3, y4⟩ := cells5s (Heap.heap (Heap.f5 (h7)))
  have hxl := lt_of_heap' (Heap.heap (Heap.f5 (h7)))
  clear h7 H6 hsame hg7
  obtain ⟨m, hm⟩ : ∃ m, l.length = m := ⟨_, rfl⟩
  have Hm := hide hm
  have hm16 : m ≤ 16 := by have := unhide Hlen; omega
  rw [hm] at H7 ⊢
  clear hm y0 y1 y2 y3 y4 hxl
  go_wp2
  go_loopw [13] (fun v13 wr2 => ∃ (j : Nat) (xs : List Value), v13 = .int .i64 j ∧ j ≤ m ∧ xs.length = m ∧ Heap W wr2 (HP.slw (.slice A1 m cap1) 1 m xs :: HP.slw (.slice A2 m cap2) 1 m (ints l) :: HP.r br s2 :: [HP.q bq s2, HP.blk kx #[.int .i64 2, .int .i64 tg, .int .u64 a, .int .i64 sz, .int .u64 v] 30])) (fun v13 _ => m - (intOf v13).toNat)
  case atStart => exact ⟨0, ints l, rfl, Nat.zero_le _, by rw [ints_len, unhide Hm], unhide H7⟩
  case round =>
    obtain ⟨j, xs, rfl, hj, hxs, hJ⟩ := hrel
    clear H7
    by_cases hjm : j < m
    · obtain ⟨g1, o1, c1, hv1, _⟩ := hJ.slw.addr (by omega)
      injection hv1 with hv1 _ hc1
      subst hv1 hc1
      obtain ⟨l1, e1, f1⟩ := hJ.slw.at_ (j := j) (by omega)
      obtain ⟨x, hx⟩ : ∃ x, xs[j]? = some x := ⟨_, List.getElem?_eq_getElem (by omega)⟩
      rw [hx] at e1
      have hW := hide (hJ.write (j := j) (by omega) (.int .i64 (-9)))
      clear hJ hx
      go_wp2
      exact ⟨⟨j + 1, xs.set j (.int .i64 (-9)), by go_num, by omega, by rw [List.length_set]; exact hxs, unhide hW⟩, by simp [intOf]; omega⟩
    · obtain rfl : j = m := by omega
      have H6 := hide (show Heap W wr [HP.q bq s2, HP.r br s2, HP.blk kx #[.int .i64 2, .int .i64 tg, .int .u64 a, .int .i64 sz, .int .u64 v] 30] from hJ.tail.tail.f2)
      obtain ⟨y0, y1, y2, y3, y4⟩ := cells5s (Heap.heap (Heap.f3 (unhide H6)))
      have hxl := lt_of_heap' (Heap.heap (Heap.f3 (unhide H6)))
      clear hJ
      go_wp2_with fail
      refine (count_h (unhide H6)).mono ?_
      rintro r_ w8 ⟨rfl, h8⟩
      have H8 := hide h8.f2
      clear h8 y0 y1 y2 y3 y4 hxl
      go_wp2_with fail
      refine (count_r (unhide H8)).mono ?_
      rintro r_ w9 ⟨rfl, h9⟩
      have HZ := hide (show Heap W w9 [HP.q bq (s2), HP.r br (s2)] from h9.f3.tail.f2)
      obtain ⟨ld, hld⟩ : ∃ z, nLd (s2).l = z := ⟨_, rfl⟩
      obtain ⟨sd, hsd⟩ : ∃ z, nSt (s2).l = z := ⟨_, rfl⟩
      rw [hld, hsd]
      have z1 : ((ld : Int) != (ld : Int)) = false := by simp
      have z2 : ((sd : Int) != (sd : Int)) = false := by simp
      clear h9 hld hsd
      cases mc with
      | false =>
        go_wp2
        have e5 : (k : Int) + 1 = ((k + 1 : Nat) : Int) := rfl
        try rw [e5]
        refine ⟨⟨k + 1, s2, ⟨by omega, unhide HZ⟩, ?_⟩, by simp [WmuD, intOf]; omega⟩
        unfold FRD
        refine ⟨_, _, _, _, _, _, _, _, _, _, _, _, _, _, _, _, _, _, _, _, _, _, _, _, _, _, _, _, _, _, _, _, _, _, _, _, _, _, _, _, _, _, _, _, _, _, _, _, _, _, _, _, _, _, _, _, _, _, _, _, _, _, _, _, _, _, _, _, _, _, _, _, _, _, _, _, _, _, _, _, _, _, _, _, _, _, _, _, _, _, _, _, _, _, _, _, _, _, _, _, _, _, _, _, _, _, _, _, _, _, _, _, _, _, _, _, _, _, _, _, _, _, _, _, _, _, _, _, _, _, _, _, _, _, _, _, _, _, _, _, _, _, _, _, _, _, _, _, _, _, _, _, _, _, _, _, _, _, _, _, _, _, _, _, _, _, _, _, _, _, _, _, _, _, _, _, _, _, _, _, _, _, _, _, _, _, _, _, _, _, _, _, _, _, _, rfl⟩
      | true =>
        go_wp2
        have e5 : (k : Int) + 1 = ((k + 1 : Nat) : Int) := rfl
        try rw [e5]
        refine ⟨⟨k + 1, s2, ⟨by omega, unhide HZ⟩, ?_⟩, by simp [WmuD, intOf]; omega⟩
        unfold FRD
        refine ⟨_, _, _, _, _, _, _, _, _, _, _, _, _, _, _, _, _, _, _, _, _, _, _, _, _, _, _, _, _, _, _, _, _, _, _, _, _, _, _, _, _, _, _, _, _, _, _, _, _, _, _, _, _, _, _, _, _, _, _, _, _, _, _, _, _, _, _, _, _, _, _, _, _, _, _, _, _, _, _, _, _, _, _, _, _, _, _, _, _, _, _, _, _, _, _, _, _, _, _, _, _, _, _, _, _, _, _, _, _, _, _, _, _, _, _, _, _, _, _, _, _, _, _, _, _, _, _, _, _, _, _, _, _, _, _, _, _, _, _, _, _, _, _, _, _, _, _, _, _, _, _, _, _, _, _, _, _, _, _, _, _, _, _, _, _, _, _, _, _, _, _, _, _, _, _, _, _, _, _, _, _, _, _, _, _, _, _, _, _, _, _, _, _, _, _, rfl⟩
end Go.Proofs.Ytdmkgomcomcfhaa
