/- Layer 23: LsqDoes: Look, Pop, Squash, the others. -/
import Derived.Test.YtdmkgomcomcfhaaR12
namespace Go.Proofs.Ytdmkgomcomcfhaa
open Go.RowKit
set_option maxRecDepth 1000000 in
set_option maxHeartbeats 8000000 in
theorem casePop {W wr : World} {ab ao n cap bq br k : Nat} {s : Qs} {tg a sz v : Int} (hn : n ≤ 4398046511104) (hab : ab < wr.heap.size)
    (x0 : wr.cell? ⟨ab, ao + k * 5, none⟩ = some (.int .i64 6)) (x1 : wr.cell? ⟨ab, ao + k * 5 + 1, none⟩ = some (.int .i64 tg)) (x2 : wr.cell? ⟨ab, ao + k * 5 + 2, none⟩ = some (.int .u64 a)) (x3 : wr.cell? ⟨ab, ao + k * 5 + 3, none⟩ = some (.int .i64 sz)) (x4 : wr.cell? ⟨ab, ao + k * 5 + 4, none⟩ = some (.int .u64 v))
    (ht : -9223372036854775808 ≤ tg ∧ tg < 9223372036854775808) (ha : 0 ≤ a ∧ a < 18446744073709551616) (hv : 0 ≤ v ∧ v < 18446744073709551616) (hJ : Heap W wr [HP.q bq s, HP.r br s]) (hlt : k < n)  (Q0 : Exit → Act → World → Prop) (c1 c26 c27 c28 c29 u2 u6 u7 u8 u9 u10 u11 u12 u13 u14 u15 u16 u17 u18 u19 u20 u21 u22 u23 u24 u25 u30 u31 u32 u33 u34 u35 u36 u37 u38 u39 u40 u41 u42 u43 u44 u45 u46 u47 u48 u49 u50 u51 u52 u53 u54 u55 u56 u57 u58 u59 u60 u61 u62 u63 u64 u65 u66 u67 u68 u69 u70 u71 u72 u73 u74 u75 u76 u77 u78 u79 u80 u81 u82 u83 u84 u85 u86 u87 u88 u89 u90 u91 u92 u93 u94 u95 u96 u97 u98 u99 u100 u101 u102 u103 u104 u105 u106 u107 u108 u109 u110 u111 u112 u113 u114 u115 u116 u117 u118 u119 u120 u121 u122 u123 u124 u125 u126 u127 u128 u129 u130 u131 u132 u133 u134 u135 u136 u137 u138 u139 u140 u141 u142 u143 u144 u145 u146 u147 u148 u149 u150 u151 u152 u153 u154 u155 u156 u157 u158 u159 u160 u161 u162 u163 u164 u165 u166 u167 u168 u169 u170 u171 u172 u173 u174 u175 u176 u177 u178 u179 u180 u181 u182 u183 u184 u185 u186 u187 u188 u189 u190 u191 u192 u193 u194 u195 u196 u197 u198 u199 u200 u201 u202 u203 : Value) :
    Code.wp Try.prog bodyD (Exit.then (fun a' w'' => WIDo c1 c26 c27 c28 c29 W (some ⟨ab, ao, none⟩) n cap bq br a' w'' ∧ WmuD n a' w'' < n - k) Q0) ⟨#[.slice (some ⟨ab, ao, none⟩) n cap, c1, u2, .pointer (some ⟨bq, 0, none⟩), .pointer (some ⟨br, 0, none⟩), .int .i64 (k : Int), u6, u7, u8, u9, u10, u11, u12, u13, u14, u15, u16, u17, u18, u19, u20, u21, u22, u23, u24, u25, c26, c27, c28, c29, u30, u31, u32, u33, u34, u35, u36, u37, u38, u39, u40, u41, u42, u43, u44, u45, u46, u47, u48, u49, u50, u51, u52, u53, u54, u55, u56, u57, u58, u59, u60, u61, u62, u63, u64, u65, u66, u67, u68, u69, u70, u71, u72, u73, u74, u75, u76, u77, u78, u79, u80, u81, u82, u83, u84, u85, u86, u87, u88, u89, u90, u91, u92, u93, u94, u95, u96, u97, u98, u99, u100, u101, u102, u103, u104, u105, u106, u107, u108, u109, u110, u111, u112, u113, u114, u115, u116, u117, u118, u119, u120, u121, u122, u123, u124, u125, u126, u127, u128, u129, u130, u131, u132, u133, u134, u135, u136, u137, u138, u139, u140, u141, u142, u143, u144, u145, u146, u147, u148, u149, u150, u151, u152, u153, u154, u155, u156, u157, u158, u159, u160, u161, u162, u163, u164, u165, u166, u167, u168, u169, u170, u171, u172, u173, u174, u175, u176, u177, u178, u179, u180, u181, u182, u183, u184, u185, u186, u187, u188, u189, u190, u191, u192, u193, u194, u195, u196, u197, u198, u199, u200, u201, u202, u203], []⟩ wr := by
  conv => arg 2; whnf
  have HT := hide ht
  have HA := hide ha
  have HV := hide hv
  have HI := hide hJ.rI2
  have hD := (hJ.new #[.int .i64 6, .int .i64 tg, .int .u64 a, .int .i64 sz, .int .u64 v] 30).b3
  obtain ⟨kx, hkx⟩ : ∃ k, wr.heap.size = k := ⟨_, rfl⟩
  rw [hkx] at hD
  have Hkx := hide hkx
  have H := hide hD
  clear hJ hD hkx ht ha hv
  go_upto_region 9 with fail
  rw [unhide Hkx]
  generalize wr.alloc (.cells #[.int .i64 6, .int .i64 tg, .int .u64 a, .int .i64 sz, .int .u64 v] 30) = w1 at H ⊢
  clear x0 x1 x2 x3 x4 hab Hkx
  obtain ⟨y0, y1, y2, y3, y4⟩ := cells5s (Heap.heap (Heap.f3 (unhide H)))
  have hxl := lt_of_heap' (Heap.heap (Heap.f3 (unhide H)))
  obtain ⟨rt, hrt⟩ : ∃ z, (popQ s).1.1 = z := ⟨_, rfl⟩
  obtain ⟨mc, hmc⟩ : ∃ z, (popQ s).1.2 = z := ⟨_, rfl⟩
  obtain ⟨s2, hs2⟩ : ∃ z, (popQ s).2 = z := ⟨_, rfl⟩
  have HMC := hide (And.intro hrt (And.intro hmc hs2))
  clear hrt hmc hs2
  go_wp2_with fail
  refine (pop_h (unhide H)).mono ?_
  rintro r_ w5 ⟨rfl, h5⟩
  rw [(unhide HMC).2.2] at h5
  rw [(unhide HMC).1, (unhide HMC).2.1]
  have H5 := hide h5.f2
  clear y0 y1 y2 y3 y4 hxl
  obtain ⟨y0, y1, y2, y3, y4⟩ := cells5s (Heap.heap (Heap.f3 (h5)))
  have hxl := lt_of_heap' (Heap.heap (Heap.f3 (h5)))
  clear h5
  go_wp2_with fail
  refine (pop_r (unhide H5)).mono ?_
  rintro r_ w6 ⟨rfl, h6⟩
  rw [(unhide HMC).2.2] at h6
  rw [(unhide HMC).1, (unhide HMC).2.1]
  have H6 := hide h6.f2
  have zz : (rt != rt) = false := by simp
  clear y0 y1 y2 y3 y4 hxl
  obtain ⟨y0, y1, y2, y3, y4⟩ := cells5s (Heap.heap (Heap.f3 (h6)))
  have hxl := lt_of_heap' (Heap.heap (Heap.f3 (h6)))
  clear h6
  go_wp2_with fail
  refine (count_h (unhide H6)).mono ?_
  rintro r_ w8 ⟨rfl, h8⟩
  have H8 := hide h8.f2
  clear h8 y0 y1 y2 y3 y4 hxl
  go_wp2_with fail
  refine (count_r (unhide H8)).mono ?_
  rintro r_ w9 ⟨rfl, h9⟩
  have HZ := hide (show Heap W w9 [HP.q bq (s2), HP.r br (s2)] from h9.f3.tail.f2)
  obtain ⟨ld, hld⟩ : ∃ z, nLd (s2).l = z := ⟨_, rfl⟩
  obtain ⟨sd, hsd⟩ : ∃ z, nSt (s2).l = z := ⟨_, rfl⟩
  rw [hld, hsd]
  have z1 : ((ld : Int) != (ld : Int)) = false := by simp
  have z2 : ((sd : Int) != (sd : Int)) = false := by simp
  clear h9 hld hsd
  cases mc with
  | false =>
    go_wp2
    have e5 : (k : Int) + 1 = ((k + 1 : Nat) : Int) := rfl
    try rw [e5]
    refine ⟨⟨k + 1, s2, ⟨by omega, unhide HZ⟩, ?_⟩, by simp [WmuD, intOf]; omega⟩
    unfold FRD
    refine ⟨_, _, _, _, _, _, _, _, _, _, _, _, _, _, _, _, _, _, _, _, _, _, _, _, _, _, _, _, _, _, _, _, _, _, _, _, _, _, _, _, _, _, _, _, _, _, _, _, _, _, _, _, _, _, _, _, _, _, _, _, _, _, _, _, _, _, _, _, _, _, _, _, _, _, _, _, _, _, _, _, _, _, _, _, _, _, _, _, _, _, _, _, _, _, _, _, _, _, _, _, _, _, _, _, _, _, _, _, _, _, _, _, _, _, _, _, _, _, _, _, _, _, _, _, _, _, _, _, _, _, _, _, _, _, _, _, _, _, _, _, _, _, _, _, _, _, _, _, _, _, _, _, _, _, _, _, _, _, _, _, _, _, _, _, _, _, _, _, _, _, _, _, _, _, _, _, _, _, _, _, _, _, _, _, _, _, _, _, _, _, _, _, _, _, _, rfl⟩
  | true =>
    go_wp2
    have e5 : (k : Int) + 1 = ((k + 1 : Nat) : Int) := rfl
    try rw [e5]
    refine ⟨⟨k + 1, s2, ⟨by omega, unhide HZ⟩, ?_⟩, by simp [WmuD, intOf]; omega⟩
    unfold FRD
    refine ⟨_, _, _, _, _, _, _, _, _, _, _, _, _, _, _, _, _, _, _, _, _, _, _, _, _, _, _, _, _, _, _, _, _, _, _, _, _, _, _, _, _, _, _, _, _, _, _, _, _, _, _, _, _, _, _, _, _, _, _, _, _, _, _, _, _, _, _, _, _, _, _, _, _, _, _, _, _, _, _, _, _, _, _, _, _, _, _, _, _, _, _, _, _, _, _, _, _, _, _, _, _, _, _, _, _, _, _, _, _, _, _, _, _, _, _, _, _, _, _, _, _, _, _, _, _, _, _, _, _, _, _, _, _, _, _, _, _, _, _, _, _, _, _, _, _, _, _, _, _, _, _, _, _, _, _, _, _, _, _, _, _, _, _, _, _, _, _, _, _, _, _, _, _, _, _, _, _, _, _, _, _, _, _, _, _, _, _, _, _, _, _, _, _, _, _, rfl⟩
set_option maxRecDepth 1000000 in
set_option maxHeartbeats 8000000 in
theorem caseSquash {W wr : World} {ab ao n cap bq br k : Nat} {s : Qs} {tg a sz v : Int} (hn : n ≤ 4398046511104) (hab : ab < wr.heap.size)
    (x0 : wr.cell? ⟨ab, ao + k * 5, none⟩ = some (.int .i64 7)) (x1 : wr.cell? ⟨ab, ao + k * 5 + 1, none⟩ = some (.int .i64 tg)) (x2 : wr.cell? ⟨ab, ao + k * 5 + 2, none⟩ = some (.int .u64 a)) (x3 : wr.cell? ⟨ab, ao + k * 5 + 3, none⟩ = some (.int .i64 sz)) (x4 : wr.cell? ⟨ab, ao + k * 5 + 4, none⟩ = some (.int .u64 v))
    (ht : -9223372036854775808 ≤ tg ∧ tg < 9223372036854775808) (ha : 0 ≤ a ∧ a < 18446744073709551616) (hv : 0 ≤ v ∧ v < 18446744073709551616) (hJ : Heap W wr [HP.q bq s, HP.r br s]) (hlt : k < n)  (Q0 : Exit → Act → World → Prop) (c1 c26 c27 c28 c29 u2 u6 u7 u8 u9 u10 u11 u12 u13 u14 u15 u16 u17 u18 u19 u20 u21 u22 u23 u24 u25 u30 u31 u32 u33 u34 u35 u36 u37 u38 u39 u40 u41 u42 u43 u44 u45 u46 u47 u48 u49 u50 u51 u52 u53 u54 u55 u56 u57 u58 u59 u60 u61 u62 u63 u64 u65 u66 u67 u68 u69 u70 u71 u72 u73 u74 u75 u76 u77 u78 u79 u80 u81 u82 u83 u84 u85 u86 u87 u88 u89 u90 u91 u92 u93 u94 u95 u96 u97 u98 u99 u100 u101 u102 u103 u104 u105 u106 u107 u108 u109 u110 u111 u112 u113 u114 u115 u116 u117 u118 u119 u120 u121 u122 u123 u124 u125 u126 u127 u128 u129 u130 u131 u132 u133 u134 u135 u136 u137 u138 u139 u140 u141 u142 u143 u144 u145 u146 u147 u148 u149 u150 u151 u152 u153 u154 u155 u156 u157 u158 u159 u160 u161 u162 u163 u164 u165 u166 u167 u168 u169 u170 u171 u172 u173 u174 u175 u176 u177 u178 u179 u180 u181 u182 u183 u184 u185 u186 u187 u188 u189 u190 u191 u192 u193 u194 u195 u196 u197 u198 u199 u200 u201 u202 u203 : Value) :
    Code.wp Try.prog bodyD (Exit.then (fun a' w'' => WIDo c1 c26 c27 c28 c29 W (some ⟨ab, ao, none⟩) n cap bq br a' w'' ∧ WmuD n a' w'' < n - k) Q0) ⟨#[.slice (some ⟨ab, ao, none⟩) n cap, c1, u2, .pointer (some ⟨bq, 0, none⟩), .pointer (some ⟨br, 0, none⟩), .int .i64 (k : Int), u6, u7, u8, u9, u10, u11, u12, u13, u14, u15, u16, u17, u18, u19, u20, u21, u22, u23, u24, u25, c26, c27, c28, c29, u30, u31, u32, u33, u34, u35, u36, u37, u38, u39, u40, u41, u42, u43, u44, u45, u46, u47, u48, u49, u50, u51, u52, u53, u54, u55, u56, u57, u58, u59, u60, u61, u62, u63, u64, u65, u66, u67, u68, u69, u70, u71, u72, u73, u74, u75, u76, u77, u78, u79, u80, u81, u82, u83, u84, u85, u86, u87, u88, u89, u90, u91, u92, u93, u94, u95, u96, u97, u98, u99, u100, u101, u102, u103, u104, u105, u106, u107, u108, u109, u110, u111, u112, u113, u114, u115, u116, u117, u118, u119, u120, u121, u122, u123, u124, u125, u126, u127, u128, u129, u130, u131, u132, u133, u134, u135, u136, u137, u138, u139, u140, u141, u142, u143, u144, u145, u146, u147, u148, u149, u150, u151, u152, u153, u154, u155, u156, u157, u158, u159, u160, u161, u162, u163, u164, u165, u166, u167, u168, u169, u170, u171, u172, u173, u174, u175, u176, u177, u178, u179, u180, u181, u182, u183, u184, u185, u186, u187, u188, u189, u190, u191, u192, u193, u194, u195, u196, u197, u198, u199, u200, u201, u202, u203], []⟩ wr := by
  conv => arg 2; whnf
  have HT := hide ht
  have HA := hide ha
  have HV := hide hv
  have HI := hide hJ.rI2
  have hD := (hJ.new #[.int .i64 7, .int .i64 tg, .int .u64 a, .int .i64 sz, .int .u64 v] 30).b3
  obtain ⟨kx, hkx⟩ : ∃ k, wr.heap.size = k := ⟨_, rfl⟩
  rw [hkx] at hD
  have Hkx := hide hkx
  have H := hide hD
  clear hJ hD hkx ht ha hv
  go_upto_region 9 with fail
  rw [unhide Hkx]
  generalize wr.alloc (.cells #[.int .i64 7, .int .i64 tg, .int .u64 a, .int .i64 sz, .int .u64 v] 30) = w1 at H ⊢
  clear x0 x1 x2 x3 x4 hab Hkx
  obtain ⟨y0, y1, y2, y3, y4⟩ := cells5s (Heap.heap (Heap.f3 (unhide H)))
  have hxl := lt_of_heap' (Heap.heap (Heap.f3 (unhide H)))
  obtain ⟨s2, hs2⟩ : ∃ z, squashQ s tg = z := ⟨_, rfl⟩
  have HMC := hide hs2
  clear hs2
  go_wp2_with fail
  refine (squash_h (unhide H) tg).mono ?_
  rintro r_ w5 ⟨rfl, h5⟩
  rw [unhide HMC] at h5
  have H5 := hide h5.f2
  clear y0 y1 y2 y3 y4 hxl
  obtain ⟨y0, y1, y2, y3, y4⟩ := cells5s (Heap.heap (Heap.f3 (h5)))
  have hxl := lt_of_heap' (Heap.heap (Heap.f3 (h5)))
  clear h5
  go_wp2_with fail
  refine (squash_r (unhide H5) tg).mono ?_
  rintro r_ w6 ⟨rfl, h6⟩
  rw [unhide HMC] at h6
  have H6 := hide h6.f2
  clear y0 y1 y2 y3 y4 hxl
  obtain ⟨y0, y1, y2, y3, y4⟩ := cells5s (Heap.heap (Heap.f3 (h6)))
  have hxl := lt_of_heap' (Heap.heap (Heap.f3 (h6)))
  clear h6
  go_wp2_with fail
  refine (count_h (unhide H6)).mono ?_
  rintro r_ w8 ⟨rfl, h8⟩
  have H8 := hide h8.f2
  clear h8 y0 y1 y2 y3 y4 hxl
  go_wp2_with fail
  refine (count_r (unhide H8)).mono ?_
  rintro r_ w9 ⟨rfl, h9⟩
  have HZ := hide (show Heap W w9 [HP.q bq (s2), HP.r br (s2)] from h9.f3.tail.f2)
  obtain ⟨ld, hld⟩ : ∃ z, nLd (s2).l = z := ⟨_, rfl⟩
  obtain ⟨sd, hsd⟩ : ∃ z, nSt (s2).l = z := ⟨_, rfl⟩
  rw [hld, hsd]
  have z1 : ((ld : Int) != (ld : Int)) = false := by simp
  have z2 : ((sd : Int) != (sd : Int)) = false := by simp
  clear h9 hld hsd
  go_wp2
  have e5 : (k : Int) + 1 = ((k + 1 : Nat) : Int) := rfl
  try rw [e5]
  refine ⟨⟨k + 1, s2, ⟨by omega, unhide HZ⟩, ?_⟩, by simp [WmuD, intOf]; omega⟩
  unfold FRD
  refine ⟨_, _, _, _, _, _, _, _, _, _, _, _, _, _, _, _, _, _, _, _, _, _, _, _, _, _, _, _, _, _, _, _, _, _, _, _, _, _, _, _, _, _, _, _, _, _, _, _, _, _, _, _, _, _, _, _, _, _, _, _, _, _, _, _, _, _, _, _, _, _, _, _, _, _, _, _, _, _, _, _, _, _, _, _, _, _, _, _, _, _, _, _, _, _, _, _, _, _, _, _, _, _, _, _, _, _, _, _, _, _, _, _, _, _, _, _, _, _, _, _, _, _, _, _, _, _, _, _, _, _, _, _, _, _, _, _, _, _, _, _, _, _, _, _, _, _, _, _, _, _, _, _, _, _, _, _, _, _, _, _, _, _, _, _, _, _, _, _, _, _, _, _, _, _, _, _, _, _, _, _, _, _, _, _, _, _, _, _, _, _, _, _, _, _, _, rfl⟩
set_option maxRecDepth 1000000 in
set_option maxHeartbeats 8000000 in
theorem caseElse {W wr : World} {ab ao n cap bq br k : Nat} {s : Qs} {kd tg a sz v : Int} (hn : n ≤ 4398046511104) (hab : ab < wr.heap.size)
    (x0 : wr.cell? ⟨ab, ao + k * 5, none⟩ = some (.int .i64 kd)) (x1 : wr.cell? ⟨ab, ao + k * 5 + 1, none⟩ = some (.int .i64 tg)) (x2 : wr.cell? ⟨ab, ao + k * 5 + 2, none⟩ = some (.int .u64 a)) (x3 : wr.cell? ⟨ab, ao + k * 5 + 3, none⟩ = some (.int .i64 sz)) (x4 : wr.cell? ⟨ab, ao + k * 5 + 4, none⟩ = some (.int .u64 v))
    (ht : -9223372036854775808 ≤ tg ∧ tg < 9223372036854775808) (ha : 0 ≤ a ∧ a < 18446744073709551616) (hv : 0 ≤ v ∧ v < 18446744073709551616) (hJ : Heap W wr [HP.q bq s, HP.r br s]) (hlt : k < n) (z0_ : (kd == 0) = false) (z1_ : (kd == 1) = false) (z2_ : (kd == 2) = false) (z3_ : (kd == 3) = false) (z4_ : (kd == 4) = false) (z5_ : (kd == 5) = false) (z6_ : (kd == 6) = false) (z7_ : (kd == 7) = false) (Q0 : Exit → Act → World → Prop) (c1 c26 c27 c28 c29 u2 u6 u7 u8 u9 u10 u11 u12 u13 u14 u15 u16 u17 u18 u19 u20 u21 u22 u23 u24 u25 u30 u31 u32 u33 u34 u35 u36 u37 u38 u39 u40 u41 u42 u43 u44 u45 u46 u47 u48 u49 u50 u51 u52 u53 u54 u55 u56 u57 u58 u59 u60 u61 u62 u63 u64 u65 u66 u67 u68 u69 u70 u71 u72 u73 u74 u75 u76 u77 u78 u79 u80 u81 u82 u83 u84 u85 u86 u87 u88 u89 u90 u91 u92 u93 u94 u95 u96 u97 u98 u99 u100 u101 u102 u103 u104 u105 u106 u107 u108 u109 u110 u111 u112 u113 u114 u115 u116 u117 u118 u119 u120 u121 u122 u123 u124 u125 u126 u127 u128 u129 u130 u131 u132 u133 u134 u135 u136 u137 u138 u139 u140 u141 u142 u143 u144 u145 u146 u147 u148 u149 u150 u151 u152 u153 u154 u155 u156 u157 u158 u159 u160 u161 u162 u163 u164 u165 u166 u167 u168 u169 u170 u171 u172 u173 u174 u175 u176 u177 u178 u179 u180 u181 u182 u183 u184 u185 u186 u187 u188 u189 u190 u191 u192 u193 u194 u195 u196 u197 u198 u199 u200 u201 u202 u203 : Value) :
    Code.wp Try.prog bodyD (Exit.then (fun a' w'' => WIDo c1 c26 c27 c28 c29 W (some ⟨ab, ao, none⟩) n cap bq br a' w'' ∧ WmuD n a' w'' < n - k) Q0) ⟨#[.slice (some ⟨ab, ao, none⟩) n cap, c1, u2, .pointer (some ⟨bq, 0, none⟩), .pointer (some ⟨br, 0, none⟩), .int .i64 (k : Int), u6, u7, u8, u9, u10, u11, u12, u13, u14, u15, u16, u17, u18, u19, u20, u21, u22, u23, u24, u25, c26, c27, c28, c29, u30, u31, u32, u33, u34, u35, u36, u37, u38, u39, u40, u41, u42, u43, u44, u45, u46, u47, u48, u49, u50, u51, u52, u53, u54, u55, u56, u57, u58, u59, u60, u61, u62, u63, u64, u65, u66, u67, u68, u69, u70, u71, u72, u73, u74, u75, u76, u77, u78, u79, u80, u81, u82, u83, u84, u85, u86, u87, u88, u89, u90, u91, u92, u93, u94, u95, u96, u97, u98, u99, u100, u101, u102, u103, u104, u105, u106, u107, u108, u109, u110, u111, u112, u113, u114, u115, u116, u117, u118, u119, u120, u121, u122, u123, u124, u125, u126, u127, u128, u129, u130, u131, u132, u133, u134, u135, u136, u137, u138, u139, u140, u141, u142, u143, u144, u145, u146, u147, u148, u149, u150, u151, u152, u153, u154, u155, u156, u157, u158, u159, u160, u161, u162, u163, u164, u165, u166, u167, u168, u169, u170, u171, u172, u173, u174, u175, u176, u177, u178, u179, u180, u181, u182, u183, u184, u185, u186, u187, u188, u189, u190, u191, u192, u193, u194, u195, u196, u197, u198, u199, u200, u201, u202, u203], []⟩ wr := by
  conv => arg 2; whnf
  have HT := hide ht
  have HA := hide ha
  have HV := hide hv
  have HI := hide hJ.rI2
  have hD := (hJ.new #[.int .i64 kd, .int .i64 tg, .int .u64 a, .int .i64 sz, .int .u64 v] 30).b3
  obtain ⟨kx, hkx⟩ : ∃ k, wr.heap.size = k := ⟨_, rfl⟩
  rw [hkx] at hD
  have Hkx := hide hkx
  have H := hide hD
  clear hJ hD hkx ht ha hv
  go_upto_region 9 with fail
  rw [unhide Hkx]
  generalize wr.alloc (.cells #[.int .i64 kd, .int .i64 tg, .int .u64 a, .int .i64 sz, .int .u64 v] 30) = w1 at H ⊢
  clear x0 x1 x2 x3 x4 hab Hkx
  obtain ⟨y0, y1, y2, y3, y4⟩ := cells5s (Heap.heap (Heap.f3 (unhide H)))
  have hxl := lt_of_heap' (Heap.heap (Heap.f3 (unhide H)))
  go_wp2_with fail
  refine (count_h (unhide H)).mono ?_
  rintro r_ w8 ⟨rfl, h8⟩
  have H8 := hide h8.f2
  clear h8 y0 y1 y2 y3 y4 hxl
  go_wp2_with fail
  refine (count_r (unhide H8)).mono ?_
  rintro r_ w9 ⟨rfl, h9⟩
  have HZ := hide (show Heap W w9 [HP.q bq (s), HP.r br (s)] from h9.f3.tail.f2)
  obtain ⟨ld, hld⟩ : ∃ z, nLd (s).l = z := ⟨_, rfl⟩
  obtain ⟨sd, hsd⟩ : ∃ z, nSt (s).l = z := ⟨_, rfl⟩
  rw [hld, hsd]
  have z1 : ((ld : Int) != (ld : Int)) = false := by simp
  have z2 : ((sd : Int) != (sd : Int)) = false := by simp
  clear h9 hld hsd
  go_wp2
  have e5 : (k : Int) + 1 = ((k + 1 : Nat) : Int) := rfl
  try rw [e5]
  refine ⟨⟨k + 1, s, ⟨by omega, unhide HZ⟩, ?_⟩, by simp [WmuD, intOf]; omega⟩
  unfold FRD
  refine ⟨_, _, _, _, _, _, _, _, _, _, _, _, _, _, _, _, _, _, _, _, _, _, _, _, _, _, _, _, _, _, _, _, _, _, _, _, _, _, _, _, _, _, _, _, _, _, _, _, _, _, _, _, _, _, _, _, _, _, _, _, _, _, _, _, _, _, _, _, _, _, _, _, _, _, _, _, _, _, _, _, _, _, _, _, _, _, _, _, _, _, _, _, _, _, _, _, _, _, _, _, _, _, _, _, _, _, _, _, _, _, _, _, _, _, _, _, _, _, _, _, _, _, _, _, _, _, _, _, _, _, _, _, _, _, _, _, _, _, _, _, _, _, _, _, _, _, _, _, _, _, _, _, _, _, _, _, _, _, _, _, _, _, _, _, _, _, _, _, _, _, _, _, _, _, _, _, _, _, _, _, _, _, _, _, _, _, _, _, _, _, _, _, _, _, _, rfl⟩
set_option maxRecDepth 1000000 in
set_option maxHeartbeats 8000000 in
theorem caseLook {W wr : World} {ab ao n cap bq br k : Nat} {s : Qs} {tg a sz v : Int} (hn : n ≤ 4398046511104) (hab : ab < wr.heap.size)
    (x0 : wr.cell? ⟨ab, ao + k * 5, none⟩ = some (.int .i64 4)) (x1 : wr.cell? ⟨ab, ao + k * 5 + 1, none⟩ = some (.int .i64 tg)) (x2 : wr.cell? ⟨ab, ao + k * 5 + 2, none⟩ = some (.int .u64 a)) (x3 : wr.cell? ⟨ab, ao + k * 5 + 3, none⟩ = some (.int .i64 sz)) (x4 : wr.cell? ⟨ab, ao + k * 5 + 4, none⟩ = some (.int .u64 v))
    (ht : -9223372036854775808 ≤ tg ∧ tg < 9223372036854775808) (ha : 0 ≤ a ∧ a < 18446744073709551616) (hv : 0 ≤ v ∧ v < 18446744073709551616) (hJ : Heap W wr [HP.q bq s, HP.r br s]) (hlt : k < n)  (Q0 : Exit → Act → World → Prop) (c1 c26 c27 c28 c29 u2 u6 u7 u8 u9 u10 u11 u12 u13 u14 u15 u16 u17 u18 u19 u20 u21 u22 u23 u24 u25 u30 u31 u32 u33 u34 u35 u36 u37 u38 u39 u40 u41 u42 u43 u44 u45 u46 u47 u48 u49 u50 u51 u52 u53 u54 u55 u56 u57 u58 u59 u60 u61 u62 u63 u64 u65 u66 u67 u68 u69 u70 u71 u72 u73 u74 u75 u76 u77 u78 u79 u80 u81 u82 u83 u84 u85 u86 u87 u88 u89 u90 u91 u92 u93 u94 u95 u96 u97 u98 u99 u100 u101 u102 u103 u104 u105 u106 u107 u108 u109 u110 u111 u112 u113 u114 u115 u116 u117 u118 u119 u120 u121 u122 u123 u124 u125 u126 u127 u128 u129 u130 u131 u132 u133 u134 u135 u136 u137 u138 u139 u140 u141 u142 u143 u144 u145 u146 u147 u148 u149 u150 u151 u152 u153 u154 u155 u156 u157 u158 u159 u160 u161 u162 u163 u164 u165 u166 u167 u168 u169 u170 u171 u172 u173 u174 u175 u176 u177 u178 u179 u180 u181 u182 u183 u184 u185 u186 u187 u188 u189 u190 u191 u192 u193 u194 u195 u196 u197 u198 u199 u200 u201 u202 u203 : Value) :
    Code.wp Try.prog bodyD (Exit.then (fun a' w'' => WIDo c1 c26 c27 c28 c29 W (some ⟨ab, ao, none⟩) n cap bq br a' w'' ∧ WmuD n a' w'' < n - k) Q0) ⟨#[.slice (some ⟨ab, ao, none⟩) n cap, c1, u2, .pointer (some ⟨bq, 0, none⟩), .pointer (some ⟨br, 0, none⟩), .int .i64 (k : Int), u6, u7, u8, u9, u10, u11, u12, u13, u14, u15, u16, u17, u18, u19, u20, u21, u22, u23, u24, u25, c26, c27, c28, c29, u30, u31, u32, u33, u34, u35, u36, u37, u38, u39, u40, u41, u42, u43, u44, u45, u46, u47, u48, u49, u50, u51, u52, u53, u54, u55, u56, u57, u58, u59, u60, u61, u62, u63, u64, u65, u66, u67, u68, u69, u70, u71, u72, u73, u74, u75, u76, u77, u78, u79, u80, u81, u82, u83, u84, u85, u86, u87, u88, u89, u90, u91, u92, u93, u94, u95, u96, u97, u98, u99, u100, u101, u102, u103, u104, u105, u106, u107, u108, u109, u110, u111, u112, u113, u114, u115, u116, u117, u118, u119, u120, u121, u122, u123, u124, u125, u126, u127, u128, u129, u130, u131, u132, u133, u134, u135, u136, u137, u138, u139, u140, u141, u142, u143, u144, u145, u146, u147, u148, u149, u150, u151, u152, u153, u154, u155, u156, u157, u158, u159, u160, u161, u162, u163, u164, u165, u166, u167, u168, u169, u170, u171, u172, u173, u174, u175, u176, u177, u178, u179, u180, u181, u182, u183, u184, u185, u186, u187, u188, u189, u190, u191, u192, u193, u194, u195, u196, u197, u198, u199, u200, u201, u202, u203], []⟩ wr := by
  conv => arg 2; whnf
  have HT := hide ht
  have HA := hide ha
  have HV := hide hv
  have HI := hide hJ.rI2
  have hD := (hJ.new #[.int .i64 4, .int .i64 tg, .int .u64 a, .int .i64 sz, .int .u64 v] 30).b3
  obtain ⟨kx, hkx⟩ : ∃ k, wr.heap.size = k := ⟨_, rfl⟩
  rw [hkx] at hD
  have Hkx := hide hkx
  have H := hide hD
  clear hJ hD hkx ht ha hv
  go_upto_region 9 with fail
  rw [unhide Hkx]
  generalize wr.alloc (.cells #[.int .i64 4, .int .i64 tg, .int .u64 a, .int .i64 sz, .int .u64 v] 30) = w1 at H ⊢
  clear x0 x1 x2 x3 x4 hab Hkx
  obtain ⟨y0, y1, y2, y3, y4⟩ := cells5s (Heap.heap (Heap.f3 (unhide H)))
  have hxl := lt_of_heap' (Heap.heap (Heap.f3 (unhide H)))
  have hne := got_ne (unhide HI) tg
  obtain ⟨⟨gw, gm, gv⟩, hG⟩ : ∃ G, (lookQ s tg).1 = G := ⟨_, rfl⟩
  obtain ⟨mc, hmc⟩ : ∃ z, (lookQ s tg).2 = z := ⟨_, rfl⟩
  have HMC := hide (And.intro hG hmc)
  rw [hG] at hne
  unfold GotS.cs at hne
  dsimp only at hne
  have HNE := hide (show ∀ w, (binOp .neq 40 (.agg #[.bool gw, .int .u8 gm, .int .u64 gv]) (.agg #[.bool gw, .int .u8 gm, .int .u64 gv])).run Try.prog w = .ok (.bool false) w from hne)
  clear hG hmc hne
  go_wp2_with fail
  refine (look_h (unhide H) tg).mono ?_
  rintro r_ w5 ⟨rfl, h5⟩
  rw [(unhide HMC).1, (unhide HMC).2]
  unfold GotS.cs
  dsimp only
  have h5b := h5.new #[.bool gw, .int .u8 gm, .int .u64 gv] 37
  obtain ⟨k1, hk1⟩ : ∃ z, w5.heap.size = z := ⟨_, rfl⟩
  rw [hk1] at h5b
  have HK1 := hide hk1
  have H5 := hide h5b.f3
  clear h5 h5b hk1 y0 y1 y2 y3 y4 hxl
  go_upto_region 34 with fail
  rw [unhide HK1]
  generalize w5.alloc (.cells #[.bool gw, .int .u8 gm, .int .u64 gv] 37) = w6 at H5 ⊢
  obtain ⟨y0, y1, y2, y3, y4⟩ := cells5s (Heap.heap (Heap.f4 (unhide H5)))
  have hxl := lt_of_heap' (Heap.heap (Heap.f4 (unhide H5)))
  go_wp2_with fail
  refine (look_r (unhide H5) tg).mono ?_
  rintro r_ w7 ⟨rfl, h7⟩
  rw [(unhide HMC).1, (unhide HMC).2]
  unfold GotS.cs
  dsimp only
  have h7b := h7.new #[.bool gw, .int .u8 gm, .int .u64 gv] 40
  obtain ⟨k2, hk2⟩ : ∃ z, w7.heap.size = z := ⟨_, rfl⟩
  rw [hk2] at h7b
  have HK2 := hide hk2
  have H7 := hide h7b
  clear h7 h7b hk2 y0 y1 y2 y3 y4 hxl HK1 H5
  go_upto_region 35 with fail
  rw [unhide HK2]
  generalize w7.alloc (.cells #[.bool gw, .int .u8 gm, .int .u64 gv] 40) = w8 at H7 ⊢
  obtain ⟨a0, fa0⟩ := cell_blk (Heap.heap (unhide H7)) 0
  obtain ⟨a1, fa1⟩ := cell_blk (Heap.heap (unhide H7)) 1
  obtain ⟨a2, fa2⟩ := cell_blk (Heap.heap (unhide H7)) 2
  have hal := lt_of_heap' (Heap.heap (unhide H7))
  obtain ⟨b0, fb0⟩ := cell_blk (Heap.heap (Heap.f3 (unhide H7))) 0
  obtain ⟨b1, fb1⟩ := cell_blk (Heap.heap (Heap.f3 (unhide H7))) 1
  obtain ⟨b2, fb2⟩ := cell_blk (Heap.heap (Heap.f3 (unhide H7))) 2
  have hbl := lt_of_heap' (Heap.heap (Heap.f3 (unhide H7)))
  have hne := unhide HNE
  have H6 := hide (show Heap W w8 [HP.q bq s, HP.r br s, HP.blk kx #[.int .i64 4, .int .i64 tg, .int .u64 a, .int .i64 sz, .int .u64 v] 30] from (unhide H7).tail.f2.tail.f2)
  obtain ⟨y0, y1, y2, y3, y4⟩ := cells5s (Heap.heap (Heap.f3 (unhide H6)))
  have hxl := lt_of_heap' (Heap.heap (Heap.f3 (unhide H6)))
  clear HK2 H7
  go_wp2_with fail
  refine (count_h (unhide H6)).mono ?_
  rintro r_ w8 ⟨rfl, h8⟩
  have H8 := hide h8.f2
  clear h8 y0 y1 y2 y3 y4 hxl
  go_wp2_with fail
  refine (count_r (unhide H8)).mono ?_
  rintro r_ w9 ⟨rfl, h9⟩
  have HZ := hide (show Heap W w9 [HP.q bq (s), HP.r br (s)] from h9.f3.tail.f2)
  obtain ⟨ld, hld⟩ : ∃ z, nLd (s).l = z := ⟨_, rfl⟩
  obtain ⟨sd, hsd⟩ : ∃ z, nSt (s).l = z := ⟨_, rfl⟩
  rw [hld, hsd]
  have z1 : ((ld : Int) != (ld : Int)) = false := by simp
  have z2 : ((sd : Int) != (sd : Int)) = false := by simp
  clear h9 hld hsd
  cases mc with
  | false =>
    go_wp2
    have e5 : (k : Int) + 1 = ((k + 1 : Nat) : Int) := rfl
    try rw [e5]
    refine ⟨⟨k + 1, s, ⟨by omega, unhide HZ⟩, ?_⟩, by simp [WmuD, intOf]; omega⟩
    unfold FRD
    refine ⟨_, _, _, _, _, _, _, _, _, _, _, _, _, _, _, _, _, _, _, _, _, _, _, _, _, _, _, _, _, _, _, _, _, _, _, _, _, _, _, _, _, _, _, _, _, _, _, _, _, _, _, _, _, _, _, _, _, _, _, _, _, _, _, _, _, _, _, _, _, _, _, _, _, _, _, _, _, _, _, _, _, _, _, _, _, _, _, _, _, _, _, _, _, _, _, _, _, _, _, _, _, _, _, _, _, _, _, _, _, _, _, _, _, _, _, _, _, _, _, _, _, _, _, _, _, _, _, _, _, _, _, _, _, _, _, _, _, _, _, _, _, _, _, _, _, _, _, _, _, _, _, _, _, _, _, _, _, _, _, _, _, _, _, _, _, _, _, _, _, _, _, _, _, _, _, _, _, _, _, _, _, _, _, _, _, _, _, _, _, _, _, _, _, _, _, rfl⟩
  | true =>
    go_wp2
    have e5 : (k : Int) + 1 = ((k + 1 : Nat) : Int) := rfl
    try rw [e5]
    refine ⟨⟨k + 1, s, ⟨by omega, unhide HZ⟩, ?_⟩, by simp [WmuD, intOf]; omega⟩
    unfold FRD
    refine ⟨_, _, _, _, _, _, _, _, _, _, _, _, _, _, _, _, _, _, _, _, _, _, _, _, _, _, _, _, _, _, _, _, _, _, _, _, _, _, _, _, _, _, _, _, _, _, _, _, _, _, _, _, _, _, _, _, _, _, _, _, _, _, _, _, _, _, _, _, _, _, _, _, _, _, _, _, _, _, _, _, _, _, _, _, _, _, _, _, _, _, _, _, _, _, _, _, _, _, _, _, _, _, _, _, _, _, _, _, _, _, _, _, _, _, _, _, _, _, _, _, _, _, _, _, _, _, _, _, _, _, _, _, _, _, _, _, _, _, _, _, _, _, _, _, _, _, _, _, _, _, _, _, _, _, _, _, _, _, _, _, _, _, _, _, _, _, _, _, _, _, _, _, _, _, _, _, _, _, _, _, _, _, _, _, _, _, _, _, _, _, _, _, _, _, _, rfl⟩
end Go.Proofs.Ytdmkgomcomcfhaa
