/- Layer 23: LsqDoes: frames; Load, Store, Data, Done. -/
import Derived.Test.YtdmkgomcomcfhaaR11
namespace Go.Proofs.Ytdmkgomcomcfhaa
open Go.RowKit

set_option maxRecDepth 1000000 in
def FRD (c1 c26 c27 c28 c29 : Value) (A : Option Addr) (n cap bq br k : Nat) (a : Act) : Prop := ∃ u2 : Value, ∃ u6 : Value, ∃ u7 : Value, ∃ u8 : Value, ∃ u9 : Value, ∃ u10 : Value, ∃ u11 : Value, ∃ u12 : Value, ∃ u13 : Value, ∃ u14 : Value, ∃ u15 : Value, ∃ u16 : Value, ∃ u17 : Value, ∃ u18 : Value, ∃ u19 : Value, ∃ u20 : Value, ∃ u21 : Value, ∃ u22 : Value, ∃ u23 : Value, ∃ u24 : Value, ∃ u25 : Value, ∃ u30 : Value, ∃ u31 : Value, ∃ u32 : Value, ∃ u33 : Value, ∃ u34 : Value, ∃ u35 : Value, ∃ u36 : Value, ∃ u37 : Value, ∃ u38 : Value, ∃ u39 : Value, ∃ u40 : Value, ∃ u41 : Value, ∃ u42 : Value, ∃ u43 : Value, ∃ u44 : Value, ∃ u45 : Value, ∃ u46 : Value, ∃ u47 : Value, ∃ u48 : Value, ∃ u49 : Value, ∃ u50 : Value, ∃ u51 : Value, ∃ u52 : Value, ∃ u53 : Value, ∃ u54 : Value, ∃ u55 : Value, ∃ u56 : Value, ∃ u57 : Value, ∃ u58 : Value, ∃ u59 : Value, ∃ u60 : Value, ∃ u61 : Value, ∃ u62 : Value, ∃ u63 : Value, ∃ u64 : Value, ∃ u65 : Value, ∃ u66 : Value, ∃ u67 : Value, ∃ u68 : Value, ∃ u69 : Value, ∃ u70 : Value, ∃ u71 : Value, ∃ u72 : Value, ∃ u73 : Value, ∃ u74 : Value, ∃ u75 : Value, ∃ u76 : Value, ∃ u77 : Value, ∃ u78 : Value, ∃ u79 : Value, ∃ u80 : Value, ∃ u81 : Value, ∃ u82 : Value, ∃ u83 : Value, ∃ u84 : Value, ∃ u85 : Value, ∃ u86 : Value, ∃ u87 : Value, ∃ u88 : Value, ∃ u89 : Value, ∃ u90 : Value, ∃ u91 : Value, ∃ u92 : Value, ∃ u93 : Value, ∃ u94 : Value, ∃ u95 : Value, ∃ u96 : Value, ∃ u97 : Value, ∃ u98 : Value, ∃ u99 : Value, ∃ u100 : Value, ∃ u101 : Value, ∃ u102 : Value, ∃ u103 : Value, ∃ u104 : Value, ∃ u105 : Value, ∃ u106 : Value, ∃ u107 : Value, ∃ u108 : Value, ∃ u109 : Value, ∃ u110 : Value, ∃ u111 : Value, ∃ u112 : Value, ∃ u113 : Value, ∃ u114 : Value, ∃ u115 : Value, ∃ u116 : Value, ∃ u117 : Value, ∃ u118 : Value, ∃ u119 : Value, ∃ u120 : Value, ∃ u121 : Value, ∃ u122 : Value, ∃ u123 : Value, ∃ u124 : Value, ∃ u125 : Value, ∃ u126 : Value, ∃ u127 : Value, ∃ u128 : Value, ∃ u129 : Value, ∃ u130 : Value, ∃ u131 : Value, ∃ u132 : Value, ∃ u133 : Value, ∃ u134 : Value, ∃ u135 : Value, ∃ u136 : Value, ∃ u137 : Value, ∃ u138 : Value, ∃ u139 : Value, ∃ u140 : Value, ∃ u141 : Value, ∃ u142 : Value, ∃ u143 : Value, ∃ u144 : Value, ∃ u145 : Value, ∃ u146 : Value, ∃ u147 : Value, ∃ u148 : Value, ∃ u149 : Value, ∃ u150 : Value, ∃ u151 : Value, ∃ u152 : Value, ∃ u153 : Value, ∃ u154 : Value, ∃ u155 : Value, ∃ u156 : Value, ∃ u157 : Value, ∃ u158 : Value, ∃ u159 : Value, ∃ u160 : Value, ∃ u161 : Value, ∃ u162 : Value, ∃ u163 : Value, ∃ u164 : Value, ∃ u165 : Value, ∃ u166 : Value, ∃ u167 : Value, ∃ u168 : Value, ∃ u169 : Value, ∃ u170 : Value, ∃ u171 : Value, ∃ u172 : Value, ∃ u173 : Value, ∃ u174 : Value, ∃ u175 : Value, ∃ u176 : Value, ∃ u177 : Value, ∃ u178 : Value, ∃ u179 : Value, ∃ u180 : Value, ∃ u181 : Value, ∃ u182 : Value, ∃ u183 : Value, ∃ u184 : Value, ∃ u185 : Value, ∃ u186 : Value, ∃ u187 : Value, ∃ u188 : Value, ∃ u189 : Value, ∃ u190 : Value, ∃ u191 : Value, ∃ u192 : Value, ∃ u193 : Value, ∃ u194 : Value, ∃ u195 : Value, ∃ u196 : Value, ∃ u197 : Value, ∃ u198 : Value, ∃ u199 : Value, ∃ u200 : Value, ∃ u201 : Value, ∃ u202 : Value, ∃ u203 : Value, a = ⟨#[.slice A n cap, c1, u2, .pointer (some ⟨bq, 0, none⟩), .pointer (some ⟨br, 0, none⟩), .int .i64 (k : Int), u6, u7, u8, u9, u10, u11, u12, u13, u14, u15, u16, u17, u18, u19, u20, u21, u22, u23, u24, u25, c26, c27, c28, c29, u30, u31, u32, u33, u34, u35, u36, u37, u38, u39, u40, u41, u42, u43, u44, u45, u46, u47, u48, u49, u50, u51, u52, u53, u54, u55, u56, u57, u58, u59, u60, u61, u62, u63, u64, u65, u66, u67, u68, u69, u70, u71, u72, u73, u74, u75, u76, u77, u78, u79, u80, u81, u82, u83, u84, u85, u86, u87, u88, u89, u90, u91, u92, u93, u94, u95, u96, u97, u98, u99, u100, u101, u102, u103, u104, u105, u106, u107, u108, u109, u110, u111, u112, u113, u114, u115, u116, u117, u118, u119, u120, u121, u122, u123, u124, u125, u126, u127, u128, u129, u130, u131, u132, u133, u134, u135, u136, u137, u138, u139, u140, u141, u142, u143, u144, u145, u146, u147, u148, u149, u150, u151, u152, u153, u154, u155, u156, u157, u158, u159, u160, u161, u162, u163, u164, u165, u166, u167, u168, u169, u170, u171, u172, u173, u174, u175, u176, u177, u178, u179, u180, u181, u182, u183, u184, u185, u186, u187, u188, u189, u190, u191, u192, u193, u194, u195, u196, u197, u198, u199, u200, u201, u202, u203], []⟩

def WIDo (c1 c26 c27 c28 c29 : Value) (W : World) (A : Option Addr) (n cap bq br : Nat) (a : Act) (w' : World) : Prop := ∃ (k : Nat) (s : Qs), (k ≤ n ∧ Heap W w' [HP.q bq s, HP.r br s]) ∧ FRD c1 c26 c27 c28 c29 A n cap bq br k a
def WXDo (c1 c26 c27 c28 c29 : Value) (W : World) (A : Option Addr) (n cap bq br : Nat) (a : Act) (w' : World) : Prop := ∃ (s : Qs), Heap W w' [HP.q bq s, HP.r br s] ∧ FRD c1 c26 c27 c28 c29 A n cap bq br n a
def WmuD (K : Nat) (a : Act) (_ : World) : Nat := K - (intOf (a.tmps.getD 5 undef)).toNat
def loopsOfD : Code → List Code
  | .loop c => [c]
  | .seq a b => loopsOfD a ++ loopsOfD b
  | .block _ c => loopsOfD c
  | .scope c => loopsOfD c
  | .cond _ a b => loopsOfD a ++ loopsOfD b
  | _ => []
noncomputable def bodyD : Code := ((Try.f3.body.map loopsOfD).getD []).getD 0 .skip

theorem Heap.rI2 {w0 w : World} {L : List HP} {b : Nat} {q : Qs} {A : HP} (h : Heap w0 w (A :: HP.r b q :: L)) : QI q := h.tail.rI
set_option maxRecDepth 1000000 in
set_option maxHeartbeats 8000000 in
theorem caseLoad {W wr : World} {ab ao n cap bq br k : Nat} {s : Qs} {tg a sz v : Int} (hn : n ≤ 4398046511104) (hab : ab < wr.heap.size)
    (x0 : wr.cell? ⟨ab, ao + k * 5, none⟩ = some (.int .i64 0)) (x1 : wr.cell? ⟨ab, ao + k * 5 + 1, none⟩ = some (.int .i64 tg)) (x2 : wr.cell? ⟨ab, ao + k * 5 + 2, none⟩ = some (.int .u64 a)) (x3 : wr.cell? ⟨ab, ao + k * 5 + 3, none⟩ = some (.int .i64 sz)) (x4 : wr.cell? ⟨ab, ao + k * 5 + 4, none⟩ = some (.int .u64 v))
    (ht : -9223372036854775808 ≤ tg ∧ tg < 9223372036854775808) (ha : 0 ≤ a ∧ a < 18446744073709551616) (hv : 0 ≤ v ∧ v < 18446744073709551616) (hJ : Heap W wr [HP.q bq s, HP.r br s]) (hlt : k < n)  (Q0 : Exit → Act → World → Prop) (c1 c26 c27 c28 c29 u2 u6 u7 u8 u9 u10 u11 u12 u13 u14 u15 u16 u17 u18 u19 u20 u21 u22 u23 u24 u25 u30 u31 u32 u33 u34 u35 u36 u37 u38 u39 u40 u41 u42 u43 u44 u45 u46 u47 u48 u49 u50 u51 u52 u53 u54 u55 u56 u57 u58 u59 u60 u61 u62 u63 u64 u65 u66 u67 u68 u69 u70 u71 u72 u73 u74 u75 u76 u77 u78 u79 u80 u81 u82 u83 u84 u85 u86 u87 u88 u89 u90 u91 u92 u93 u94 u95 u96 u97 u98 u99 u100 u101 u102 u103 u104 u105 u106 u107 u108 u109 u110 u111 u112 u113 u114 u115 u116 u117 u118 u119 u120 u121 u122 u123 u124 u125 u126 u127 u128 u129 u130 u131 u132 u133 u134 u135 u136 u137 u138 u139 u140 u141 u142 u143 u144 u145 u146 u147 u148 u149 u150 u151 u152 u153 u154 u155 u156 u157 u158 u159 u160 u161 u162 u163 u164 u165 u166 u167 u168 u169 u170 u171 u172 u173 u174 u175 u176 u177 u178 u179 u180 u181 u182 u183 u184 u185 u186 u187 u188 u189 u190 u191 u192 u193 u194 u195 u196 u197 u198 u199 u200 u201 u202 u203 : Value) :
    Code.wp Try.prog bodyD (Exit.then (fun a' w'' => WIDo c1 c26 c27 c28 c29 W (some ⟨ab, ao, none⟩) n cap bq br a' w'' ∧ WmuD n a' w'' < n - k) Q0) ⟨#[.slice (some ⟨ab, ao, none⟩) n cap, c1, u2, .pointer (some ⟨bq, 0, none⟩), .pointer (some ⟨br, 0, none⟩), .int .i64 (k : Int), u6, u7, u8, u9, u10, u11, u12, u13, u14, u15, u16, u17, u18, u19, u20, u21, u22, u23, u24, u25, c26, c27, c28, c29, u30, u31, u32, u33, u34, u35, u36, u37, u38, u39, u40, u41, u42, u43, u44, u45, u46, u47, u48, u49, u50, u51, u52, u53, u54, u55, u56, u57, u58, u59, u60, u61, u62, u63, u64, u65, u66, u67, u68, u69, u70, u71, u72, u73, u74, u75, u76, u77, u78, u79, u80, u81, u82, u83, u84, u85, u86, u87, u88, u89, u90, u91, u92, u93, u94, u95, u96, u97, u98, u99, u100, u101, u102, u103, u104, u105, u106, u107, u108, u109, u110, u111, u112, u113, u114, u115, u116, u117, u118, u119, u120, u121, u122, u123, u124, u125, u126, u127, u128, u129, u130, u131, u132, u133, u134, u135, u136, u137, u138, u139, u140, u141, u142, u143, u144, u145, u146, u147, u148, u149, u150, u151, u152, u153, u154, u155, u156, u157, u158, u159, u160, u161, u162, u163, u164, u165, u166, u167, u168, u169, u170, u171, u172, u173, u174, u175, u176, u177, u178, u179, u180, u181, u182, u183, u184, u185, u186, u187, u188, u189, u190, u191, u192, u193, u194, u195, u196, u197, u198, u199, u200, u201, u202, u203], []⟩ wr := by
  conv => arg 2; whnf
  have HT := hide ht
  have HA := hide ha
  have HV := hide hv
  have HI := hide hJ.rI2
  have hD := (hJ.new #[.int .i64 0, .int .i64 tg, .int .u64 a, .int .i64 sz, .int .u64 v] 30).b3
  obtain ⟨kx, hkx⟩ : ∃ k, wr.heap.size = k := ⟨_, rfl⟩
  rw [hkx] at hD
  have Hkx := hide hkx
  have H := hide hD
  clear hJ hD hkx ht ha hv
  go_upto_region 9 with fail
  rw [unhide Hkx]
  generalize wr.alloc (.cells #[.int .i64 0, .int .i64 tg, .int .u64 a, .int .i64 sz, .int .u64 v] 30) = w1 at H ⊢
  clear x0 x1 x2 x3 x4 hab Hkx
  obtain ⟨y0, y1, y2, y3, y4⟩ := cells5s (Heap.heap (Heap.f3 (unhide H)))
  have hxl := lt_of_heap' (Heap.heap (Heap.f3 (unhide H)))
  obtain ⟨mc, hmc⟩ : ∃ z, mayCome s.l tg false = z := ⟨_, rfl⟩
  obtain ⟨s2, hs2⟩ : ∃ z, comeQ s (.fresh tg a false) = z := ⟨_, rfl⟩
  have HMC := hide (And.intro hmc hs2)
  clear hmc hs2
  go_wp2_with fail
  refine (load_h (unhide H) tg a (unhide HT) (unhide HA)).mono ?_
  rintro r_ w5 ⟨rfl, h5⟩
  rw [(unhide HMC).2] at h5
  rw [(unhide HMC).1]
  have H5 := hide h5.f2
  clear y0 y1 y2 y3 y4 hxl
  obtain ⟨y0, y1, y2, y3, y4⟩ := cells5s (Heap.heap (Heap.f3 (h5)))
  have hxl := lt_of_heap' (Heap.heap (Heap.f3 (h5)))
  clear h5
  go_wp2_with fail
  refine (load_r (unhide H5) tg a (unhide HT) (unhide HA)).mono ?_
  rintro r_ w6 ⟨rfl, h6⟩
  rw [(unhide HMC).2] at h6
  rw [(unhide HMC).1]
  have H6 := hide h6.f2
  clear y0 y1 y2 y3 y4 hxl
  obtain ⟨y0, y1, y2, y3, y4⟩ := cells5s (Heap.heap (Heap.f3 (h6)))
  have hxl := lt_of_heap' (Heap.heap (Heap.f3 (h6)))
  clear h6
  go_wp2_with fail
  refine (count_h (unhide H6)).mono ?_
  rintro r_ w8 ⟨rfl, h8⟩
  have H8 := hide h8.f2
  clear h8 y0 y1 y2 y3 y4 hxl
  go_wp2_with fail
  refine (count_r (unhide H8)).mono ?_
  rintro r_ w9 ⟨rfl, h9⟩
  have HZ := hide (show Heap W w9 [HP.q bq (s2), HP.r br (s2)] from h9.f3.tail.f2)
  obtain ⟨ld, hld⟩ : ∃ z, nLd (s2).l = z := ⟨_, rfl⟩
  obtain ⟨sd, hsd⟩ : ∃ z, nSt (s2).l = z := ⟨_, rfl⟩
  rw [hld, hsd]
  have z1 : ((ld : Int) != (ld : Int)) = false := by simp
  have z2 : ((sd : Int) != (sd : Int)) = false := by simp
  clear h9 hld hsd
  cases mc with
  | false =>
    go_wp2
    have e5 : (k : Int) + 1 = ((k + 1 : Nat) : Int) := rfl
    try rw [e5]
    refine ⟨⟨k + 1, s2, ⟨by omega, unhide HZ⟩, ?_⟩, by simp [WmuD, intOf]; omega⟩
    unfold FRD
    refine ⟨_, _, _, _, _, _, _, _, _, _, _, _, _, _, _, _, _, _, _, _, _, _, _, _, _, _, _, _, _, _, _, _, _, _, _, _, _, _, _, _, _, _, _, _, _, _, _, _, _, _, _, _, _, _, _, _, _, _, _, _, _, _, _, _, _, _, _, _, _, _, _, _, _, _, _, _, _, _, _, _, _, _, _, _, _, _, _, _, _, _, _, _, _, _, _, _, _, _, _, _, _, _, _, _, _, _, _, _, _, _, _, _, _, _, _, _, _, _, _, _, _, _, _, _, _, _, _, _, _, _, _, _, _, _, _, _, _, _, _, _, _, _, _, _, _, _, _, _, _, _, _, _, _, _, _, _, _, _, _, _, _, _, _, _, _, _, _, _, _, _, _, _, _, _, _, _, _, _, _, _, _, _, _, _, _, _, _, _, _, _, _, _, _, _, _, rfl⟩
  | true =>
    go_wp2
    have e5 : (k : Int) + 1 = ((k + 1 : Nat) : Int) := rfl
    try rw [e5]
    refine ⟨⟨k + 1, s2, ⟨by omega, unhide HZ⟩, ?_⟩, by simp [WmuD, intOf]; omega⟩
    unfold FRD
    refine ⟨_, _, _, _, _, _, _, _, _, _, _, _, _, _, _, _, _, _, _, _, _, _, _, _, _, _, _, _, _, _, _, _, _, _, _, _, _, _, _, _, _, _, _, _, _, _, _, _, _, _, _, _, _, _, _, _, _, _, _, _, _, _, _, _, _, _, _, _, _, _, _, _, _, _, _, _, _, _, _, _, _, _, _, _, _, _, _, _, _, _, _, _, _, _, _, _, _, _, _, _, _, _, _, _, _, _, _, _, _, _, _, _, _, _, _, _, _, _, _, _, _, _, _, _, _, _, _, _, _, _, _, _, _, _, _, _, _, _, _, _, _, _, _, _, _, _, _, _, _, _, _, _, _, _, _, _, _, _, _, _, _, _, _, _, _, _, _, _, _, _, _, _, _, _, _, _, _, _, _, _, _, _, _, _, _, _, _, _, _, _, _, _, _, _, _, rfl⟩
set_option maxRecDepth 1000000 in
set_option maxHeartbeats 8000000 in
theorem caseStore {W wr : World} {ab ao n cap bq br k : Nat} {s : Qs} {tg a sz v : Int} (hn : n ≤ 4398046511104) (hab : ab < wr.heap.size)
    (x0 : wr.cell? ⟨ab, ao + k * 5, none⟩ = some (.int .i64 1)) (x1 : wr.cell? ⟨ab, ao + k * 5 + 1, none⟩ = some (.int .i64 tg)) (x2 : wr.cell? ⟨ab, ao + k * 5 + 2, none⟩ = some (.int .u64 a)) (x3 : wr.cell? ⟨ab, ao + k * 5 + 3, none⟩ = some (.int .i64 sz)) (x4 : wr.cell? ⟨ab, ao + k * 5 + 4, none⟩ = some (.int .u64 v))
    (ht : -9223372036854775808 ≤ tg ∧ tg < 9223372036854775808) (ha : 0 ≤ a ∧ a < 18446744073709551616) (hv : 0 ≤ v ∧ v < 18446744073709551616) (hJ : Heap W wr [HP.q bq s, HP.r br s]) (hlt : k < n)  (Q0 : Exit → Act → World → Prop) (c1 c26 c27 c28 c29 u2 u6 u7 u8 u9 u10 u11 u12 u13 u14 u15 u16 u17 u18 u19 u20 u21 u22 u23 u24 u25 u30 u31 u32 u33 u34 u35 u36 u37 u38 u39 u40 u41 u42 u43 u44 u45 u46 u47 u48 u49 u50 u51 u52 u53 u54 u55 u56 u57 u58 u59 u60 u61 u62 u63 u64 u65 u66 u67 u68 u69 u70 u71 u72 u73 u74 u75 u76 u77 u78 u79 u80 u81 u82 u83 u84 u85 u86 u87 u88 u89 u90 u91 u92 u93 u94 u95 u96 u97 u98 u99 u100 u101 u102 u103 u104 u105 u106 u107 u108 u109 u110 u111 u112 u113 u114 u115 u116 u117 u118 u119 u120 u121 u122 u123 u124 u125 u126 u127 u128 u129 u130 u131 u132 u133 u134 u135 u136 u137 u138 u139 u140 u141 u142 u143 u144 u145 u146 u147 u148 u149 u150 u151 u152 u153 u154 u155 u156 u157 u158 u159 u160 u161 u162 u163 u164 u165 u166 u167 u168 u169 u170 u171 u172 u173 u174 u175 u176 u177 u178 u179 u180 u181 u182 u183 u184 u185 u186 u187 u188 u189 u190 u191 u192 u193 u194 u195 u196 u197 u198 u199 u200 u201 u202 u203 : Value) :
    Code.wp Try.prog bodyD (Exit.then (fun a' w'' => WIDo c1 c26 c27 c28 c29 W (some ⟨ab, ao, none⟩) n cap bq br a' w'' ∧ WmuD n a' w'' < n - k) Q0) ⟨#[.slice (some ⟨ab, ao, none⟩) n cap, c1, u2, .pointer (some ⟨bq, 0, none⟩), .pointer (some ⟨br, 0, none⟩), .int .i64 (k : Int), u6, u7, u8, u9, u10, u11, u12, u13, u14, u15, u16, u17, u18, u19, u20, u21, u22, u23, u24, u25, c26, c27, c28, c29, u30, u31, u32, u33, u34, u35, u36, u37, u38, u39, u40, u41, u42, u43, u44, u45, u46, u47, u48, u49, u50, u51, u52, u53, u54, u55, u56, u57, u58, u59, u60, u61, u62, u63, u64, u65, u66, u67, u68, u69, u70, u71, u72, u73, u74, u75, u76, u77, u78, u79, u80, u81, u82, u83, u84, u85, u86, u87, u88, u89, u90, u91, u92, u93, u94, u95, u96, u97, u98, u99, u100, u101, u102, u103, u104, u105, u106, u107, u108, u109, u110, u111, u112, u113, u114, u115, u116, u117, u118, u119, u120, u121, u122, u123, u124, u125, u126, u127, u128, u129, u130, u131, u132, u133, u134, u135, u136, u137, u138, u139, u140, u141, u142, u143, u144, u145, u146, u147, u148, u149, u150, u151, u152, u153, u154, u155, u156, u157, u158, u159, u160, u161, u162, u163, u164, u165, u166, u167, u168, u169, u170, u171, u172, u173, u174, u175, u176, u177, u178, u179, u180, u181, u182, u183, u184, u185, u186, u187, u188, u189, u190, u191, u192, u193, u194, u195, u196, u197, u198, u199, u200, u201, u202, u203], []⟩ wr := by
  conv => arg 2; whnf
  have HT := hide ht
  have HA := hide ha
  have HV := hide hv
  have HI := hide hJ.rI2
  have hD := (hJ.new #[.int .i64 1, .int .i64 tg, .int .u64 a, .int .i64 sz, .int .u64 v] 30).b3
  obtain ⟨kx, hkx⟩ : ∃ k, wr.heap.size = k := ⟨_, rfl⟩
  rw [hkx] at hD
  have Hkx := hide hkx
  have H := hide hD
  clear hJ hD hkx ht ha hv
  go_upto_region 9 with fail
  rw [unhide Hkx]
  generalize wr.alloc (.cells #[.int .i64 1, .int .i64 tg, .int .u64 a, .int .i64 sz, .int .u64 v] 30) = w1 at H ⊢
  clear x0 x1 x2 x3 x4 hab Hkx
  obtain ⟨y0, y1, y2, y3, y4⟩ := cells5s (Heap.heap (Heap.f3 (unhide H)))
  have hxl := lt_of_heap' (Heap.heap (Heap.f3 (unhide H)))
  obtain ⟨mc, hmc⟩ : ∃ z, mayCome s.l tg true = z := ⟨_, rfl⟩
  obtain ⟨s2, hs2⟩ : ∃ z, comeQ s (.fresh tg a true) = z := ⟨_, rfl⟩
  have HMC := hide (And.intro hmc hs2)
  clear hmc hs2
  go_wp2_with fail
  refine (store_h (unhide H) tg a (unhide HT) (unhide HA)).mono ?_
  rintro r_ w5 ⟨rfl, h5⟩
  rw [(unhide HMC).2] at h5
  rw [(unhide HMC).1]
  have H5 := hide h5.f2
  clear y0 y1 y2 y3 y4 hxl
  obtain ⟨y0, y1, y2, y3, y4⟩ := cells5s (Heap.heap (Heap.f3 (h5)))
  have hxl := lt_of_heap' (Heap.heap (Heap.f3 (h5)))
  clear h5
  go_wp2_with fail
  refine (store_r (unhide H5) tg a (unhide HT) (unhide HA)).mono ?_
  rintro r_ w6 ⟨rfl, h6⟩
  rw [(unhide HMC).2] at h6
  rw [(unhide HMC).1]
  have H6 := hide h6.f2
  clear y0 y1 y2 y3 y4 hxl
  obtain ⟨y0, y1, y2, y3, y4⟩ := cells5s (Heap.heap (Heap.f3 (h6)))
  have hxl := lt_of_heap' (Heap.heap (Heap.f3 (h6)))
  clear h6
  go_wp2_with fail
  refine (count_h (unhide H6)).mono ?_
  rintro r_ w8 ⟨rfl, h8⟩
  have H8 := hide h8.f2
  clear h8 y0 y1 y2 y3 y4 hxl
  go_wp2_with fail
  refine (count_r (unhide H8)).mono ?_
  rintro r_ w9 ⟨rfl, h9⟩
  have HZ := hide (show Heap W w9 [HP.q bq (s2), HP.r br (s2)] from h9.f3.tail.f2)
  obtain ⟨ld, hld⟩ : ∃ z, nLd (s2).l = z := ⟨_, rfl⟩
  obtain ⟨sd, hsd⟩ : ∃ z, nSt (s2).l = z := ⟨_, rfl⟩
  rw [hld, hsd]
  have z1 : ((ld : Int) != (ld : Int)) = false := by simp
  have z2 : ((sd : Int) != (sd : Int)) = false := by simp
  clear h9 hld hsd
  cases mc with
  | false =>
    go_wp2
    have e5 : (k : Int) + 1 = ((k + 1 : Nat) : Int) := rfl
    try rw [e5]
    refine ⟨⟨k + 1, s2, ⟨by omega, unhide HZ⟩, ?_⟩, by simp [WmuD, intOf]; omega⟩
    unfold FRD
    refine ⟨_, _, _, _, _, _, _, _, _, _, _, _, _, _, _, _, _, _, _, _, _, _, _, _, _, _, _, _, _, _, _, _, _, _, _, _, _, _, _, _, _, _, _, _, _, _, _, _, _, _, _, _, _, _, _, _, _, _, _, _, _, _, _, _, _, _, _, _, _, _, _, _, _, _, _, _, _, _, _, _, _, _, _, _, _, _, _, _, _, _, _, _, _, _, _, _, _, _, _, _, _, _, _, _, _, _, _, _, _, _, _, _, _, _, _, _, _, _, _, _, _, _, _, _, _, _, _, _, _, _, _, _, _, _, _, _, _, _, _, _, _, _, _, _, _, _, _, _, _, _, _, _, _, _, _, _, _, _, _, _, _, _, _, _, _, _, _, _, _, _, _, _, _, _, _, _, _, _, _, _, _, _, _, _, _, _, _, _, _, _, _, _, _, _, _, rfl⟩
  | true =>
    go_wp2
    have e5 : (k : Int) + 1 = ((k + 1 : Nat) : Int) := rfl
    try rw [e5]
    refine ⟨⟨k + 1, s2, ⟨by omega, unhide HZ⟩, ?_⟩, by simp [WmuD, intOf]; omega⟩
    unfold FRD
    refine ⟨_, _, _, _, _, _, _, _, _, _, _, _, _, _, _, _, _, _, _, _, _, _, _, _, _, _, _, _, _, _, _, _, _, _, _, _, _, _, _, _, _, _, _, _, _, _, _, _, _, _, _, _, _, _, _, _, _, _, _, _, _, _, _, _, _, _, _, _, _, _, _, _, _, _, _, _, _, _, _, _, _, _, _, _, _, _, _, _, _, _, _, _, _, _, _, _, _, _, _, _, _, _, _, _, _, _, _, _, _, _, _, _, _, _, _, _, _, _, _, _, _, _, _, _, _, _, _, _, _, _, _, _, _, _, _, _, _, _, _, _, _, _, _, _, _, _, _, _, _, _, _, _, _, _, _, _, _, _, _, _, _, _, _, _, _, _, _, _, _, _, _, _, _, _, _, _, _, _, _, _, _, _, _, _, _, _, _, _, _, _, _, _, _, _, _, rfl⟩
set_option maxRecDepth 1000000 in
set_option maxHeartbeats 8000000 in
theorem caseData {W wr : World} {ab ao n cap bq br k : Nat} {s : Qs} {tg a sz v : Int} (hn : n ≤ 4398046511104) (hab : ab < wr.heap.size)
    (x0 : wr.cell? ⟨ab, ao + k * 5, none⟩ = some (.int .i64 3)) (x1 : wr.cell? ⟨ab, ao + k * 5 + 1, none⟩ = some (.int .i64 tg)) (x2 : wr.cell? ⟨ab, ao + k * 5 + 2, none⟩ = some (.int .u64 a)) (x3 : wr.cell? ⟨ab, ao + k * 5 + 3, none⟩ = some (.int .i64 sz)) (x4 : wr.cell? ⟨ab, ao + k * 5 + 4, none⟩ = some (.int .u64 v))
    (ht : -9223372036854775808 ≤ tg ∧ tg < 9223372036854775808) (ha : 0 ≤ a ∧ a < 18446744073709551616) (hv : 0 ≤ v ∧ v < 18446744073709551616) (hJ : Heap W wr [HP.q bq s, HP.r br s]) (hlt : k < n)  (Q0 : Exit → Act → World → Prop) (c1 c26 c27 c28 c29 u2 u6 u7 u8 u9 u10 u11 u12 u13 u14 u15 u16 u17 u18 u19 u20 u21 u22 u23 u24 u25 u30 u31 u32 u33 u34 u35 u36 u37 u38 u39 u40 u41 u42 u43 u44 u45 u46 u47 u48 u49 u50 u51 u52 u53 u54 u55 u56 u57 u58 u59 u60 u61 u62 u63 u64 u65 u66 u67 u68 u69 u70 u71 u72 u73 u74 u75 u76 u77 u78 u79 u80 u81 u82 u83 u84 u85 u86 u87 u88 u89 u90 u91 u92 u93 u94 u95 u96 u97 u98 u99 u100 u101 u102 u103 u104 u105 u106 u107 u108 u109 u110 u111 u112 u113 u114 u115 u116 u117 u118 u119 u120 u121 u122 u123 u124 u125 u126 u127 u128 u129 u130 u131 u132 u133 u134 u135 u136 u137 u138 u139 u140 u141 u142 u143 u144 u145 u146 u147 u148 u149 u150 u151 u152 u153 u154 u155 u156 u157 u158 u159 u160 u161 u162 u163 u164 u165 u166 u167 u168 u169 u170 u171 u172 u173 u174 u175 u176 u177 u178 u179 u180 u181 u182 u183 u184 u185 u186 u187 u188 u189 u190 u191 u192 u193 u194 u195 u196 u197 u198 u199 u200 u201 u202 u203 : Value) :
    Code.wp Try.prog bodyD (Exit.then (fun a' w'' => WIDo c1 c26 c27 c28 c29 W (some ⟨ab, ao, none⟩) n cap bq br a' w'' ∧ WmuD n a' w'' < n - k) Q0) ⟨#[.slice (some ⟨ab, ao, none⟩) n cap, c1, u2, .pointer (some ⟨bq, 0, none⟩), .pointer (some ⟨br, 0, none⟩), .int .i64 (k : Int), u6, u7, u8, u9, u10, u11, u12, u13, u14, u15, u16, u17, u18, u19, u20, u21, u22, u23, u24, u25, c26, c27, c28, c29, u30, u31, u32, u33, u34, u35, u36, u37, u38, u39, u40, u41, u42, u43, u44, u45, u46, u47, u48, u49, u50, u51, u52, u53, u54, u55, u56, u57, u58, u59, u60, u61, u62, u63, u64, u65, u66, u67, u68, u69, u70, u71, u72, u73, u74, u75, u76, u77, u78, u79, u80, u81, u82, u83, u84, u85, u86, u87, u88, u89, u90, u91, u92, u93, u94, u95, u96, u97, u98, u99, u100, u101, u102, u103, u104, u105, u106, u107, u108, u109, u110, u111, u112, u113, u114, u115, u116, u117, u118, u119, u120, u121, u122, u123, u124, u125, u126, u127, u128, u129, u130, u131, u132, u133, u134, u135, u136, u137, u138, u139, u140, u141, u142, u143, u144, u145, u146, u147, u148, u149, u150, u151, u152, u153, u154, u155, u156, u157, u158, u159, u160, u161, u162, u163, u164, u165, u166, u167, u168, u169, u170, u171, u172, u173, u174, u175, u176, u177, u178, u179, u180, u181, u182, u183, u184, u185, u186, u187, u188, u189, u190, u191, u192, u193, u194, u195, u196, u197, u198, u199, u200, u201, u202, u203], []⟩ wr := by
  conv => arg 2; whnf
  have HT := hide ht
  have HA := hide ha
  have HV := hide hv
  have HI := hide hJ.rI2
  have hD := (hJ.new #[.int .i64 3, .int .i64 tg, .int .u64 a, .int .i64 sz, .int .u64 v] 30).b3
  obtain ⟨kx, hkx⟩ : ∃ k, wr.heap.size = k := ⟨_, rfl⟩
  rw [hkx] at hD
  have Hkx := hide hkx
  have H := hide hD
  clear hJ hD hkx ht ha hv
  go_upto_region 9 with fail
  rw [unhide Hkx]
  generalize wr.alloc (.cells #[.int .i64 3, .int .i64 tg, .int .u64 a, .int .i64 sz, .int .u64 v] 30) = w1 at H ⊢
  clear x0 x1 x2 x3 x4 hab Hkx
  obtain ⟨y0, y1, y2, y3, y4⟩ := cells5s (Heap.heap (Heap.f3 (unhide H)))
  have hxl := lt_of_heap' (Heap.heap (Heap.f3 (unhide H)))
  obtain ⟨mc, hmc⟩ : ∃ z, (dataN s.l tg).isSome = z := ⟨_, rfl⟩
  obtain ⟨s2, hs2⟩ : ∃ z, dataQ s tg v = z := ⟨_, rfl⟩
  have HMC := hide (And.intro hmc hs2)
  clear hmc hs2
  go_wp2_with fail
  refine (data_h (unhide H) tg v (unhide HV)).mono ?_
  rintro r_ w5 ⟨rfl, h5⟩
  rw [(unhide HMC).2] at h5
  rw [(unhide HMC).1]
  have H5 := hide h5.f2
  clear y0 y1 y2 y3 y4 hxl
  obtain ⟨y0, y1, y2, y3, y4⟩ := cells5s (Heap.heap (Heap.f3 (h5)))
  have hxl := lt_of_heap' (Heap.heap (Heap.f3 (h5)))
  clear h5
  go_wp2_with fail
  refine (data_r (unhide H5) tg v (unhide HV)).mono ?_
  rintro r_ w6 ⟨rfl, h6⟩
  rw [(unhide HMC).2] at h6
  rw [(unhide HMC).1]
  have H6 := hide h6.f2
  clear y0 y1 y2 y3 y4 hxl
  obtain ⟨y0, y1, y2, y3, y4⟩ := cells5s (Heap.heap (Heap.f3 (h6)))
  have hxl := lt_of_heap' (Heap.heap (Heap.f3 (h6)))
  clear h6
  go_wp2_with fail
  refine (count_h (unhide H6)).mono ?_
  rintro r_ w8 ⟨rfl, h8⟩
  have H8 := hide h8.f2
  clear h8 y0 y1 y2 y3 y4 hxl
  go_wp2_with fail
  refine (count_r (unhide H8)).mono ?_
  rintro r_ w9 ⟨rfl, h9⟩
  have HZ := hide (show Heap W w9 [HP.q bq (s2), HP.r br (s2)] from h9.f3.tail.f2)
  obtain ⟨ld, hld⟩ : ∃ z, nLd (s2).l = z := ⟨_, rfl⟩
  obtain ⟨sd, hsd⟩ : ∃ z, nSt (s2).l = z := ⟨_, rfl⟩
  rw [hld, hsd]
  have z1 : ((ld : Int) != (ld : Int)) = false := by simp
  have z2 : ((sd : Int) != (sd : Int)) = false := by simp
  clear h9 hld hsd
  cases mc with
  | false =>
    go_wp2
    have e5 : (k : Int) + 1 = ((k + 1 : Nat) : Int) := rfl
    try rw [e5]
    refine ⟨⟨k + 1, s2, ⟨by omega, unhide HZ⟩, ?_⟩, by simp [WmuD, intOf]; omega⟩
    unfold FRD
    refine ⟨_, _, _, _, _, _, _, _, _, _, _, _, _, _, _, _, _, _, _, _, _, _, _, _, _, _, _, _, _, _, _, _, _, _, _, _, _, _, _, _, _, _, _, _, _, _, _, _, _, _, _, _, _, _, _, _, _, _, _, _, _, _, _, _, _, _, _, _, _, _, _, _, _, _, _, _, _, _, _, _, _, _, _, _, _, _, _, _, _, _, _, _, _, _, _, _, _, _, _, _, _, _, _, _, _, _, _, _, _, _, _, _, _, _, _, _, _, _, _, _, _, _, _, _, _, _, _, _, _, _, _, _, _, _, _, _, _, _, _, _, _, _, _, _, _, _, _, _, _, _, _, _, _, _, _, _, _, _, _, _, _, _, _, _, _, _, _, _, _, _, _, _, _, _, _, _, _, _, _, _, _, _, _, _, _, _, _, _, _, _, _, _, _, _, _, rfl⟩
  | true =>
    go_wp2
    have e5 : (k : Int) + 1 = ((k + 1 : Nat) : Int) := rfl
    try rw [e5]
    refine ⟨⟨k + 1, s2, ⟨by omega, unhide HZ⟩, ?_⟩, by simp [WmuD, intOf]; omega⟩
    unfold FRD
    refine ⟨_, _, _, _, _, _, _, _, _, _, _, _, _, _, _, _, _, _, _, _, _, _, _, _, _, _, _, _, _, _, _, _, _, _, _, _, _, _, _, _, _, _, _, _, _, _, _, _, _, _, _, _, _, _, _, _, _, _, _, _, _, _, _, _, _, _, _, _, _, _, _, _, _, _, _, _, _, _, _, _, _, _, _, _, _, _, _, _, _, _, _, _, _, _, _, _, _, _, _, _, _, _, _, _, _, _, _, _, _, _, _, _, _, _, _, _, _, _, _, _, _, _, _, _, _, _, _, _, _, _, _, _, _, _, _, _, _, _, _, _, _, _, _, _, _, _, _, _, _, _, _, _, _, _, _, _, _, _, _, _, _, _, _, _, _, _, _, _, _, _, _, _, _, _, _, _, _, _, _, _, _, _, _, _, _, _, _, _, _, _, _, _, _, _, _, rfl⟩
set_option maxRecDepth 1000000 in
set_option maxHeartbeats 8000000 in
theorem caseDone {W wr : World} {ab ao n cap bq br k : Nat} {s : Qs} {tg a sz v : Int} (hn : n ≤ 4398046511104) (hab : ab < wr.heap.size)
    (x0 : wr.cell? ⟨ab, ao + k * 5, none⟩ = some (.int .i64 5)) (x1 : wr.cell? ⟨ab, ao + k * 5 + 1, none⟩ = some (.int .i64 tg)) (x2 : wr.cell? ⟨ab, ao + k * 5 + 2, none⟩ = some (.int .u64 a)) (x3 : wr.cell? ⟨ab, ao + k * 5 + 3, none⟩ = some (.int .i64 sz)) (x4 : wr.cell? ⟨ab, ao + k * 5 + 4, none⟩ = some (.int .u64 v))
    (ht : -9223372036854775808 ≤ tg ∧ tg < 9223372036854775808) (ha : 0 ≤ a ∧ a < 18446744073709551616) (hv : 0 ≤ v ∧ v < 18446744073709551616) (hJ : Heap W wr [HP.q bq s, HP.r br s]) (hlt : k < n)  (Q0 : Exit → Act → World → Prop) (c1 c26 c27 c28 c29 u2 u6 u7 u8 u9 u10 u11 u12 u13 u14 u15 u16 u17 u18 u19 u20 u21 u22 u23 u24 u25 u30 u31 u32 u33 u34 u35 u36 u37 u38 u39 u40 u41 u42 u43 u44 u45 u46 u47 u48 u49 u50 u51 u52 u53 u54 u55 u56 u57 u58 u59 u60 u61 u62 u63 u64 u65 u66 u67 u68 u69 u70 u71 u72 u73 u74 u75 u76 u77 u78 u79 u80 u81 u82 u83 u84 u85 u86 u87 u88 u89 u90 u91 u92 u93 u94 u95 u96 u97 u98 u99 u100 u101 u102 u103 u104 u105 u106 u107 u108 u109 u110 u111 u112 u113 u114 u115 u116 u117 u118 u119 u120 u121 u122 u123 u124 u125 u126 u127 u128 u129 u130 u131 u132 u133 u134 u135 u136 u137 u138 u139 u140 u141 u142 u143 u144 u145 u146 u147 u148 u149 u150 u151 u152 u153 u154 u155 u156 u157 u158 u159 u160 u161 u162 u163 u164 u165 u166 u167 u168 u169 u170 u171 u172 u173 u174 u175 u176 u177 u178 u179 u180 u181 u182 u183 u184 u185 u186 u187 u188 u189 u190 u191 u192 u193 u194 u195 u196 u197 u198 u199 u200 u201 u202 u203 : Value) :
    Code.wp Try.prog bodyD (Exit.then (fun a' w'' => WIDo c1 c26 c27 c28 c29 W (some ⟨ab, ao, none⟩) n cap bq br a' w'' ∧ WmuD n a' w'' < n - k) Q0) ⟨#[.slice (some ⟨ab, ao, none⟩) n cap, c1, u2, .pointer (some ⟨bq, 0, none⟩), .pointer (some ⟨br, 0, none⟩), .int .i64 (k : Int), u6, u7, u8, u9, u10, u11, u12, u13, u14, u15, u16, u17, u18, u19, u20, u21, u22, u23, u24, u25, c26, c27, c28, c29, u30, u31, u32, u33, u34, u35, u36, u37, u38, u39, u40, u41, u42, u43, u44, u45, u46, u47, u48, u49, u50, u51, u52, u53, u54, u55, u56, u57, u58, u59, u60, u61, u62, u63, u64, u65, u66, u67, u68, u69, u70, u71, u72, u73, u74, u75, u76, u77, u78, u79, u80, u81, u82, u83, u84, u85, u86, u87, u88, u89, u90, u91, u92, u93, u94, u95, u96, u97, u98, u99, u100, u101, u102, u103, u104, u105, u106, u107, u108, u109, u110, u111, u112, u113, u114, u115, u116, u117, u118, u119, u120, u121, u122, u123, u124, u125, u126, u127, u128, u129, u130, u131, u132, u133, u134, u135, u136, u137, u138, u139, u140, u141, u142, u143, u144, u145, u146, u147, u148, u149, u150, u151, u152, u153, u154, u155, u156, u157, u158, u159, u160, u161, u162, u163, u164, u165, u166, u167, u168, u169, u170, u171, u172, u173, u174, u175, u176, u177, u178, u179, u180, u181, u182, u183, u184, u185, u186, u187, u188, u189, u190, u191, u192, u193, u194, u195, u196, u197, u198, u199, u200, u201, u202, u203], []⟩ wr := by
  conv => arg 2; whnf
  have HT := hide ht
  have HA := hide ha
  have HV := hide hv
  have HI := hide hJ.rI2
  have hD := (hJ.new #[.int .i64 5, .int .i64 tg, .int .u64 a, .int .i64 sz, .int .u64 v] 30).b3
  obtain ⟨kx, hkx⟩ : ∃ k, wr.heap.size = k := ⟨_, rfl⟩
  rw [hkx] at hD
  have Hkx := hide hkx
  have H := hide hD
  clear hJ hD hkx ht ha hv
  go_upto_region 9 with fail
  rw [unhide Hkx]
  generalize wr.alloc (.cells #[.int .i64 5, .int .i64 tg, .int .u64 a, .int .i64 sz, .int .u64 v] 30) = w1 at H ⊢
  clear x0 x1 x2 x3 x4 hab Hkx
  obtain ⟨y0, y1, y2, y3, y4⟩ := cells5s (Heap.heap (Heap.f3 (unhide H)))
  have hxl := lt_of_heap' (Heap.heap (Heap.f3 (unhide H)))
  obtain ⟨mc, hmc⟩ : ∃ z, (doneQ s tg).1 = z := ⟨_, rfl⟩
  obtain ⟨s2, hs2⟩ : ∃ z, (doneQ s tg).2 = z := ⟨_, rfl⟩
  have HMC := hide (And.intro hmc hs2)
  clear hmc hs2
  go_wp2_with fail
  refine (done_h (unhide H) tg).mono ?_
  rintro r_ w5 ⟨rfl, h5⟩
  rw [(unhide HMC).2] at h5
  rw [(unhide HMC).1]
  have H5 := hide h5.f2
  clear y0 y1 y2 y3 y4 hxl
  obtain ⟨y0, y1, y2, y3, y4⟩ := cells5s (Heap.heap (Heap.f3 (h5)))
  have hxl := lt_of_heap' (Heap.heap (Heap.f3 (h5)))
  clear h5
  go_wp2_with fail
  refine (done_r (unhide H5) tg).mono ?_
  rintro r_ w6 ⟨rfl, h6⟩
  rw [(unhide HMC).2] at h6
  rw [(unhide HMC).1]
  have H6 := hide h6.f2
  clear y0 y1 y2 y3 y4 hxl
  obtain ⟨y0, y1, y2, y3, y4⟩ := cells5s (Heap.heap (Heap.f3 (h6)))
  have hxl := lt_of_heap' (Heap.heap (Heap.f3 (h6)))
  clear h6
  go_wp2_with fail
  refine (count_h (unhide H6)).mono ?_
  rintro r_ w8 ⟨rfl, h8⟩
  have H8 := hide h8.f2
  clear h8 y0 y1 y2 y3 y4 hxl
  go_wp2_with fail
  refine (count_r (unhide H8)).mono ?_
  rintro r_ w9 ⟨rfl, h9⟩
  have HZ := hide (show Heap W w9 [HP.q bq (s2), HP.r br (s2)] from h9.f3.tail.f2)
  obtain ⟨ld, hld⟩ : ∃ z, nLd (s2).l = z := ⟨_, rfl⟩
  obtain ⟨sd, hsd⟩ : ∃ z, nSt (s2).l = z := ⟨_, rfl⟩
  rw [hld, hsd]
  have z1 : ((ld : Int) != (ld : Int)) = false := by simp
  have z2 : ((sd : Int) != (sd : Int)) = false := by simp
  clear h9 hld hsd
  cases mc with
  | false =>
    go_wp2
    have e5 : (k : Int) + 1 = ((k + 1 : Nat) : Int) := rfl
    try rw [e5]
    refine ⟨⟨k + 1, s2, ⟨by omega, unhide HZ⟩, ?_⟩, by simp [WmuD, intOf]; omega⟩
    unfold FRD
    refine ⟨_, _, _, _, _, _, _, _, _, _, _, _, _, _, _, _, _, _, _, _, _, _, _, _, _, _, _, _, _, _, _, _, _, _, _, _, _, _, _, _, _, _, _, _, _, _, _, _, _, _, _, _, _, _, _, _, _, _, _, _, _, _, _, _, _, _, _, _, _, _, _, _, _, _, _, _, _, _, _, _, _, _, _, _, _, _, _, _, _, _, _, _, _, _, _, _, _, _, _, _, _, _, _, _, _, _, _, _, _, _, _, _, _, _, _, _, _, _, _, _, _, _, _, _, _, _, _, _, _, _, _, _, _, _, _, _, _, _, _, _, _, _, _, _, _, _, _, _, _, _, _, _, _, _, _, _, _, _, _, _, _, _, _, _, _, _, _, _, _, _, _, _, _, _, _, _, _, _, _, _, _, _, _, _, _, _, _, _, _, _, _, _, _, _, _, rfl⟩
  | true =>
    go_wp2
    have e5 : (k : Int) + 1 = ((k + 1 : Nat) : Int) := rfl
    try rw [e5]
    refine ⟨⟨k + 1, s2, ⟨by omega, unhide HZ⟩, ?_⟩, by simp [WmuD, intOf]; omega⟩
    unfold FRD
    refine ⟨_, _, _, _, _, _, _, _, _, _, _, _, _, _, _, _, _, _, _, _, _, _, _, _, _, _, _, _, _, _, _, _, _, _, _, _, _, _, _, _, _, _, _, _, _, _, _, _, _, _, _, _, _, _, _, _, _, _, _, _, _, _, _, _, _, _, _, _, _, _, _, _, _, _, _, _, _, _, _, _, _, _, _, _, _, _, _, _, _, _, _, _, _, _, _, _, _, _, _, _, _, _, _, _, _, _, _, _, _, _, _, _, _, _, _, _, _, _, _, _, _, _, _, _, _, _, _, _, _, _, _, _, _, _, _, _, _, _, _, _, _, _, _, _, _, _, _, _, _, _, _, _, _, _, _, _, _, _, _, _, _, _, _, _, _, _, _, _, _, _, _, _, _, _, _, _, _, _, _, _, _, _, _, _, _, _, _, _, _, _, _, _, _, _, _, rfl⟩
end Go.Proofs.Ytdmkgomcomcfhaa
