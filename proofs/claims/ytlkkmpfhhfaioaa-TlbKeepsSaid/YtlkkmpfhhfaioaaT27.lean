/- Layer 15: what is found was put: a refused put; neither put nor fence. -/
import Derived.Test.YtlkkmpfhhfaioaaT26
namespace Go.Proofs.Ytlkkmpfhhfaioaa
open Go.RowKit
set_option maxRecDepth 1000000 in
set_option maxHeartbeats 8000000 in
theorem badK {w wr : World} {ab ao n cap b k : Nat} {seed sd : Int} {S : Slots} {P : List E} {A6 : Option Addr} {cap6 : Nat} (hn : n ≤ 2932031007402) {at_ lv sp : Int} {gl : Bool} {lf : Int} (hab : ab < wr.heap.size)
    (x0 : wr.cell? ⟨ab, ao + k * 6, none⟩ = some (.int .i64 0)) (x1 : wr.cell? ⟨ab, ao + k * 6 + 1, none⟩ = some (.int .u64 at_)) (x2 : wr.cell? ⟨ab, ao + k * 6 + 2, none⟩ = some (.int .i64 lv)) (x3 : wr.cell? ⟨ab, ao + k * 6 + 3, none⟩ = some (.int .u64 sp))
    (x4 : wr.cell? ⟨ab, ao + k * 6 + 4, none⟩ = some (.bool gl)) (x5 : wr.cell? ⟨ab, ao + k * 6 + 5, none⟩ = some (.int .u64 lf)) (hwf : (⟨at_, lv, sp, gl, lf⟩ : E).wf) (hR : RelK w n b k sd S P A6 cap6 wr) (hlt : k < n) (hb : bad (⟨at_, lv, sp, gl, lf⟩ : E) = true) (Q0 : Exit → Act → World → Prop) (c2 c3 c27 c28 c29 c30 c31 u4 u8 u9 u10 u11 u12 u13 u14 u15 u16 u17 u18 u19 u20 u21 u22 u23 u24 u25 u26 u32 u33 u34 u35 u36 u37 u38 u39 u40 u41 u42 u43 u44 u45 u46 u47 u48 u49 u50 u51 u52 u53 u54 u55 u56 u57 u58 u59 u60 u61 u62 u63 u64 u65 u66 u67 u68 u69 u70 u71 u72 u73 u74 u75 u76 u77 u78 u79 u80 u81 u82 u83 u84 u85 u86 u87 u88 u89 u90 u91 u92 u93 u94 u95 u96 u97 u98 u99 u100 u101 u102 u103 u104 u105 u106 u107 u108 u109 u110 u111 u112 u113 u114 u115 u116 u117 u118 u119 u120 u121 u122 u123 u124 u125 u126 u127 u128 u129 u130 u131 u132 u133 u134 u135 u136 u137 u138 u139 u140 u141 u142 u143 u144 u145 u146 u147 u148 u149 u150 u151 u152 u153 u154 u155 u156 u157 u158 u159 u160 u161 u162 u163 u164 u165 u166 u167 u168 u169 u170 u171 u172 u173 u174 u175 u176 u177 u178 u179 u180 u181 u182 u183 u184 u185 u186 u187 u188 u189 u190 u191 u192 u193 u194 u195 u196 u197 u198 u199 u200 u201 u202 u203 u204 u205 u206 u207 u208 u209 u210 u211 u212 u213 u214 u215 u216 u217 u218 u219 u220 u221 u222 u223 u224 u225 u226 u227 u228 u229 u230 u231 u232 u233 u234 u235 u236 u237 u238 u239 u240 u241 u242 u243 u244 u245 u246 u247 u248 u249 u250 u251 u252 u253 u254 u255 u256 u257 u258 u259 u260 u261 : Value) :
    Code.wp Try.prog bodyK (Exit.then (fun a' w'' => WIK c2 c3 c27 c28 c29 c30 c31 w (some ⟨ab, ao, none⟩) n cap b seed a' w'' ∧ WmuK n a' w'' < n - k) Q0) ⟨#[.int .u64 seed, .slice (some ⟨ab, ao, none⟩) n cap, c2, c3, u4, .pointer (some ⟨b, 0, none⟩), .slice A6 P.length cap6, .int .i64 (k : Int), u8, u9, u10, u11, u12, u13, u14, u15, u16, u17, u18, u19, u20, u21, u22, u23, u24, u25, u26, c27, c28, c29, c30, c31, u32, u33, u34, u35, u36, u37, u38, u39, u40, u41, u42, u43, u44, u45, u46, u47, u48, u49, u50, u51, u52, u53, u54, u55, u56, u57, u58, u59, u60, u61, u62, u63, u64, u65, u66, u67, u68, u69, u70, u71, u72, u73, u74, u75, u76, u77, u78, u79, u80, u81, u82, u83, u84, u85, u86, u87, u88, u89, u90, u91, u92, u93, u94, u95, u96, u97, u98, u99, u100, u101, u102, u103, u104, u105, u106, u107, u108, u109, u110, u111, u112, u113, u114, u115, u116, u117, u118, u119, u120, u121, u122, u123, u124, u125, u126, u127, u128, u129, u130, u131, u132, u133, u134, u135, u136, u137, u138, u139, u140, u141, u142, u143, u144, u145, u146, u147, u148, u149, u150, u151, u152, u153, u154, u155, u156, u157, u158, u159, u160, u161, u162, u163, u164, u165, u166, u167, u168, u169, u170, u171, u172, u173, u174, u175, u176, u177, u178, u179, u180, u181, u182, u183, u184, u185, u186, u187, u188, u189, u190, u191, u192, u193, u194, u195, u196, u197, u198, u199, u200, u201, u202, u203, u204, u205, u206, u207, u208, u209, u210, u211, u212, u213, u214, u215, u216, u217, u218, u219, u220, u221, u222, u223, u224, u225, u226, u227, u228, u229, u230, u231, u232, u233, u234, u235, u236, u237, u238, u239, u240, u241, u242, u243, u244, u245, u246, u247, u248, u249, u250, u251, u252, u253, u254, u255, u256, u257, u258, u259, u260, u261], []⟩ wr := by
  conv => arg 2; whnf
  obtain ⟨hk, hPk, hKI, hJ⟩ := hR
  have HKI := hide hKI
  have J1 := (hJ.new #[.int .i64 0, .int .u64 at_, .int .i64 lv, .int .u64 sp, .bool gl, .int .u64 lf] 30).b3
  obtain ⟨xb, hxb⟩ : ∃ xb, wr.heap.size = xb := ⟨_, rfl⟩
  rw [hxb] at J1
  have Hxb := hide hxb
  have c6 := cells6 J1.f3.heap
  have hxl := lt_of_heap' J1.f3.heap
  clear hJ hKI hxb
  go_wp2_with fail
  first | rw [unhide Hxb] | skip
  refine (entry_any 0 at_ lv sp gl lf _).mono ?_
  rintro r _ ⟨rfl, hg⟩
  have J2 := (J1.grown hg).new #[.int .u64 at_, .int .i64 lv, .int .u64 sp, .bool gl, .int .u64 lf] 36
  clear hg c6
  have c6 := cells6 J2.f4.heap
  have hxl := lt_of_heap' J2.f4.heap
  go_wp2_with fail
  refine (entry_any 0 at_ lv sp gl lf _).mono ?_
  rintro r _ ⟨rfl, hg⟩
  have J2 := J2.tail.grown hg
  clear hg
  go_wp2_with fail
  refine (put_no (e := (⟨at_, lv, sp, gl, lf⟩ : E)) J2.f2 hwf hb).mono ?_
  rintro r w5 ⟨rfl, h5⟩
  have h5 := h5.f2.two
  clear J1 J2 c6
  go_wp2
  have e7 : (k : Int) + 1 = ((k + 1 : Nat) : Int) := rfl
  try rw [e7]
  refine ⟨⟨k + 1, _, S, P, A6, cap6, ⟨by omega, by omega, unhide HKI, h5⟩, ?_⟩, by simp [WmuK, intOf]; omega⟩
  unfold FRK
  refine ⟨_, _, _, _, _, _, _, _, _, _, _, _, _, _, _, _, _, _, _, _, _, _, _, _, _, _, _, _, _, _, _, _, _, _, _, _, _, _, _, _, _, _, _, _, _, _, _, _, _, _, _, _, _, _, _, _, _, _, _, _, _, _, _, _, _, _, _, _, _, _, _, _, _, _, _, _, _, _, _, _, _, _, _, _, _, _, _, _, _, _, _, _, _, _, _, _, _, _, _, _, _, _, _, _, _, _, _, _, _, _, _, _, _, _, _, _, _, _, _, _, _, _, _, _, _, _, _, _, _, _, _, _, _, _, _, _, _, _, _, _, _, _, _, _, _, _, _, _, _, _, _, _, _, _, _, _, _, _, _, _, _, _, _, _, _, _, _, _, _, _, _, _, _, _, _, _, _, _, _, _, _, _, _, _, _, _, _, _, _, _, _, _, _, _, _, _, _, _, _, _, _, _, _, _, _, _, _, _, _, _, _, _, _, _, _, _, _, _, _, _, _, _, _, _, _, _, _, _, _, _, _, _, _, _, _, _, _, _, _, _, _, _, _, _, _, _, _, _, _, _, rfl⟩

end Go.Proofs.Ytlkkmpfhhfaioaa
