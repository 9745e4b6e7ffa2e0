/- Layer 23: LsqDoes: the walk. -/
import Derived.Test.YtdmkgomcomcfhaaR13
import Derived.Test.YtdmkgomcomcfhaaR14
namespace Go.Proofs.Ytdmkgomcomcfhaa
open Go.RowKit

set_option maxRecDepth 1000000 in
set_option maxHeartbeats 8000000 in
theorem roundD {W : World} {A : Option Addr} {n cap bq br : Nat} (hS : SlArg [some .i64, some .i64, some .u64, some .i64, some .u64] W A n) (hn : n ≤ 4398046511104) (Q0 : Exit → Act → World → Prop) (c1 c26 c27 c28 c29 : Value) (hexit : ∀ a' w'', WXDo c1 c26 c27 c28 c29 W A n cap bq br a' w'' → Q0 (.exit 0) a' w'') {a : Act} {wr : World} (hI : WIDo c1 c26 c27 c28 c29 W A n cap bq br a wr) :
    Code.wp Try.prog bodyD (Exit.then (fun a' w'' => WIDo c1 c26 c27 c28 c29 W A n cap bq br a' w'' ∧ WmuD n a' w'' < WmuD n a wr) Q0) a wr := by
  obtain ⟨k, s, ⟨hk, hJ⟩, hF⟩ := hI
  unfold FRD at hF
  obtain ⟨u2, hF⟩ := hF
  obtain ⟨u6, hF⟩ := hF
  obtain ⟨u7, hF⟩ := hF
  obtain ⟨u8, hF⟩ := hF
  obtain ⟨u9, hF⟩ := hF
  obtain ⟨u10, hF⟩ := hF
  obtain ⟨u11, hF⟩ := hF
  obtain ⟨u12, hF⟩ := hF
  obtain ⟨u13, hF⟩ := hF
  obtain ⟨u14, hF⟩ := hF
  obtain ⟨u15, hF⟩ := hF
  obtain ⟨u16, hF⟩ := hF
  obtain ⟨u17, hF⟩ := hF
  obtain ⟨u18, hF⟩ := hF
  obtain ⟨u19, hF⟩ := hF
  obtain ⟨u20, hF⟩ := hF
  obtain ⟨u21, hF⟩ := hF
  obtain ⟨u22, hF⟩ := hF
  obtain ⟨u23, hF⟩ := hF
  obtain ⟨u24, hF⟩ := hF
  obtain ⟨u25, hF⟩ := hF
  obtain ⟨u30, hF⟩ := hF
  obtain ⟨u31, hF⟩ := hF
  obtain ⟨u32, hF⟩ := hF
  obtain ⟨u33, hF⟩ := hF
  obtain ⟨u34, hF⟩ := hF
  obtain ⟨u35, hF⟩ := hF
  obtain ⟨u36, hF⟩ := hF
  obtain ⟨u37, hF⟩ := hF
  obtain ⟨u38, hF⟩ := hF
  obtain ⟨u39, hF⟩ := hF
  obtain ⟨u40, hF⟩ := hF
  obtain ⟨u41, hF⟩ := hF
  obtain ⟨u42, hF⟩ := hF
  obtain ⟨u43, hF⟩ := hF
  obtain ⟨u44, hF⟩ := hF
  obtain ⟨u45, hF⟩ := hF
  obtain ⟨u46, hF⟩ := hF
  obtain ⟨u47, hF⟩ := hF
  obtain ⟨u48, hF⟩ := hF
  obtain ⟨u49, hF⟩ := hF
  obtain ⟨u50, hF⟩ := hF
  obtain ⟨u51, hF⟩ := hF
  obtain ⟨u52, hF⟩ := hF
  obtain ⟨u53, hF⟩ := hF
  obtain ⟨u54, hF⟩ := hF
  obtain ⟨u55, hF⟩ := hF
  obtain ⟨u56, hF⟩ := hF
  obtain ⟨u57, hF⟩ := hF
  obtain ⟨u58, hF⟩ := hF
  obtain ⟨u59, hF⟩ := hF
  obtain ⟨u60, hF⟩ := hF
  obtain ⟨u61, hF⟩ := hF
  obtain ⟨u62, hF⟩ := hF
  obtain ⟨u63, hF⟩ := hF
  obtain ⟨u64, hF⟩ := hF
  obtain ⟨u65, hF⟩ := hF
  obtain ⟨u66, hF⟩ := hF
  obtain ⟨u67, hF⟩ := hF
  obtain ⟨u68, hF⟩ := hF
  obtain ⟨u69, hF⟩ := hF
  obtain ⟨u70, hF⟩ := hF
  obtain ⟨u71, hF⟩ := hF
  obtain ⟨u72, hF⟩ := hF
  obtain ⟨u73, hF⟩ := hF
  obtain ⟨u74, hF⟩ := hF
  obtain ⟨u75, hF⟩ := hF
  obtain ⟨u76, hF⟩ := hF
  obtain ⟨u77, hF⟩ := hF
  obtain ⟨u78, hF⟩ := hF
  obtain ⟨u79, hF⟩ := hF
  obtain ⟨u80, hF⟩ := hF
  obtain ⟨u81, hF⟩ := hF
  obtain ⟨u82, hF⟩ := hF
  obtain ⟨u83, hF⟩ := hF
  obtain ⟨u84, hF⟩ := hF
  obtain ⟨u85, hF⟩ := hF
  obtain ⟨u86, hF⟩ := hF
  obtain ⟨u87, hF⟩ := hF
  obtain ⟨u88, hF⟩ := hF
  obtain ⟨u89, hF⟩ := hF
  obtain ⟨u90, hF⟩ := hF
  obtain ⟨u91, hF⟩ := hF
  obtain ⟨u92, hF⟩ := hF
  obtain ⟨u93, hF⟩ := hF
  obtain ⟨u94, hF⟩ := hF
  obtain ⟨u95, hF⟩ := hF
  obtain ⟨u96, hF⟩ := hF
  obtain ⟨u97, hF⟩ := hF
  obtain ⟨u98, hF⟩ := hF
  obtain ⟨u99, hF⟩ := hF
  obtain ⟨u100, hF⟩ := hF
  obtain ⟨u101, hF⟩ := hF
  obtain ⟨u102, hF⟩ := hF
  obtain ⟨u103, hF⟩ := hF
  obtain ⟨u104, hF⟩ := hF
  obtain ⟨u105, hF⟩ := hF
  obtain ⟨u106, hF⟩ := hF
  obtain ⟨u107, hF⟩ := hF
  obtain ⟨u108, hF⟩ := hF
  obtain ⟨u109, hF⟩ := hF
  obtain ⟨u110, hF⟩ := hF
  obtain ⟨u111, hF⟩ := hF
  obtain ⟨u112, hF⟩ := hF
  obtain ⟨u113, hF⟩ := hF
  obtain ⟨u114, hF⟩ := hF
  obtain ⟨u115, hF⟩ := hF
  obtain ⟨u116, hF⟩ := hF
  obtain ⟨u117, hF⟩ := hF
  obtain ⟨u118, hF⟩ := hF
  obtain ⟨u119, hF⟩ := hF
  obtain ⟨u120, hF⟩ := hF
  obtain ⟨u121, hF⟩ := hF
  obtain ⟨u122, hF⟩ := hF
  obtain ⟨u123, hF⟩ := hF
  obtain ⟨u124, hF⟩ := hF
  obtain ⟨u125, hF⟩ := hF
  obtain ⟨u126, hF⟩ := hF
  obtain ⟨u127, hF⟩ := hF
  obtain ⟨u128, hF⟩ := hF
  obtain ⟨u129, hF⟩ := hF
  obtain ⟨u130, hF⟩ := hF
  obtain ⟨u131, hF⟩ := hF
  obtain ⟨u132, hF⟩ := hF
  obtain ⟨u133, hF⟩ := hF
  obtain ⟨u134, hF⟩ := hF
  obtain ⟨u135, hF⟩ := hF
  obtain ⟨u136, hF⟩ := hF
  obtain ⟨u137, hF⟩ := hF
  obtain ⟨u138, hF⟩ := hF
  obtain ⟨u139, hF⟩ := hF
  obtain ⟨u140, hF⟩ := hF
  obtain ⟨u141, hF⟩ := hF
  obtain ⟨u142, hF⟩ := hF
  obtain ⟨u143, hF⟩ := hF
  obtain ⟨u144, hF⟩ := hF
  obtain ⟨u145, hF⟩ := hF
  obtain ⟨u146, hF⟩ := hF
  obtain ⟨u147, hF⟩ := hF
  obtain ⟨u148, hF⟩ := hF
  obtain ⟨u149, hF⟩ := hF
  obtain ⟨u150, hF⟩ := hF
  obtain ⟨u151, hF⟩ := hF
  obtain ⟨u152, hF⟩ := hF
  obtain ⟨u153, hF⟩ := hF
  obtain ⟨u154, hF⟩ := hF
  obtain ⟨u155, hF⟩ := hF
  obtain ⟨u156, hF⟩ := hF
  obtain ⟨u157, hF⟩ := hF
  obtain ⟨u158, hF⟩ := hF
  obtain ⟨u159, hF⟩ := hF
  obtain ⟨u160, hF⟩ := hF
  obtain ⟨u161, hF⟩ := hF
  obtain ⟨u162, hF⟩ := hF
  obtain ⟨u163, hF⟩ := hF
  obtain ⟨u164, hF⟩ := hF
  obtain ⟨u165, hF⟩ := hF
  obtain ⟨u166, hF⟩ := hF
  obtain ⟨u167, hF⟩ := hF
  obtain ⟨u168, hF⟩ := hF
  obtain ⟨u169, hF⟩ := hF
  obtain ⟨u170, hF⟩ := hF
  obtain ⟨u171, hF⟩ := hF
  obtain ⟨u172, hF⟩ := hF
  obtain ⟨u173, hF⟩ := hF
  obtain ⟨u174, hF⟩ := hF
  obtain ⟨u175, hF⟩ := hF
  obtain ⟨u176, hF⟩ := hF
  obtain ⟨u177, hF⟩ := hF
  obtain ⟨u178, hF⟩ := hF
  obtain ⟨u179, hF⟩ := hF
  obtain ⟨u180, hF⟩ := hF
  obtain ⟨u181, hF⟩ := hF
  obtain ⟨u182, hF⟩ := hF
  obtain ⟨u183, hF⟩ := hF
  obtain ⟨u184, hF⟩ := hF
  obtain ⟨u185, hF⟩ := hF
  obtain ⟨u186, hF⟩ := hF
  obtain ⟨u187, hF⟩ := hF
  obtain ⟨u188, hF⟩ := hF
  obtain ⟨u189, hF⟩ := hF
  obtain ⟨u190, hF⟩ := hF
  obtain ⟨u191, hF⟩ := hF
  obtain ⟨u192, hF⟩ := hF
  obtain ⟨u193, hF⟩ := hF
  obtain ⟨u194, hF⟩ := hF
  obtain ⟨u195, hF⟩ := hF
  obtain ⟨u196, hF⟩ := hF
  obtain ⟨u197, hF⟩ := hF
  obtain ⟨u198, hF⟩ := hF
  obtain ⟨u199, hF⟩ := hF
  obtain ⟨u200, hF⟩ := hF
  obtain ⟨u201, hF⟩ := hF
  obtain ⟨u202, hF⟩ := hF
  obtain ⟨u203, hF⟩ := hF
  subst hF
  by_cases hlt : k < n
  · obtain ⟨ab, ao, rfl, kd, tg, a, sz, v, ⟨x0, x1, x2, x3, x4⟩, hb, hab⟩ := step_d hS hJ.below hlt
    by_cases q0 : kd = 0
    · subst q0
      exact caseLoad hn hab x0 x1 x2 x3 x4 hb.1 hb.2.1 hb.2.2 hJ hlt  Q0 _ _ _ _ _ _ _ _ _ _ _ _ _ _ _ _ _ _ _ _ _ _ _ _ _ _ _ _ _ _ _ _ _ _ _ _ _ _ _ _ _ _ _ _ _ _ _ _ _ _ _ _ _ _ _ _ _ _ _ _ _ _ _ _ _ _ _ _ _ _ _ _ _ _ _ _ _ _ _ _ _ _ _ _ _ _ _ _ _ _ _ _ _ _ _ _ _ _ _ _ _ _ _ _ _ _ _ _ _ _ _ _ _ _ _ _ _ _ _ _ _ _ _ _ _ _ _ _ _ _ _ _ _ _ _ _ _ _ _ _ _ _ _ _ _ _ _ _ _ _ _ _ _ _ _ _ _ _ _ _ _ _ _ _ _ _ _ _ _ _ _ _ _ _ _ _ _ _ _ _ _ _ _ _ _ _ _ _ _ _ _ _ _ _ _ _ _ _ _ _
    · skip
      by_cases q1 : kd = 1
      · subst q1
        exact caseStore hn hab x0 x1 x2 x3 x4 hb.1 hb.2.1 hb.2.2 hJ hlt  Q0 _ _ _ _ _ _ _ _ _ _ _ _ _ _ _ _ _ _ _ _ _ _ _ _ _ _ _ _ _ _ _ _ _ _ _ _ _ _ _ _ _ _ _ _ _ _ _ _ _ _ _ _ _ _ _ _ _ _ _ _ _ _ _ _ _ _ _ _ _ _ _ _ _ _ _ _ _ _ _ _ _ _ _ _ _ _ _ _ _ _ _ _ _ _ _ _ _ _ _ _ _ _ _ _ _ _ _ _ _ _ _ _ _ _ _ _ _ _ _ _ _ _ _ _ _ _ _ _ _ _ _ _ _ _ _ _ _ _ _ _ _ _ _ _ _ _ _ _ _ _ _ _ _ _ _ _ _ _ _ _ _ _ _ _ _ _ _ _ _ _ _ _ _ _ _ _ _ _ _ _ _ _ _ _ _ _ _ _ _ _ _ _ _ _ _ _ _ _ _ _
      · skip
        by_cases q2 : kd = 2
        · subst q2
          exact caseWhere hn hab x0 x1 x2 x3 x4 hb.1 hb.2.1 hb.2.2 hJ hlt  Q0 _ _ _ _ _ _ _ _ _ _ _ _ _ _ _ _ _ _ _ _ _ _ _ _ _ _ _ _ _ _ _ _ _ _ _ _ _ _ _ _ _ _ _ _ _ _ _ _ _ _ _ _ _ _ _ _ _ _ _ _ _ _ _ _ _ _ _ _ _ _ _ _ _ _ _ _ _ _ _ _ _ _ _ _ _ _ _ _ _ _ _ _ _ _ _ _ _ _ _ _ _ _ _ _ _ _ _ _ _ _ _ _ _ _ _ _ _ _ _ _ _ _ _ _ _ _ _ _ _ _ _ _ _ _ _ _ _ _ _ _ _ _ _ _ _ _ _ _ _ _ _ _ _ _ _ _ _ _ _ _ _ _ _ _ _ _ _ _ _ _ _ _ _ _ _ _ _ _ _ _ _ _ _ _ _ _ _ _ _ _ _ _ _ _ _ _ _ _ _ _
        · skip
          by_cases q3 : kd = 3
          · subst q3
            exact caseData hn hab x0 x1 x2 x3 x4 hb.1 hb.2.1 hb.2.2 hJ hlt  Q0 _ _ _ _ _ _ _ _ _ _ _ _ _ _ _ _ _ _ _ _ _ _ _ _ _ _ _ _ _ _ _ _ _ _ _ _ _ _ _ _ _ _ _ _ _ _ _ _ _ _ _ _ _ _ _ _ _ _ _ _ _ _ _ _ _ _ _ _ _ _ _ _ _ _ _ _ _ _ _ _ _ _ _ _ _ _ _ _ _ _ _ _ _ _ _ _ _ _ _ _ _ _ _ _ _ _ _ _ _ _ _ _ _ _ _ _ _ _ _ _ _ _ _ _ _ _ _ _ _ _ _ _ _ _ _ _ _ _ _ _ _ _ _ _ _ _ _ _ _ _ _ _ _ _ _ _ _ _ _ _ _ _ _ _ _ _ _ _ _ _ _ _ _ _ _ _ _ _ _ _ _ _ _ _ _ _ _ _ _ _ _ _ _ _ _ _ _ _ _ _
          · skip
            by_cases q4 : kd = 4
            · subst q4
              exact caseLook hn hab x0 x1 x2 x3 x4 hb.1 hb.2.1 hb.2.2 hJ hlt  Q0 _ _ _ _ _ _ _ _ _ _ _ _ _ _ _ _ _ _ _ _ _ _ _ _ _ _ _ _ _ _ _ _ _ _ _ _ _ _ _ _ _ _ _ _ _ _ _ _ _ _ _ _ _ _ _ _ _ _ _ _ _ _ _ _ _ _ _ _ _ _ _ _ _ _ _ _ _ _ _ _ _ _ _ _ _ _ _ _ _ _ _ _ _ _ _ _ _ _ _ _ _ _ _ _ _ _ _ _ _ _ _ _ _ _ _ _ _ _ _ _ _ _ _ _ _ _ _ _ _ _ _ _ _ _ _ _ _ _ _ _ _ _ _ _ _ _ _ _ _ _ _ _ _ _ _ _ _ _ _ _ _ _ _ _ _ _ _ _ _ _ _ _ _ _ _ _ _ _ _ _ _ _ _ _ _ _ _ _ _ _ _ _ _ _ _ _ _ _ _ _
            · skip
              by_cases q5 : kd = 5
              · subst q5
                exact caseDone hn hab x0 x1 x2 x3 x4 hb.1 hb.2.1 hb.2.2 hJ hlt  Q0 _ _ _ _ _ _ _ _ _ _ _ _ _ _ _ _ _ _ _ _ _ _ _ _ _ _ _ _ _ _ _ _ _ _ _ _ _ _ _ _ _ _ _ _ _ _ _ _ _ _ _ _ _ _ _ _ _ _ _ _ _ _ _ _ _ _ _ _ _ _ _ _ _ _ _ _ _ _ _ _ _ _ _ _ _ _ _ _ _ _ _ _ _ _ _ _ _ _ _ _ _ _ _ _ _ _ _ _ _ _ _ _ _ _ _ _ _ _ _ _ _ _ _ _ _ _ _ _ _ _ _ _ _ _ _ _ _ _ _ _ _ _ _ _ _ _ _ _ _ _ _ _ _ _ _ _ _ _ _ _ _ _ _ _ _ _ _ _ _ _ _ _ _ _ _ _ _ _ _ _ _ _ _ _ _ _ _ _ _ _ _ _ _ _ _ _ _ _ _ _
              · skip
                by_cases q6 : kd = 6
                · subst q6
                  exact casePop hn hab x0 x1 x2 x3 x4 hb.1 hb.2.1 hb.2.2 hJ hlt  Q0 _ _ _ _ _ _ _ _ _ _ _ _ _ _ _ _ _ _ _ _ _ _ _ _ _ _ _ _ _ _ _ _ _ _ _ _ _ _ _ _ _ _ _ _ _ _ _ _ _ _ _ _ _ _ _ _ _ _ _ _ _ _ _ _ _ _ _ _ _ _ _ _ _ _ _ _ _ _ _ _ _ _ _ _ _ _ _ _ _ _ _ _ _ _ _ _ _ _ _ _ _ _ _ _ _ _ _ _ _ _ _ _ _ _ _ _ _ _ _ _ _ _ _ _ _ _ _ _ _ _ _ _ _ _ _ _ _ _ _ _ _ _ _ _ _ _ _ _ _ _ _ _ _ _ _ _ _ _ _ _ _ _ _ _ _ _ _ _ _ _ _ _ _ _ _ _ _ _ _ _ _ _ _ _ _ _ _ _ _ _ _ _ _ _ _ _ _ _ _ _
                · skip
                  by_cases q7 : kd = 7
                  · subst q7
                    exact caseSquash hn hab x0 x1 x2 x3 x4 hb.1 hb.2.1 hb.2.2 hJ hlt  Q0 _ _ _ _ _ _ _ _ _ _ _ _ _ _ _ _ _ _ _ _ _ _ _ _ _ _ _ _ _ _ _ _ _ _ _ _ _ _ _ _ _ _ _ _ _ _ _ _ _ _ _ _ _ _ _ _ _ _ _ _ _ _ _ _ _ _ _ _ _ _ _ _ _ _ _ _ _ _ _ _ _ _ _ _ _ _ _ _ _ _ _ _ _ _ _ _ _ _ _ _ _ _ _ _ _ _ _ _ _ _ _ _ _ _ _ _ _ _ _ _ _ _ _ _ _ _ _ _ _ _ _ _ _ _ _ _ _ _ _ _ _ _ _ _ _ _ _ _ _ _ _ _ _ _ _ _ _ _ _ _ _ _ _ _ _ _ _ _ _ _ _ _ _ _ _ _ _ _ _ _ _ _ _ _ _ _ _ _ _ _ _ _ _ _ _ _ _ _ _ _
                  · skip
                    exact caseElse hn hab x0 x1 x2 x3 x4 hb.1 hb.2.1 hb.2.2 hJ hlt (beq_eq_false_iff_ne.2 q0) (beq_eq_false_iff_ne.2 q1) (beq_eq_false_iff_ne.2 q2) (beq_eq_false_iff_ne.2 q3) (beq_eq_false_iff_ne.2 q4) (beq_eq_false_iff_ne.2 q5) (beq_eq_false_iff_ne.2 q6) (beq_eq_false_iff_ne.2 q7) Q0 _ _ _ _ _ _ _ _ _ _ _ _ _ _ _ _ _ _ _ _ _ _ _ _ _ _ _ _ _ _ _ _ _ _ _ _ _ _ _ _ _ _ _ _ _ _ _ _ _ _ _ _ _ _ _ _ _ _ _ _ _ _ _ _ _ _ _ _ _ _ _ _ _ _ _ _ _ _ _ _ _ _ _ _ _ _ _ _ _ _ _ _ _ _ _ _ _ _ _ _ _ _ _ _ _ _ _ _ _ _ _ _ _ _ _ _ _ _ _ _ _ _ _ _ _ _ _ _ _ _ _ _ _ _ _ _ _ _ _ _ _ _ _ _ _ _ _ _ _ _ _ _ _ _ _ _ _ _ _ _ _ _ _ _ _ _ _ _ _ _ _ _ _ _ _ _ _ _ _ _ _ _ _ _ _ _ _ _ _ _ _ _ _ _ _ _ _ _ _ _
  · obtain rfl : k = n := by omega
    have HJ := hide hJ
    clear hJ hS
    conv => arg 2; whnf
    go_wp2
    refine ⟨s, unhide HJ, ?_⟩
    unfold FRD
    refine ⟨_, _, _, _, _, _, _, _, _, _, _, _, _, _, _, _, _, _, _, _, _, _, _, _, _, _, _, _, _, _, _, _, _, _, _, _, _, _, _, _, _, _, _, _, _, _, _, _, _, _, _, _, _, _, _, _, _, _, _, _, _, _, _, _, _, _, _, _, _, _, _, _, _, _, _, _, _, _, _, _, _, _, _, _, _, _, _, _, _, _, _, _, _, _, _, _, _, _, _, _, _, _, _, _, _, _, _, _, _, _, _, _, _, _, _, _, _, _, _, _, _, _, _, _, _, _, _, _, _, _, _, _, _, _, _, _, _, _, _, _, _, _, _, _, _, _, _, _, _, _, _, _, _, _, _, _, _, _, _, _, _, _, _, _, _, _, _, _, _, _, _, _, _, _, _, _, _, _, _, _, _, _, _, _, _, _, _, _, _, _, _, _, _, _, _, rfl⟩
set_option maxRecDepth 1000000 in
theorem loopD {W : World} {A : Option Addr} {n cap bq br : Nat} (hS : SlArg [some .i64, some .i64, some .u64, some .i64, some .u64] W A n) (hn : n ≤ 4398046511104) (Q0 : Exit → Act → World → Prop) (c1 c26 c27 c28 c29 : Value) {s : Qs} {wr : World} (hJ : Heap W wr [HP.q bq s, HP.r br s]) (u2 u6 u7 u8 u9 u10 u11 u12 u13 u14 u15 u16 u17 u18 u19 u20 u21 u22 u23 u24 u25 u30 u31 u32 u33 u34 u35 u36 u37 u38 u39 u40 u41 u42 u43 u44 u45 u46 u47 u48 u49 u50 u51 u52 u53 u54 u55 u56 u57 u58 u59 u60 u61 u62 u63 u64 u65 u66 u67 u68 u69 u70 u71 u72 u73 u74 u75 u76 u77 u78 u79 u80 u81 u82 u83 u84 u85 u86 u87 u88 u89 u90 u91 u92 u93 u94 u95 u96 u97 u98 u99 u100 u101 u102 u103 u104 u105 u106 u107 u108 u109 u110 u111 u112 u113 u114 u115 u116 u117 u118 u119 u120 u121 u122 u123 u124 u125 u126 u127 u128 u129 u130 u131 u132 u133 u134 u135 u136 u137 u138 u139 u140 u141 u142 u143 u144 u145 u146 u147 u148 u149 u150 u151 u152 u153 u154 u155 u156 u157 u158 u159 u160 u161 u162 u163 u164 u165 u166 u167 u168 u169 u170 u171 u172 u173 u174 u175 u176 u177 u178 u179 u180 u181 u182 u183 u184 u185 u186 u187 u188 u189 u190 u191 u192 u193 u194 u195 u196 u197 u198 u199 u200 u201 u202 u203 : Value) (hexit : ∀ a' w'', WXDo c1 c26 c27 c28 c29 W A n cap bq br a' w'' → Q0 (.exit 0) a' w'') :
    Code.wp Try.prog (Code.loop bodyD) Q0 ⟨#[.slice A n cap, c1, u2, .pointer (some ⟨bq, 0, none⟩), .pointer (some ⟨br, 0, none⟩), .int .i64 ((0 : Nat) : Int), u6, u7, u8, u9, u10, u11, u12, u13, u14, u15, u16, u17, u18, u19, u20, u21, u22, u23, u24, u25, c26, c27, c28, c29, u30, u31, u32, u33, u34, u35, u36, u37, u38, u39, u40, u41, u42, u43, u44, u45, u46, u47, u48, u49, u50, u51, u52, u53, u54, u55, u56, u57, u58, u59, u60, u61, u62, u63, u64, u65, u66, u67, u68, u69, u70, u71, u72, u73, u74, u75, u76, u77, u78, u79, u80, u81, u82, u83, u84, u85, u86, u87, u88, u89, u90, u91, u92, u93, u94, u95, u96, u97, u98, u99, u100, u101, u102, u103, u104, u105, u106, u107, u108, u109, u110, u111, u112, u113, u114, u115, u116, u117, u118, u119, u120, u121, u122, u123, u124, u125, u126, u127, u128, u129, u130, u131, u132, u133, u134, u135, u136, u137, u138, u139, u140, u141, u142, u143, u144, u145, u146, u147, u148, u149, u150, u151, u152, u153, u154, u155, u156, u157, u158, u159, u160, u161, u162, u163, u164, u165, u166, u167, u168, u169, u170, u171, u172, u173, u174, u175, u176, u177, u178, u179, u180, u181, u182, u183, u184, u185, u186, u187, u188, u189, u190, u191, u192, u193, u194, u195, u196, u197, u198, u199, u200, u201, u202, u203], []⟩ wr := by
  refine wp_loop (WIDo c1 c26 c27 c28 c29 W A n cap bq br) (WmuD n) ⟨0, s, ⟨Nat.zero_le _, hJ⟩, ?_⟩ (fun a w'' hI => roundD hS hn Q0 c1 c26 c27 c28 c29 hexit hI)
  unfold FRD
  exact ⟨u2, u6, u7, u8, u9, u10, u11, u12, u13, u14, u15, u16, u17, u18, u19, u20, u21, u22, u23, u24, u25, u30, u31, u32, u33, u34, u35, u36, u37, u38, u39, u40, u41, u42, u43, u44, u45, u46, u47, u48, u49, u50, u51, u52, u53, u54, u55, u56, u57, u58, u59, u60, u61, u62, u63, u64, u65, u66, u67, u68, u69, u70, u71, u72, u73, u74, u75, u76, u77, u78, u79, u80, u81, u82, u83, u84, u85, u86, u87, u88, u89, u90, u91, u92, u93, u94, u95, u96, u97, u98, u99, u100, u101, u102, u103, u104, u105, u106, u107, u108, u109, u110, u111, u112, u113, u114, u115, u116, u117, u118, u119, u120, u121, u122, u123, u124, u125, u126, u127, u128, u129, u130, u131, u132, u133, u134, u135, u136, u137, u138, u139, u140, u141, u142, u143, u144, u145, u146, u147, u148, u149, u150, u151, u152, u153, u154, u155, u156, u157, u158, u159, u160, u161, u162, u163, u164, u165, u166, u167, u168, u169, u170, u171, u172, u173, u174, u175, u176, u177, u178, u179, u180, u181, u182, u183, u184, u185, u186, u187, u188, u189, u190, u191, u192, u193, u194, u195, u196, u197, u198, u199, u200, u201, u202, u203, rfl⟩
set_option maxRecDepth 1000000 in
set_option maxHeartbeats 8000000 in
theorem does_walk (A : Option Addr) (n cap : Nat) (W : World) (hS : SlArg [some .i64, some .i64, some .u64, some .i64, some .u64] W A n) (hn : n ≤ 4398046511104) :
    Calls Try.prog 3 #[.slice A n cap] W fun e w' => e = .returned (.bool true) ∧ Below W.heap.size W w' := by
  have HS := hide hS
  clear hS
  go_enter Try.func3, Try.ntmps3
  go_wp2_with fail
  refine (fixed_h (Heap.nil W)).mono ?_
  rintro r w1 ⟨rfl, h1⟩
  go_wp2_with fail
  refine (new_h h1).mono ?_
  rintro r w2 ⟨bq, rfl, h2⟩
  clear h1
  unfold ptr
  go_wp2_with fail
  refine (new_r h2).mono ?_
  rintro r w3 ⟨br, rfl, h3⟩
  have H3 := hide h3.f2
  clear h2 h3
  unfold ptr
  go_wp2
  refine loopD (unhide HS) hn _ _ _ _ _ _ (unhide H3) _ _ _ _ _ _ _ _ _ _ _ _ _ _ _ _ _ _ _ _ _ _ _ _ _ _ _ _ _ _ _ _ _ _ _ _ _ _ _ _ _ _ _ _ _ _ _ _ _ _ _ _ _ _ _ _ _ _ _ _ _ _ _ _ _ _ _ _ _ _ _ _ _ _ _ _ _ _ _ _ _ _ _ _ _ _ _ _ _ _ _ _ _ _ _ _ _ _ _ _ _ _ _ _ _ _ _ _ _ _ _ _ _ _ _ _ _ _ _ _ _ _ _ _ _ _ _ _ _ _ _ _ _ _ _ _ _ _ _ _ _ _ _ _ _ _ _ _ _ _ _ _ _ _ _ _ _ _ _ _ _ _ _ _ _ _ _ _ _ _ _ _ _ _ _ _ _ _ _ _ _ _ _ _ _ _ _ _ _ _ _ _ _ _ _ ?_
  clear H3
  intro a' w'' hX
  obtain ⟨s, hJ, hF⟩ := hX
  unfold FRD at hF
  obtain ⟨u2, hF⟩ := hF
  obtain ⟨u6, hF⟩ := hF
  obtain ⟨u7, hF⟩ := hF
  obtain ⟨u8, hF⟩ := hF
  obtain ⟨u9, hF⟩ := hF
  obtain ⟨u10, hF⟩ := hF
  obtain ⟨u11, hF⟩ := hF
  obtain ⟨u12, hF⟩ := hF
  obtain ⟨u13, hF⟩ := hF
  obtain ⟨u14, hF⟩ := hF
  obtain ⟨u15, hF⟩ := hF
  obtain ⟨u16, hF⟩ := hF
  obtain ⟨u17, hF⟩ := hF
  obtain ⟨u18, hF⟩ := hF
  obtain ⟨u19, hF⟩ := hF
  obtain ⟨u20, hF⟩ := hF
  obtain ⟨u21, hF⟩ := hF
  obtain ⟨u22, hF⟩ := hF
  obtain ⟨u23, hF⟩ := hF
  obtain ⟨u24, hF⟩ := hF
  obtain ⟨u25, hF⟩ := hF
  obtain ⟨u30, hF⟩ := hF
  obtain ⟨u31, hF⟩ := hF
  obtain ⟨u32, hF⟩ := hF
  obtain ⟨u33, hF⟩ := hF
  obtain ⟨u34, hF⟩ := hF
  obtain ⟨u35, hF⟩ := hF
  obtain ⟨u36, hF⟩ := hF
  obtain ⟨u37, hF⟩ := hF
  obtain ⟨u38, hF⟩ := hF
  obtain ⟨u39, hF⟩ := hF
  obtain ⟨u40, hF⟩ := hF
  obtain ⟨u41, hF⟩ := hF
  obtain ⟨u42, hF⟩ := hF
  obtain ⟨u43, hF⟩ := hF
  obtain ⟨u44, hF⟩ := hF
  obtain ⟨u45, hF⟩ := hF
  obtain ⟨u46, hF⟩ := hF
  obtain ⟨u47, hF⟩ := hF
  obtain ⟨u48, hF⟩ := hF
  obtain ⟨u49, hF⟩ := hF
  obtain ⟨u50, hF⟩ := hF
  obtain ⟨u51, hF⟩ := hF
  obtain ⟨u52, hF⟩ := hF
  obtain ⟨u53, hF⟩ := hF
  obtain ⟨u54, hF⟩ := hF
  obtain ⟨u55, hF⟩ := hF
  obtain ⟨u56, hF⟩ := hF
  obtain ⟨u57, hF⟩ := hF
  obtain ⟨u58, hF⟩ := hF
  obtain ⟨u59, hF⟩ := hF
  obtain ⟨u60, hF⟩ := hF
  obtain ⟨u61, hF⟩ := hF
  obtain ⟨u62, hF⟩ := hF
  obtain ⟨u63, hF⟩ := hF
  obtain ⟨u64, hF⟩ := hF
  obtain ⟨u65, hF⟩ := hF
  obtain ⟨u66, hF⟩ := hF
  obtain ⟨u67, hF⟩ := hF
  obtain ⟨u68, hF⟩ := hF
  obtain ⟨u69, hF⟩ := hF
  obtain ⟨u70, hF⟩ := hF
  obtain ⟨u71, hF⟩ := hF
  obtain ⟨u72, hF⟩ := hF
  obtain ⟨u73, hF⟩ := hF
  obtain ⟨u74, hF⟩ := hF
  obtain ⟨u75, hF⟩ := hF
  obtain ⟨u76, hF⟩ := hF
  obtain ⟨u77, hF⟩ := hF
  obtain ⟨u78, hF⟩ := hF
  obtain ⟨u79, hF⟩ := hF
  obtain ⟨u80, hF⟩ := hF
  obtain ⟨u81, hF⟩ := hF
  obtain ⟨u82, hF⟩ := hF
  obtain ⟨u83, hF⟩ := hF
  obtain ⟨u84, hF⟩ := hF
  obtain ⟨u85, hF⟩ := hF
  obtain ⟨u86, hF⟩ := hF
  obtain ⟨u87, hF⟩ := hF
  obtain ⟨u88, hF⟩ := hF
  obtain ⟨u89, hF⟩ := hF
  obtain ⟨u90, hF⟩ := hF
  obtain ⟨u91, hF⟩ := hF
  obtain ⟨u92, hF⟩ := hF
  obtain ⟨u93, hF⟩ := hF
  obtain ⟨u94, hF⟩ := hF
  obtain ⟨u95, hF⟩ := hF
  obtain ⟨u96, hF⟩ := hF
  obtain ⟨u97, hF⟩ := hF
  obtain ⟨u98, hF⟩ := hF
  obtain ⟨u99, hF⟩ := hF
  obtain ⟨u100, hF⟩ := hF
  obtain ⟨u101, hF⟩ := hF
  obtain ⟨u102, hF⟩ := hF
  obtain ⟨u103, hF⟩ := hF
  obtain ⟨u104, hF⟩ := hF
  obtain ⟨u105, hF⟩ := hF
  obtain ⟨u106, hF⟩ := hF
  obtain ⟨u107, hF⟩ := hF
  obtain ⟨u108, hF⟩ := hF
  obtain ⟨u109, hF⟩ := hF
  obtain ⟨u110, hF⟩ := hF
  obtain ⟨u111, hF⟩ := hF
  obtain ⟨u112, hF⟩ := hF
  obtain ⟨u113, hF⟩ := hF
  obtain ⟨u114, hF⟩ := hF
  obtain ⟨u115, hF⟩ := hF
  obtain ⟨u116, hF⟩ := hF
  obtain ⟨u117, hF⟩ := hF
  obtain ⟨u118, hF⟩ := hF
  obtain ⟨u119, hF⟩ := hF
  obtain ⟨u120, hF⟩ := hF
  obtain ⟨u121, hF⟩ := hF
  obtain ⟨u122, hF⟩ := hF
  obtain ⟨u123, hF⟩ := hF
  obtain ⟨u124, hF⟩ := hF
  obtain ⟨u125, hF⟩ := hF
  obtain ⟨u126, hF⟩ := hF
  obtain ⟨u127, hF⟩ := hF
  obtain ⟨u128, hF⟩ := hF
  obtain ⟨u129, hF⟩ := hF
  obtain ⟨u130, hF⟩ := hF
  obtain ⟨u131, hF⟩ := hF
  obtain ⟨u132, hF⟩ := hF
  obtain ⟨u133, hF⟩ := hF
  obtain ⟨u134, hF⟩ := hF
  obtain ⟨u135, hF⟩ := hF
  obtain ⟨u136, hF⟩ := hF
  obtain ⟨u137, hF⟩ := hF
  obtain ⟨u138, hF⟩ := hF
  obtain ⟨u139, hF⟩ := hF
  obtain ⟨u140, hF⟩ := hF
  obtain ⟨u141, hF⟩ := hF
  obtain ⟨u142, hF⟩ := hF
  obtain ⟨u143, hF⟩ := hF
  obtain ⟨u144, hF⟩ := hF
  obtain ⟨u145, hF⟩ := hF
  obtain ⟨u146, hF⟩ := hF
  obtain ⟨u147, hF⟩ := hF
  obtain ⟨u148, hF⟩ := hF
  obtain ⟨u149, hF⟩ := hF
  obtain ⟨u150, hF⟩ := hF
  obtain ⟨u151, hF⟩ := hF
  obtain ⟨u152, hF⟩ := hF
  obtain ⟨u153, hF⟩ := hF
  obtain ⟨u154, hF⟩ := hF
  obtain ⟨u155, hF⟩ := hF
  obtain ⟨u156, hF⟩ := hF
  obtain ⟨u157, hF⟩ := hF
  obtain ⟨u158, hF⟩ := hF
  obtain ⟨u159, hF⟩ := hF
  obtain ⟨u160, hF⟩ := hF
  obtain ⟨u161, hF⟩ := hF
  obtain ⟨u162, hF⟩ := hF
  obtain ⟨u163, hF⟩ := hF
  obtain ⟨u164, hF⟩ := hF
  obtain ⟨u165, hF⟩ := hF
  obtain ⟨u166, hF⟩ := hF
  obtain ⟨u167, hF⟩ := hF
  obtain ⟨u168, hF⟩ := hF
  obtain ⟨u169, hF⟩ := hF
  obtain ⟨u170, hF⟩ := hF
  obtain ⟨u171, hF⟩ := hF
  obtain ⟨u172, hF⟩ := hF
  obtain ⟨u173, hF⟩ := hF
  obtain ⟨u174, hF⟩ := hF
  obtain ⟨u175, hF⟩ := hF
  obtain ⟨u176, hF⟩ := hF
  obtain ⟨u177, hF⟩ := hF
  obtain ⟨u178, hF⟩ := hF
  obtain ⟨u179, hF⟩ := hF
  obtain ⟨u180, hF⟩ := hF
  obtain ⟨u181, hF⟩ := hF
  obtain ⟨u182, hF⟩ := hF
  obtain ⟨u183, hF⟩ := hF
  obtain ⟨u184, hF⟩ := hF
  obtain ⟨u185, hF⟩ := hF
  obtain ⟨u186, hF⟩ := hF
  obtain ⟨u187, hF⟩ := hF
  obtain ⟨u188, hF⟩ := hF
  obtain ⟨u189, hF⟩ := hF
  obtain ⟨u190, hF⟩ := hF
  obtain ⟨u191, hF⟩ := hF
  obtain ⟨u192, hF⟩ := hF
  obtain ⟨u193, hF⟩ := hF
  obtain ⟨u194, hF⟩ := hF
  obtain ⟨u195, hF⟩ := hF
  obtain ⟨u196, hF⟩ := hF
  obtain ⟨u197, hF⟩ := hF
  obtain ⟨u198, hF⟩ := hF
  obtain ⟨u199, hF⟩ := hF
  obtain ⟨u200, hF⟩ := hF
  obtain ⟨u201, hF⟩ := hF
  obtain ⟨u202, hF⟩ := hF
  obtain ⟨u203, hF⟩ := hF
  subst hF
  have HB := hide hJ.below
  clear hJ
  go_wp2
  go_ret
  exact ⟨rfl, unhide HB⟩
end Go.Proofs.Ytdmkgomcomcfhaa
