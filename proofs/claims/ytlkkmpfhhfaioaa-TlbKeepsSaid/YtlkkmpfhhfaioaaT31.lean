/- Layer 15: what is found was put: neither put nor fence. -/
import Derived.Test.YtlkkmpfhhfaioaaT26
namespace Go.Proofs.Ytlkkmpfhhfaioaa
open Go.RowKit
set_option maxRecDepth 1000000 in
set_option maxHeartbeats 8000000 in
theorem elseK {w wr : World} {ab ao n cap b k : Nat} {seed sd : Int} {S : Slots} {P : List E} {A6 : Option Addr} {cap6 : Nat} (hn : n ≤ 2932031007402) {kd at_ lv sp : Int} {gl : Bool} {lf : Int} (hab : ab < wr.heap.size)
    (x0 : wr.cell? ⟨ab, ao + k * 6, none⟩ = some (.int .i64 kd)) (x1 : wr.cell? ⟨ab, ao + k * 6 + 1, none⟩ = some (.int .u64 at_)) (x2 : wr.cell? ⟨ab, ao + k * 6 + 2, none⟩ = some (.int .i64 lv)) (x3 : wr.cell? ⟨ab, ao + k * 6 + 3, none⟩ = some (.int .u64 sp))
    (x4 : wr.cell? ⟨ab, ao + k * 6 + 4, none⟩ = some (.bool gl)) (x5 : wr.cell? ⟨ab, ao + k * 6 + 5, none⟩ = some (.int .u64 lf)) (hwf : (⟨at_, lv, sp, gl, lf⟩ : E).wf) (hR : RelK w n b k sd S P A6 cap6 wr) (hlt : k < n) (z0 : (kd == 0) = false) (z2 : (kd == 2) = false) (Q0 : Exit → Act → World → Prop) (c2 c3 c27 c28 c29 c30 c31 u4 u8 u9 u10 u11 u12 u13 u14 u15 u16 u17 u18 u19 u20 u21 u22 u23 u24 u25 u26 u32 u33 u34 u35 u36 u37 u38 u39 u40 u41 u42 u43 u44 u45 u46 u47 u48 u49 u50 u51 u52 u53 u54 u55 u56 u57 u58 u59 u60 u61 u62 u63 u64 u65 u66 u67 u68 u69 u70 u71 u72 u73 u74 u75 u76 u77 u78 u79 u80 u81 u82 u83 u84 u85 u86 u87 u88 u89 u90 u91 u92 u93 u94 u95 u96 u97 u98 u99 u100 u101 u102 u103 u104 u105 u106 u107 u108 u109 u110 u111 u112 u113 u114 u115 u116 u117 u118 u119 u120 u121 u122 u123 u124 u125 u126 u127 u128 u129 u130 u131 u132 u133 u134 u135 u136 u137 u138 u139 u140 u141 u142 u143 u144 u145 u146 u147 u148 u149 u150 u151 u152 u153 u154 u155 u156 u157 u158 u159 u160 u161 u162 u163 u164 u165 u166 u167 u168 u169 u170 u171 u172 u173 u174 u175 u176 u177 u178 u179 u180 u181 u182 u183 u184 u185 u186 u187 u188 u189 u190 u191 u192 u193 u194 u195 u196 u197 u198 u199 u200 u201 u202 u203 u204 u205 u206 u207 u208 u209 u210 u211 u212 u213 u214 u215 u216 u217 u218 u219 u220 u221 u222 u223 u224 u225 u226 u227 u228 u229 u230 u231 u232 u233 u234 u235 u236 u237 u238 u239 u240 u241 u242 u243 u244 u245 u246 u247 u248 u249 u250 u251 u252 u253 u254 u255 u256 u257 u258 u259 u260 u261 : Value) :
    Code.wp Try.prog bodyK (Exit.then (fun a' w'' => WIK c2 c3 c27 c28 c29 c30 c31 w (some ⟨ab, ao, none⟩) n cap b seed a' w'' ∧ WmuK n a' w'' < n - k) Q0) ⟨#[.int .u64 seed, .slice (some ⟨ab, ao, none⟩) n cap, c2, c3, u4, .pointer (some ⟨b, 0, none⟩), .slice A6 P.length cap6, .int .i64 (k : Int), u8, u9, u10, u11, u12, u13, u14, u15, u16, u17, u18, u19, u20, u21, u22, u23, u24, u25, u26, c27, c28, c29, c30, c31, u32, u33, u34, u35, u36, u37, u38, u39, u40, u41, u42, u43, u44, u45, u46, u47, u48, u49, u50, u51, u52, u53, u54, u55, u56, u57, u58, u59, u60, u61, u62, u63, u64, u65, u66, u67, u68, u69, u70, u71, u72, u73, u74, u75, u76, u77, u78, u79, u80, u81, u82, u83, u84, u85, u86, u87, u88, u89, u90, u91, u92, u93, u94, u95, u96, u97, u98, u99, u100, u101, u102, u103, u104, u105, u106, u107, u108, u109, u110, u111, u112, u113, u114, u115, u116, u117, u118, u119, u120, u121, u122, u123, u124, u125, u126, u127, u128, u129, u130, u131, u132, u133, u134, u135, u136, u137, u138, u139, u140, u141, u142, u143, u144, u145, u146, u147, u148, u149, u150, u151, u152, u153, u154, u155, u156, u157, u158, u159, u160, u161, u162, u163, u164, u165, u166, u167, u168, u169, u170, u171, u172, u173, u174, u175, u176, u177, u178, u179, u180, u181, u182, u183, u184, u185, u186, u187, u188, u189, u190, u191, u192, u193, u194, u195, u196, u197, u198, u199, u200, u201, u202, u203, u204, u205, u206, u207, u208, u209, u210, u211, u212, u213, u214, u215, u216, u217, u218, u219, u220, u221, u222, u223, u224, u225, u226, u227, u228, u229, u230, u231, u232, u233, u234, u235, u236, u237, u238, u239, u240, u241, u242, u243, u244, u245, u246, u247, u248, u249, u250, u251, u252, u253, u254, u255, u256, u257, u258, u259, u260, u261], []⟩ wr := by
  conv => arg 2; whnf
  obtain ⟨hk, hPk, hKI, hJ⟩ := hR
  have HKI := hide hKI
  have J1 := (hJ.new #[.int .i64 kd, .int .u64 at_, .int .i64 lv, .int .u64 sp, .bool gl, .int .u64 lf] 30).b3
  obtain ⟨xb, hxb⟩ : ∃ xb, wr.heap.size = xb := ⟨_, rfl⟩
  rw [hxb] at J1
  have Hxb := hide hxb
  have c6 := cells6 J1.f3.heap
  have hxl := lt_of_heap' J1.f3.heap
  clear hJ hKI hxb
  have hPk : P.length ≤ k + 1 := by omega
  have hKI := unhide HKI
  have c6 := cells6 J1.f3.heap
  have hxl := lt_of_heap' J1.f3.heap
  have hI := hide J1.f2.tlInv
  obtain ⟨f, hfq⟩ : ∃ f, fnd S sp at_ = f := ⟨_, rfl⟩
  obtain ⟨q, hqq⟩ : ∃ q, (findS S sp at_).isSome = q := ⟨_, rfl⟩
  have hfo := fnd_ok (unhide hI) sp at_
  rw [hfq] at hfo
  have hq : q = true → f ∈ P ∧ hasB f at_ = true ∧ (f.gl = true ∨ f.sp = sp) := fun h => by
    rw [h] at hqq
    obtain ⟨f', hf'⟩ := Option.isSome_iff_exists.1 hqq
    obtain ⟨m, hm8, hmf, h1, h2⟩ := find_spec hf'
    have : f' = f := by rw [← hfq]; unfold fnd; rw [hf']; rfl
    subst this
    exact ⟨hKI.sub m _ hm8 hmf, h1, h2⟩
  have Hq := hide hq
  clear hq hKI
  go_wp2_with fail
  first | rw [unhide Hxb] | skip
  refine (find_f' J1.f2 sp at_ hwf.a0 hwf.a1 hfq hqq).mono ?_
  rintro r w5 ⟨rfl, h5⟩
  have h6 := (h5.f2.new #[.int .u64 f.at_, .int .i64 f.lv, .int .u64 f.sp, .bool f.gl, .int .u64 f.lf] 33).b3
  obtain ⟨bf, hbf⟩ : ∃ bf, w5.heap.size = bf := ⟨_, rfl⟩
  rw [hbf] at h6
  clear J1 h5 c6 hfq hqq
  go_wp2
  clear hbf
  go_loopw [23, 24] (fun v jv wr2 => ∃ (j : Nat), jv = .int .i64 j ∧ j ≤ P.length ∧ v = .bool (!q || (P.take j).any fun y => decide (y = f)) ∧ Heap w wr2 [HP.slw (.slice A6 P.length cap6) 5 P.length (ecs P), HP.tl b sd S, HP.blk bf #[.int .u64 f.at_, .int .i64 f.lv, .int .u64 f.sp, .bool f.gl, .int .u64 f.lf] 33, HP.blk xb #[.int .i64 kd, .int .u64 at_, .int .i64 lv, .int .u64 sp, .bool gl, .int .u64 lf] 30]) (fun _ jv _ => P.length - (intOf jv).toNat)
  case atStart => exact ⟨0, rfl, Nat.zero_le _, by simp, h6⟩
  case round =>
    obtain ⟨j, rfl, hj, rfl, hK⟩ := hrel
    clear h6
    by_cases hjl : j < P.length
    · obtain ⟨y, hy⟩ : ∃ y, P[j]? = some y := ⟨_, List.getElem?_eq_getElem hjl⟩
      have hyo := (unhide HKI).ok y (List.mem_of_getElem? hy)
      obtain ⟨g, o, _, h1, hgl, _, d0, d1, d2, d3, d4⟩ := cellsE hK.slw hy
      injection h1 with hA1 _ hA2
      subst hA1 hA2
      clear d0 d1 d2 d3 d4
      have hany : (!q || (P.take (j + 1)).any fun y => decide (y = f)) = ((!q || (P.take j).any fun y => decide (y = f)) || decide (y = f)) := by
        rw [List.take_add_one, hy, List.any_append]
        simp [Bool.or_assoc]
      have Hany := hide hany
      clear hany
      have heq := hide (eqe36 y f hyo hfo)
      generalize (!q || (P.take j).any fun y => decide (y = f)) = c at *
      generalize decide (y = f) = d at *
      have hix : ∀ w_, (Instr.indexAt 46 (.slice (some ⟨g, o, none⟩) P.length cap6) (.int .i64 (j : Int))).run Try.prog w_ = .ok (.pointer (some ⟨g, o + j * 5, none⟩)) w_ := fun w_ => run_ixs46 g o cap6 P.length j hjl w_
      go_wp2_with fail
      cases c with
      | true =>
        refine wp_region_F (fun w_ => Heap w w_ [HP.slw (.slice (some ⟨g, o, none⟩) P.length cap6) 5 P.length (ecs P), HP.tl b sd S, HP.blk bf #[.int .u64 f.at_, .int .i64 f.lv, .int .u64 f.sp, .bool f.gl, .int .u64 f.lf] 33, HP.blk xb #[.int .i64 kd, .int .u64 at_, .int .i64 lv, .int .u64 sp, .bool gl, .int .u64 lf] 30]) GN (fun k_ v_ w_ => match k_ with
            | 0 => v_ = .bool true
            | 1 => v_ = .bool true
            | 2 => v_ = undef
            | 3 => v_ = undef
            | 4 => v_ = undef
            | 5 => v_ = undef
            | 6 => v_ = undef
            | 7 => v_ = undef
            | 8 => v_ = .bool true
            | _ => v_ = .bool true) fol (by kernel_rfl) ?_ ?_ ?_ ?_
        · exact hK.drew
        · intro k_ v_ w_ w2_ h1 hg
          split at h1 <;> exact h1
        · intro vals
          show wpG _ _ _ _ _ _ 0 (_ :: _) _
          refine wpG_cons (gval (.bool true) GN.refl fun w_ hJ hd => ?_) ?_
          · exact ⟨by kernel_rfl, by kernel_rfl, rfl⟩
          refine wpG_cons (gval (.bool true) GN.refl fun w_ hJ hd => ?_) ?_
          · have e0 : vals 0 = _ := hd 0 (by decide) (by kernel_rfl)
            rw [e0]
            exact ⟨by kernel_rfl, by kernel_rfl, rfl⟩
          refine wpG_cons (gskip fun w_ hJ hd => ?_) ?_
          · have e1 : vals 1 = _ := hd 1 (by decide) (by kernel_rfl)
            rw [e1]
            exact ⟨by kernel_rfl, rfl⟩
          refine wpG_cons (gskip fun w_ hJ hd => ?_) ?_
          · have e1 : vals 1 = _ := hd 1 (by decide) (by kernel_rfl)
            rw [e1]
            exact ⟨by kernel_rfl, rfl⟩
          refine wpG_cons (gskip fun w_ hJ hd => ?_) ?_
          · have e1 : vals 1 = _ := hd 1 (by decide) (by kernel_rfl)
            rw [e1]
            exact ⟨by kernel_rfl, rfl⟩
          refine wpG_cons (gskip fun w_ hJ hd => ?_) ?_
          · have e1 : vals 1 = _ := hd 1 (by decide) (by kernel_rfl)
            rw [e1]
            exact ⟨by kernel_rfl, rfl⟩
          refine wpG_cons (gskip fun w_ hJ hd => ?_) ?_
          · have e1 : vals 1 = _ := hd 1 (by decide) (by kernel_rfl)
            rw [e1]
            exact ⟨by kernel_rfl, rfl⟩
          refine wpG_cons (gskip fun w_ hJ hd => ?_) ?_
          · have e1 : vals 1 = _ := hd 1 (by decide) (by kernel_rfl)
            rw [e1]
            exact ⟨by kernel_rfl, rfl⟩
          refine wpG_cons (gval (.bool true) GN.refl fun w_ hJ hd => ?_) ?_
          · have e1 : vals 1 = _ := hd 1 (by decide) (by kernel_rfl)
            rw [e1]
            exact ⟨by kernel_rfl, by kernel_rfl, rfl⟩
          refine wpG_cons (gval (.bool true) GN.refl fun w_ hJ hd => ?_) wpG_nil
          · have e8 : vals 8 = _ := hd 8 (by decide) (by kernel_rfl)
            rw [e8]
            exact ⟨by kernel_rfl, by kernel_rfl, rfl⟩
        · intro vals w_ hJ hf
          have e0 : vals 0 = _ := hf 0 (by decide)
          have e1 : vals 1 = _ := hf 1 (by decide)
          have e2 : vals 2 = _ := hf 2 (by decide)
          have e3 : vals 3 = _ := hf 3 (by decide)
          have e4 : vals 4 = _ := hf 4 (by decide)
          have e5 : vals 5 = _ := hf 5 (by decide)
          have e6 : vals 6 = _ := hf 6 (by decide)
          have e7 : vals 7 = _ := hf 7 (by decide)
          have e8 : vals 8 = _ := hf 8 (by decide)
          have e9 : vals 9 = _ := hf 9 (by decide)
          simp only [fillG, Nat.zero_add, Nat.reduceAdd, e0, e1, e2, e3, e4, e5, e6, e7, e8, e9, Act.put, List.setIfInBounds_toArray, List.set_cons_succ, List.set_cons_zero]
          clear e0 e1 e2 e3 e4 e5 e6 e7 e8 e9 hf
          go_wp2
          exact ⟨⟨j + 1, by go_num, by omega, by rw [unhide Hany]; rfl, hJ⟩, by simp [intOf]; omega⟩
      | false =>
        refine wp_region_F (fun w_ => Heap w w_ [HP.slw (.slice (some ⟨g, o, none⟩) P.length cap6) 5 P.length (ecs P), HP.tl b sd S, HP.blk bf #[.int .u64 f.at_, .int .i64 f.lv, .int .u64 f.sp, .bool f.gl, .int .u64 f.lf] 33, HP.blk xb #[.int .i64 kd, .int .u64 at_, .int .i64 lv, .int .u64 sp, .bool gl, .int .u64 lf] 30]) GN (fun k_ v_ w_ => match k_ with
            | 0 => v_ = .bool false
            | 1 => v_ = .bool false
            | 2 => v_ = .slice (some ⟨g, o, none⟩) P.length cap6
            | 3 => v_ = .int .i64 (j : Int)
            | 4 => v_ = .pointer (some ⟨g, o + j * 5, none⟩)
            | 5 => v_ = .agg #[.int .u64 y.at_, .int .i64 y.lv, .int .u64 y.sp, .bool y.gl, .int .u64 y.lf]
            | 6 => v_ = .agg #[.int .u64 f.at_, .int .i64 f.lv, .int .u64 f.sp, .bool f.gl, .int .u64 f.lf]
            | 7 => v_ = .bool d
            | 8 => v_ = .bool d
            | _ => v_ = .bool d) fol (by kernel_rfl) ?_ ?_ ?_ ?_
        · exact hK.drew
        · intro k_ v_ w_ w2_ h1 hg
          split at h1 <;> exact h1
        · intro vals
          show wpG _ _ _ _ _ _ 0 (_ :: _) _
          refine wpG_cons (gval (.bool false) GN.refl fun w_ hJ hd => ?_) ?_
          · exact ⟨by kernel_rfl, by kernel_rfl, rfl⟩
          refine wpG_cons (gval (.bool false) GN.refl fun w_ hJ hd => ?_) ?_
          · have e0 : vals 0 = _ := hd 0 (by decide) (by kernel_rfl)
            rw [e0]
            exact ⟨by kernel_rfl, by kernel_rfl, rfl⟩
          refine wpG_cons (gval (.slice (some ⟨g, o, none⟩) P.length cap6) GN.refl fun w_ hJ hd => ?_) ?_
          · have e1 : vals 1 = _ := hd 1 (by decide) (by kernel_rfl)
            rw [e1]
            exact ⟨by kernel_rfl, by kernel_rfl, rfl⟩
          refine wpG_cons (gval (.int .i64 (j : Int)) GN.refl fun w_ hJ hd => ?_) ?_
          · have e1 : vals 1 = _ := hd 1 (by decide) (by kernel_rfl)
            rw [e1]
            exact ⟨by kernel_rfl, by kernel_rfl, rfl⟩
          refine wpG_cons (gop (Instr.indexAt 46 (.slice (some ⟨g, o, none⟩) P.length cap6) (.int .i64 (j : Int))) (.pointer (some ⟨g, o + j * 5, none⟩)) GN.refl fun w_ hJ hd => ?_) ?_
          · have e2 : vals 2 = _ := hd 2 (by decide) (by kernel_rfl)
            have e3 : vals 3 = _ := hd 3 (by decide) (by kernel_rfl)
            have e1 : vals 1 = _ := hd 1 (by decide) (by kernel_rfl)
            rw [e2, e3, e1]
            exact ⟨by kernel_rfl, by kernel_rfl, hix w_, rfl⟩
          refine wpG_cons (gop (Instr.loadAt 36 (.pointer (some ⟨g, o + j * 5, none⟩))) (.agg #[.int .u64 y.at_, .int .i64 y.lv, .int .u64 y.sp, .bool y.gl, .int .u64 y.lf]) GN.refl fun w_ hJ hd => ?_) ?_
          · have e4 : vals 4 = _ := hd 4 (by decide) (by kernel_rfl)
            have e1 : vals 1 = _ := hd 1 (by decide) (by kernel_rfl)
            rw [e4, e1]
            exact ⟨by kernel_rfl, by kernel_rfl, load_es36 (i := j) (e := y) hJ.slw hy, rfl⟩
          refine wpG_cons (gop (Instr.loadAt 33 (.pointer (some ⟨bf, 0, none⟩))) (.agg #[.int .u64 f.at_, .int .i64 f.lv, .int .u64 f.sp, .bool f.gl, .int .u64 f.lf]) GN.refl fun w_ hJ hd => ?_) ?_
          · have e1 : vals 1 = _ := hd 1 (by decide) (by kernel_rfl)
            rw [e1]
            exact ⟨by kernel_rfl, by kernel_rfl, load_box hJ.f3.heap, rfl⟩
          refine wpG_cons (gop ((do eqGuard .eql 36 (.tmp 216) (.tmp 217) (.agg #[.int .u64 y.at_, .int .i64 y.lv, .int .u64 y.sp, .bool y.gl, .int .u64 y.lf]) (.agg #[.int .u64 f.at_, .int .i64 f.lv, .int .u64 f.sp, .bool f.gl, .int .u64 f.lf]); binOp .eql 36 (.agg #[.int .u64 y.at_, .int .i64 y.lv, .int .u64 y.sp, .bool y.gl, .int .u64 y.lf]) (.agg #[.int .u64 f.at_, .int .i64 f.lv, .int .u64 f.sp, .bool f.gl, .int .u64 f.lf]))) (.bool d) GN.refl fun w_ hJ hd => ?_) ?_
          · have e5 : vals 5 = _ := hd 5 (by decide) (by kernel_rfl)
            have e6 : vals 6 = _ := hd 6 (by decide) (by kernel_rfl)
            have e1 : vals 1 = _ := hd 1 (by decide) (by kernel_rfl)
            rw [e5, e6, e1]
            exact ⟨by kernel_rfl, by kernel_rfl, eqg36 (unhide heq w_), rfl⟩
          refine wpG_cons (gval (.bool d) GN.refl fun w_ hJ hd => ?_) ?_
          · have e1 : vals 1 = _ := hd 1 (by decide) (by kernel_rfl)
            have e7 : vals 7 = _ := hd 7 (by decide) (by kernel_rfl)
            rw [e1, e7]
            exact ⟨by kernel_rfl, by kernel_rfl, rfl⟩
          refine wpG_cons (gval (.bool d) GN.refl fun w_ hJ hd => ?_) wpG_nil
          · have e8 : vals 8 = _ := hd 8 (by decide) (by kernel_rfl)
            rw [e8]
            exact ⟨by kernel_rfl, by kernel_rfl, rfl⟩
        · intro vals w_ hJ hf
          have e0 : vals 0 = _ := hf 0 (by decide)
          have e1 : vals 1 = _ := hf 1 (by decide)
          have e2 : vals 2 = _ := hf 2 (by decide)
          have e3 : vals 3 = _ := hf 3 (by decide)
          have e4 : vals 4 = _ := hf 4 (by decide)
          have e5 : vals 5 = _ := hf 5 (by decide)
          have e6 : vals 6 = _ := hf 6 (by decide)
          have e7 : vals 7 = _ := hf 7 (by decide)
          have e8 : vals 8 = _ := hf 8 (by decide)
          have e9 : vals 9 = _ := hf 9 (by decide)
          simp only [fillG, Nat.zero_add, Nat.reduceAdd, e0, e1, e2, e3, e4, e5, e6, e7, e8, e9, Act.put, List.setIfInBounds_toArray, List.set_cons_succ, List.set_cons_zero]
          clear e0 e1 e2 e3 e4 e5 e6 e7 e8 e9 hf
          go_wp2
          exact ⟨⟨j + 1, by go_num, by omega, by rw [unhide Hany]; rfl, hJ⟩, by simp [intOf]; omega⟩
    · obtain rfl : j = P.length := by omega
      rw [List.take_length]
      have hc : (!q || P.any fun y => decide (y = f)) = true := by
        cases hqv : q with
        | false => rfl
        | true =>
          have := (unhide Hq hqv).1
          simp only [Bool.not_true, Bool.false_or, List.any_eq_true]
          exact ⟨f, this, by simp⟩
      rw [hc]
      clear hc
      have c5 := cells5 hK.f3.heap
      have c6 := cells6 hK.f4.heap
      have hfl2 := lt_of_heap' hK.f3.heap
      have hxl := lt_of_heap' hK.f4.heap
      go_wp2_with fail
      refine (hasR_any f hfo at_ hwf.a0 hwf.a1 _).mono ?_
      rintro r w8 ⟨rfl, hg8⟩
      have K2 := hK.grown hg8
      clear hg8 hK c5 c6
      have c5 := cells5 K2.f3.heap
      have c6 := cells6 K2.f4.heap
      have hfl2 := lt_of_heap' K2.f3.heap
      have hxl := lt_of_heap' K2.f4.heap
      have hle := (unhide HKI).len (unhide hI)
      have hl8 := kept_len S 8
      have end_ : Hid (∀ w_, Heap w w_ [HP.slw (.slice A6 P.length cap6) 5 P.length (ecs P), HP.tl b sd S] → True) := hide (fun _ _ => trivial)
      generalize hhv : hasB f at_ = hv at *
      go_upto_region 43 with fail
      go_cut [244] from 32 to 261 (fun s244 wx => s244 = .bool false ∧ Heap w wx [HP.slw (.slice A6 P.length cap6) 5 P.length (ecs P), HP.tl b sd S])
      case first =>
        cases q with
        | false =>
          go_wp2
          go_meet
          exact ⟨rfl, K2.two⟩
        | true =>
          obtain ⟨_, hh, hgs⟩ := unhide Hq rfl
          subst hh
          cases hg : f.gl with
          | true =>
            rw [hg] at c5
            go_wp2
            go_meet
            exact ⟨rfl, K2.two⟩
          | false =>
            rw [hg] at c5
            have zs : f.sp = sp := by
              rw [hg] at hgs
              exact hgs.resolve_left (by simp)
            rw [zs] at c5
            clear zs hgs
            go_wp2
            go_meet
            exact ⟨rfl, K2.two⟩
      case rest =>
        obtain ⟨rfl, K3⟩ := hcut
        clear K2 c5 c6
        go_wp2_with fail
        refine (all_h K3.f2).mono ?_
        rintro r w9 ⟨v, rfl, h9⟩
        obtain ⟨A9, cap9, rfl, _⟩ := h9.slw.parts
        generalize (kept S 8).length = m at *
        have hm8 : decide ((8 : Int) < (m : Int)) = false := decide_eq_false (by omega)
        have hmP : decide ((P.length : Int) < (m : Int)) = false := decide_eq_false (by omega)
        by_cases hP8 : P.length ≤ 8
        · have hp8 : decide ((P.length : Int) ≤ 8) = true := decide_eq_true (by omega)
          go_wp2
          have e7 : (k : Int) + 1 = ((k + 1 : Nat) : Int) := rfl
          try rw [e7]
          refine ⟨⟨k + 1, sd, S, P, A6, cap6, ⟨by omega, by omega, unhide HKI, h9.tail.f2⟩, ?_⟩, by simp [WmuK, intOf]; omega⟩
          unfold FRK
          refine ⟨_, _, _, _, _, _, _, _, _, _, _, _, _, _, _, _, _, _, _, _, _, _, _, _, _, _, _, _, _, _, _, _, _, _, _, _, _, _, _, _, _, _, _, _, _, _, _, _, _, _, _, _, _, _, _, _, _, _, _, _, _, _, _, _, _, _, _, _, _, _, _, _, _, _, _, _, _, _, _, _, _, _, _, _, _, _, _, _, _, _, _, _, _, _, _, _, _, _, _, _, _, _, _, _, _, _, _, _, _, _, _, _, _, _, _, _, _, _, _, _, _, _, _, _, _, _, _, _, _, _, _, _, _, _, _, _, _, _, _, _, _, _, _, _, _, _, _, _, _, _, _, _, _, _, _, _, _, _, _, _, _, _, _, _, _, _, _, _, _, _, _, _, _, _, _, _, _, _, _, _, _, _, _, _, _, _, _, _, _, _, _, _, _, _, _, _, _, _, _, _, _, _, _, _, _, _, _, _, _, _, _, _, _, _, _, _, _, _, _, _, _, _, _, _, _, _, _, _, _, _, _, _, _, _, _, _, _, _, _, _, _, _, _, _, _, _, _, _, _, _, rfl⟩
        · have hp8 : decide ((P.length : Int) ≤ 8) = false := decide_eq_false (by omega)
          go_wp2
          have e7 : (k : Int) + 1 = ((k + 1 : Nat) : Int) := rfl
          try rw [e7]
          refine ⟨⟨k + 1, sd, S, P, A6, cap6, ⟨by omega, by omega, unhide HKI, h9.tail.f2⟩, ?_⟩, by simp [WmuK, intOf]; omega⟩
          unfold FRK
          refine ⟨_, _, _, _, _, _, _, _, _, _, _, _, _, _, _, _, _, _, _, _, _, _, _, _, _, _, _, _, _, _, _, _, _, _, _, _, _, _, _, _, _, _, _, _, _, _, _, _, _, _, _, _, _, _, _, _, _, _, _, _, _, _, _, _, _, _, _, _, _, _, _, _, _, _, _, _, _, _, _, _, _, _, _, _, _, _, _, _, _, _, _, _, _, _, _, _, _, _, _, _, _, _, _, _, _, _, _, _, _, _, _, _, _, _, _, _, _, _, _, _, _, _, _, _, _, _, _, _, _, _, _, _, _, _, _, _, _, _, _, _, _, _, _, _, _, _, _, _, _, _, _, _, _, _, _, _, _, _, _, _, _, _, _, _, _, _, _, _, _, _, _, _, _, _, _, _, _, _, _, _, _, _, _, _, _, _, _, _, _, _, _, _, _, _, _, _, _, _, _, _, _, _, _, _, _, _, _, _, _, _, _, _, _, _, _, _, _, _, _, _, _, _, _, _, _, _, _, _, _, _, _, _, _, _, _, _, _, _, _, _, _, _, _, _, _, _, _, _, _, _, rfl⟩
end Go.Proofs.Ytlkkmpfhhfaioaa
