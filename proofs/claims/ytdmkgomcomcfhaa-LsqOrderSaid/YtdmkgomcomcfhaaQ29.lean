/- Layer 23: LsqOrder: the pass, nothing is to be done. -/
import Derived.Test.YtdmkgomcomcfhaaQ28
namespace Go.Proofs.Ytdmkgomcomcfhaa
open Go.RowKit
variable {W : World} {Y : Nat → OpS} {P : Nat → Int} {A A2 AO : Option Addr} {n cap p cap2 capO b kw kp km kg kh : Nat}
set_option maxRecDepth 1000000 in
set_option maxHeartbeats 8000000 in
theorem case_skip (_hY : ∀ i, i < n → YOk (Y i)) (hn : n ≤ 4398046511104) (hp : p ≤ 17592186044416) (hP : PkO W A2 p P) {k : Nat} {s : PS} {wr : World} (hR : RelO W Y A A2 AO n cap p cap2 capO b kw kp km kg kh k s wr) (hk : k < p + 12 * n) {ac : Nat} (ha : actN P p s k = ac) (hsn : s.first = s.next) (hno : ¬ (ac = 0 ∧ s.next < n)) (Q0 : Exit → Act → World → Prop) (c2 c3 c9 c10 c33 c34 c35 c36 c37 c38 c39 c40 c41 c42 c43 c44 c45 c46 c47 c48 c49 c50 c51 c52 c53 c54 c55 c56 c57 c58 c59 c60 c61 c62 c63 c64 c65 c66 c67 c68 c69 c70 c71 c72 c73 c74 c75 c76 c77 c78 c79 c349 c350 c351 c352 c353 c354 c355 c356 c357 c358 u4 u18 u19 u20 u21 u22 u23 u24 u25 u26 u27 u28 u29 u30 u31 u32 u80 u81 u82 u83 u84 u85 u86 u87 u88 u89 u90 u91 u92 u93 u94 u95 u96 u97 u98 u99 u100 u101 u102 u103 u104 u105 u106 u107 u108 u109 u110 u111 u112 u113 u114 u115 u116 u117 u118 u119 u120 u121 u122 u123 u124 u125 u126 u127 u128 u129 u130 u131 u132 u133 u134 u135 u136 u137 u138 u139 u140 u141 u142 u143 u144 u145 u146 u147 u148 u149 u150 u151 u152 u153 u154 u155 u156 u157 u158 u159 u160 u161 u162 u163 u164 u165 u166 u167 u168 u169 u170 u171 u172 u173 u174 u175 u176 u177 u178 u179 u180 u181 u182 u183 u184 u185 u186 u187 u188 u189 u190 u191 u192 u193 u194 u195 u196 u197 u198 u199 u200 u201 u202 u203 u204 u205 u206 u207 u208 u209 u210 u211 u212 u213 u214 u215 u216 u217 u218 u219 u220 u221 u222 u223 u224 u225 u226 u227 u228 u229 u230 u231 u232 u233 u234 u235 u236 u237 u238 u239 u240 u241 u242 u243 u244 u245 u246 u247 u248 u249 u250 u251 u252 u253 u254 u255 u256 u257 u258 u259 u260 u261 u262 u263 u264 u265 u266 u267 u268 u269 u270 u271 u272 u273 u274 u275 u276 u277 u278 u279 u280 u281 u282 u283 u284 u285 u286 u287 u288 u289 u290 u291 u292 u293 u294 u295 u296 u297 u298 u299 u300 u301 u302 u303 u304 u305 u306 u307 u308 u309 u310 u311 u312 u313 u314 u315 u316 u317 u318 u319 u320 u321 u322 u323 u324 u325 u326 u327 u328 u329 u330 u331 u332 u333 u334 u335 u336 u337 u338 u339 u340 u341 u342 u343 u344 u345 u346 u347 u348 : Value) :
    Code.wp Try.prog bodyO (Exit.then (fun a' w'' => WIO W Y c2 c3 c9 c10 c33 c34 c35 c36 c37 c38 c39 c40 c41 c42 c43 c44 c45 c46 c47 c48 c49 c50 c51 c52 c53 c54 c55 c56 c57 c58 c59 c60 c61 c62 c63 c64 c65 c66 c67 c68 c69 c70 c71 c72 c73 c74 c75 c76 c77 c78 c79 c349 c350 c351 c352 c353 c354 c355 c356 c357 c358 A A2 AO n cap p cap2 capO b kw kp km kg kh a' w'' ∧ WmuO (p + 12 * n) a' w'' < p + 12 * n - k) Q0) ⟨#[.slice A n cap, .slice A2 p cap2, c2, c3, u4, .int .i64 (n : Int), .slice AO n capO, .slice (some ⟨kw, 0, none⟩) n n, .slice (some ⟨kp, 0, none⟩) 64 64, c9, c10, .pointer (some ⟨b, 0, none⟩), .slice (some ⟨km, 0, none⟩) 64 64, .slice (some ⟨kg, 0, none⟩) n n, .slice (some ⟨kh, 0, none⟩) n n, .int .i64 (s.first : Int), .int .i64 (s.next : Int), .int .i64 (k : Int), u18, u19, u20, u21, u22, u23, u24, u25, u26, u27, u28, u29, u30, u31, u32, c33, c34, c35, c36, c37, c38, c39, c40, c41, c42, c43, c44, c45, c46, c47, c48, c49, c50, c51, c52, c53, c54, c55, c56, c57, c58, c59, c60, c61, c62, c63, c64, c65, c66, c67, c68, c69, c70, c71, c72, c73, c74, c75, c76, c77, c78, c79, u80, u81, u82, u83, u84, u85, u86, u87, u88, u89, u90, u91, u92, u93, u94, u95, u96, u97, u98, u99, u100, u101, u102, u103, u104, u105, u106, u107, u108, u109, u110, u111, u112, u113, u114, u115, u116, u117, u118, u119, u120, u121, u122, u123, u124, u125, u126, u127, u128, u129, u130, u131, u132, u133, u134, u135, u136, u137, u138, u139, u140, u141, u142, u143, u144, u145, u146, u147, u148, u149, u150, u151, u152, u153, u154, u155, u156, u157, u158, u159, u160, u161, u162, u163, u164, u165, u166, u167, u168, u169, u170, u171, u172, u173, u174, u175, u176, u177, u178, u179, u180, u181, u182, u183, u184, u185, u186, u187, u188, u189, u190, u191, u192, u193, u194, u195, u196, u197, u198, u199, u200, u201, u202, u203, u204, u205, u206, u207, u208, u209, u210, u211, u212, u213, u214, u215, u216, u217, u218, u219, u220, u221, u222, u223, u224, u225, u226, u227, u228, u229, u230, u231, u232, u233, u234, u235, u236, u237, u238, u239, u240, u241, u242, u243, u244, u245, u246, u247, u248, u249, u250, u251, u252, u253, u254, u255, u256, u257, u258, u259, u260, u261, u262, u263, u264, u265, u266, u267, u268, u269, u270, u271, u272, u273, u274, u275, u276, u277, u278, u279, u280, u281, u282, u283, u284, u285, u286, u287, u288, u289, u290, u291, u292, u293, u294, u295, u296, u297, u298, u299, u300, u301, u302, u303, u304, u305, u306, u307, u308, u309, u310, u311, u312, u313, u314, u315, u316, u317, u318, u319, u320, u321, u322, u323, u324, u325, u326, u327, u328, u329, u330, u331, u332, u333, u334, u335, u336, u337, u338, u339, u340, u341, u342, u343, u344, u345, u346, u347, u348, c349, c350, c351, c352, c353, c354, c355, c356, c357, c358], []⟩ wr := by
  have HSN0 := hide hsn
  clear hsn
  obtain ⟨hI, hG, hkl, hJ⟩ := hR
  have hfn := hI.fn
  have hlen := hI.len
  obtain ⟨r6, hr6⟩ : ∃ r, k % 6 = r := ⟨_, rfl⟩
  have ht6 : (k : Int).tmod 6 = (r6 : Int) := by rw [Int.tmod_eq_emod_of_nonneg (by omega)]; omega
  obtain ⟨i0, hi0⟩ : ∃ i, iN P p s k = i := ⟨_, rfl⟩
  have HII := hide hI
  have HGG := hide hG
  have HR6 := hide hr6
  have HI0 := hide hi0
  have HA0 := hide ha
  have HJ := hide hJ
  clear hI hG hi0 hr6 ha hJ
  conv => arg 2; whnf
  go_upto_if 95 with fail
  go_cut [18, 19] from 80 to 348 (fun s18 s19 wx => s18 = .int .i64 (ac : Nat) ∧ s19 = .int .i64 (i0 : Nat) ∧ wx = wr)
  case first =>
    by_cases hkp : k < p
    · obtain ⟨⟨pk0, pk1⟩, hpk⟩ := hP k hkp
      obtain ⟨ab2, ao2, rfl, hc2, hab2⟩ := hpk wr (unhide HJ).below
      obtain ⟨pk, hpk2⟩ : ∃ x, P k = x := ⟨_, rfl⟩
      rw [hpk2] at pk0 pk1 hc2
      have HPK := hide hpk2
      obtain ⟨a6, ha6⟩ : ∃ x, pk % 6 = x := ⟨_, rfl⟩
      have htm : pk.tmod 6 = a6 := by rw [Int.tmod_eq_emod_of_nonneg (by omega)]; exact ha6
      have hw6 : IntKind.i64.wrap a6 = a6 := i64_in (by omega) (by omega)
      have ha6b : 0 ≤ a6 ∧ a6 < 6 := by omega
      have hac : a6 = (ac : Int) := by
        have := unhide HA0
        unfold actN at this
        rw [if_pos hkp, unhide HPK, ha6] at this
        omega
      by_cases hf : s.first < s.next
      · obtain ⟨d, hd⟩ : ∃ d : Nat, s.next - s.first = d := ⟨_, rfl⟩
        obtain ⟨x, hx⟩ : ∃ x, pk / 256 = x := ⟨_, rfl⟩
        obtain ⟨y, hy⟩ : ∃ y, x % (d : Int) = y := ⟨_, rfl⟩
        have hdd : (s.next : Int) - (s.first : Int) = (d : Int) := by omega
        have hwd : IntKind.u64.wrap (d : Int) = (d : Int) := by rw [IntKind.wrap_u64]; omega
        have hxt : x.tmod (d : Int) = y := by rw [Int.tmod_eq_emod_of_nonneg (by omega)]; exact hy
        have hd0 : ((d : Int) == 0) = false := beq_eq_false_iff_ne.2 (by omega)
        have hyb : 0 ≤ y ∧ y < (d : Int) := by rw [← hy]; exact ⟨Int.emod_nonneg _ (by omega), Int.emod_lt_of_pos _ (by omega)⟩
        have hwy : IntKind.i64.wrap y = y := i64_in (by omega) (by omega)
        have hii : (s.first : Int) + y = (i0 : Int) := by
          have := unhide HI0
          unfold iN at this
          rw [if_pos ⟨hkp, hf⟩, unhide HPK, hx, hd, hy] at this
          omega
        have HF := hide (And.intro hac hii)
        have HXY := hide (show pk / 256 % (d : Int) = y by rw [hx]; exact hy)
        clear ha6 hx hy hac hii hd
        as_aux_lemma =>
          go_wp2
          all_goals
            go_meet
            exact ⟨by rw [(unhide HF).1], by rw [unhide HXY, w64_in (x := y) (by omega) (by omega), w64_in (x := (s.first : Int) + y) (by omega) (by omega), (unhide HF).2], rfl⟩
      · have hii : s.first = i0 := by
          have := unhide HI0
          unfold iN at this
          rw [if_neg (fun h => hf h.2)] at this
          exact this
        have HF := hide (And.intro hac hii)
        clear ha6 hac hii
        as_aux_lemma =>
          go_wp2
          all_goals
            go_meet
            exact ⟨by rw [(unhide HF).1], by rw [(unhide HF).2], rfl⟩
    · have hii : s.first = i0 := by
        have := unhide HI0
        unfold iN at this
        rw [if_neg (fun h => hkp h.1)] at this
        exact this
      by_cases hf : s.first = s.next
      · have hz : ((s.first : Int) == (s.next : Int)) = true := by rw [hf]; simp
        have hac : 0 = ac := by
          have := unhide HA0
          unfold actN at this
          rw [if_neg hkp, if_pos hf] at this
          exact this
        have HF := hide (And.intro hac hii)
        clear hac hii hf
        as_aux_lemma =>
          go_wp2
          all_goals
            go_meet
            exact ⟨by rw [← (unhide HF).1]; rfl, by rw [(unhide HF).2], rfl⟩
      · have hz : ((s.first : Int) == (s.next : Int)) = false := beq_eq_false_iff_ne.2 (by omega)
        have hac : r6 = ac := by
          have := unhide HA0
          unfold actN at this
          rw [if_neg hkp, if_neg hf, unhide HR6] at this
          exact this
        have HF := hide (And.intro hac hii)
        clear hac hii hf
        as_aux_lemma =>
          go_wp2
          all_goals
            go_meet
            exact ⟨by rw [(unhide HF).1], by rw [(unhide HF).2], rfl⟩
  case rest =>
    obtain ⟨rfl, rfl, rfl⟩ := hcut
    clear ht6
    skip
    clear hP
    have hsn := unhide HSN0
    clear HSN0
    have hi1 : i0 = s.next := by
      have := unhide HI0
      unfold iN at this
      rw [if_neg (fun h => by omega)] at this
      omega
    have E17 : Hid ((k : Int) + 1 = ((k + 1 : Nat) : Int)) := hide rfl
    by_cases ha0 : ac = 0
    · have hnn : ¬ s.next < n := fun h => hno ⟨ha0, h⟩
      have hz : ((ac : Int) == 0) = true := by rw [ha0]; rfl
      have hz2 : (ac : Int) = 0 := by omega
      have HNO := hide hno
      have HSN := hide hsn
      clear hno ha0 hsn
      as_aux_lemma =>
        go_wp2
        rw [unhide E17]
        refine ⟨⟨k + 1, s, ⟨unhide HII, (unhide HGG).skip hfn (unhide HSN) (by rw [unhide HA0]; exact unhide HNO), by omega, unhide HJ⟩, ?_⟩, by simp [WmuO, intOf]; omega⟩
        unfold FRO
        refine ⟨_, _, _, _, _, _, _, _, _, _, _, _, _, _, _, _, _, _, _, _, _, _, _, _, _, _, _, _, _, _, _, _, _, _, _, _, _, _, _, _, _, _, _, _, _, _, _, _, _, _, _, _, _, _, _, _, _, _, _, _, _, _, _, _, _, _, _, _, _, _, _, _, _, _, _, _, _, _, _, _, _, _, _, _, _, _, _, _, _, _, _, _, _, _, _, _, _, _, _, _, _, _, _, _, _, _, _, _, _, _, _, _, _, _, _, _, _, _, _, _, _, _, _, _, _, _, _, _, _, _, _, _, _, _, _, _, _, _, _, _, _, _, _, _, _, _, _, _, _, _, _, _, _, _, _, _, _, _, _, _, _, _, _, _, _, _, _, _, _, _, _, _, _, _, _, _, _, _, _, _, _, _, _, _, _, _, _, _, _, _, _, _, _, _, _, _, _, _, _, _, _, _, _, _, _, _, _, _, _, _, _, _, _, _, _, _, _, _, _, _, _, _, _, _, _, _, _, _, _, _, _, _, _, _, _, _, _, _, _, _, _, _, _, _, _, _, _, _, _, _, _, _, _, _, _, _, _, _, _, _, _, _, _, _, _, _, _, _, _, _, _, _, _, _, _, _, _, _, _, _, _, _, _, _, _, rfl⟩
    · have hz : ((ac : Int) == 0) = false := beq_eq_false_iff_ne.2 (by omega)
      have hz2 : ¬ (ac : Int) = 0 := by omega
      have HNO := hide hno
      have HSN := hide hsn
      clear hno ha0 hsn
      as_aux_lemma =>
        go_wp2
        rw [unhide E17]
        refine ⟨⟨k + 1, s, ⟨unhide HII, (unhide HGG).skip hfn (unhide HSN) (by rw [unhide HA0]; exact unhide HNO), by omega, unhide HJ⟩, ?_⟩, by simp [WmuO, intOf]; omega⟩
        unfold FRO
        refine ⟨_, _, _, _, _, _, _, _, _, _, _, _, _, _, _, _, _, _, _, _, _, _, _, _, _, _, _, _, _, _, _, _, _, _, _, _, _, _, _, _, _, _, _, _, _, _, _, _, _, _, _, _, _, _, _, _, _, _, _, _, _, _, _, _, _, _, _, _, _, _, _, _, _, _, _, _, _, _, _, _, _, _, _, _, _, _, _, _, _, _, _, _, _, _, _, _, _, _, _, _, _, _, _, _, _, _, _, _, _, _, _, _, _, _, _, _, _, _, _, _, _, _, _, _, _, _, _, _, _, _, _, _, _, _, _, _, _, _, _, _, _, _, _, _, _, _, _, _, _, _, _, _, _, _, _, _, _, _, _, _, _, _, _, _, _, _, _, _, _, _, _, _, _, _, _, _, _, _, _, _, _, _, _, _, _, _, _, _, _, _, _, _, _, _, _, _, _, _, _, _, _, _, _, _, _, _, _, _, _, _, _, _, _, _, _, _, _, _, _, _, _, _, _, _, _, _, _, _, _, _, _, _, _, _, _, _, _, _, _, _, _, _, _, _, _, _, _, _, _, _, _, _, _, _, _, _, _, _, _, _, _, _, _, _, _, _, _, _, _, _, _, _, _, _, _, _, _, _, _, _, _, _, _, _, _, rfl⟩
end Go.Proofs.Ytdmkgomcomcfhaa
