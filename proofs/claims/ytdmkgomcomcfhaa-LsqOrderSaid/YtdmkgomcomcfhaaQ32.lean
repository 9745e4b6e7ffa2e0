/- Layer 23: LsqOrder: the pass, a place becomes known. -/
import Derived.Test.YtdmkgomcomcfhaaQ28
import Derived.Test.YtdmkgomcomcfhaaRegionY
namespace Go.Proofs.Ytdmkgomcomcfhaa
open Go.RowKit

theorem clr0 (has : Nat → Bool) (out : List Int) : clr has (out.take 0) = has := by funext i; unfold clr; simp
theorem ints_get {l : List Int} {j : Nat} {t : Int} (h : l[j]? = some t) : (ints l)[j]? = some (.int .i64 t) := by unfold ints; rw [List.getElem?_map, h]; rfl
theorem inc_ge {l : List Int} (hu : l.Pairwise (· < ·)) (h0 : ∀ t ∈ l, 0 ≤ t) : ∀ {j : Nat} {t : Int}, l[j]? = some t → (j : Int) ≤ t := by
  intro j
  induction j with
  | zero => intro t h; have := h0 t (List.mem_of_getElem? h); omega
  | succ j ih =>
    intro t h
    obtain ⟨l2, e2⟩ := List.getElem?_eq_some_iff.1 h
    obtain ⟨u, hu2⟩ : ∃ u, l[j]? = some u := ⟨_, List.getElem?_eq_getElem (by omega)⟩
    obtain ⟨l1, e1⟩ := List.getElem?_eq_some_iff.1 hu2
    have := List.pairwise_iff_getElem.1 hu j (j + 1) l1 l2 (by omega)
    have := ih hu2
    omega
theorem clr_has {has : Nat → Bool} {out : List Int} (hu : out.Pairwise (· < ·)) {j E : Nat} (h : out[j]? = some (E : Int)) (hh : has E = true) : clr has (out.take j) E = true := by
  unfold clr
  rw [if_neg (fun hm => ?_)]
  · exact hh
  · obtain ⟨i, hi⟩ := List.getElem?_of_mem hm
    have hil := get_lt hi
    rw [List.length_take] at hil
    rw [List.getElem?_take, if_pos (by omega)] at hi
    obtain ⟨l1, e1⟩ := List.getElem?_eq_some_iff.1 hi
    obtain ⟨l2, e2⟩ := List.getElem?_eq_some_iff.1 h
    have := List.pairwise_iff_getElem.1 hu i j l1 l2 (by omega)
    omega
theorem clr_up {has : Nat → Bool} {out : List Int} {j E : Nat} (h : out[j]? = some (E : Int)) : (fun x => if x = E then false else clr has (out.take j) x) = clr has (out.take (j + 1)) := by
  funext x
  unfold clr
  rw [take_up h]
  simp only [List.mem_append, List.mem_singleton]
  by_cases hx : x = E
  · subst hx; simp
  · rw [if_neg hx]
    have : ¬ (x : Int) = (E : Int) := by omega
    simp [this]
variable {W : World} {Y : Nat → OpS} {P : Nat → Int} {A A2 AO : Option Addr} {n cap p cap2 capO b kw kp km kg kh : Nat}
set_option maxRecDepth 1000000 in
set_option maxHeartbeats 8000000 in
theorem case_where (hY : ∀ i, i < n → YOk (Y i)) (hn : n ≤ 4398046511104) (hp : p ≤ 17592186044416) (hP : PkO W A2 p P) {k : Nat} {s : PS} {wr : World} (hR : RelO W Y A A2 AO n cap p cap2 capO b kw kp km kg kh k s wr) (hk : k < p + 12 * n) {ac : Nat} (ha : actN P p s k = ac) (hac0 : ac = 1) (hlt : s.first < s.next) (Q0 : Exit → Act → World → Prop) (c2 c3 c9 c10 c33 c34 c35 c36 c37 c38 c39 c40 c41 c42 c43 c44 c45 c46 c47 c48 c49 c50 c51 c52 c53 c54 c55 c56 c57 c58 c59 c60 c61 c62 c63 c64 c65 c66 c67 c68 c69 c70 c71 c72 c73 c74 c75 c76 c77 c78 c79 c349 c350 c351 c352 c353 c354 c355 c356 c357 c358 u4 u18 u19 u20 u21 u22 u23 u24 u25 u26 u27 u28 u29 u30 u31 u32 u80 u81 u82 u83 u84 u85 u86 u87 u88 u89 u90 u91 u92 u93 u94 u95 u96 u97 u98 u99 u100 u101 u102 u103 u104 u105 u106 u107 u108 u109 u110 u111 u112 u113 u114 u115 u116 u117 u118 u119 u120 u121 u122 u123 u124 u125 u126 u127 u128 u129 u130 u131 u132 u133 u134 u135 u136 u137 u138 u139 u140 u141 u142 u143 u144 u145 u146 u147 u148 u149 u150 u151 u152 u153 u154 u155 u156 u157 u158 u159 u160 u161 u162 u163 u164 u165 u166 u167 u168 u169 u170 u171 u172 u173 u174 u175 u176 u177 u178 u179 u180 u181 u182 u183 u184 u185 u186 u187 u188 u189 u190 u191 u192 u193 u194 u195 u196 u197 u198 u199 u200 u201 u202 u203 u204 u205 u206 u207 u208 u209 u210 u211 u212 u213 u214 u215 u216 u217 u218 u219 u220 u221 u222 u223 u224 u225 u226 u227 u228 u229 u230 u231 u232 u233 u234 u235 u236 u237 u238 u239 u240 u241 u242 u243 u244 u245 u246 u247 u248 u249 u250 u251 u252 u253 u254 u255 u256 u257 u258 u259 u260 u261 u262 u263 u264 u265 u266 u267 u268 u269 u270 u271 u272 u273 u274 u275 u276 u277 u278 u279 u280 u281 u282 u283 u284 u285 u286 u287 u288 u289 u290 u291 u292 u293 u294 u295 u296 u297 u298 u299 u300 u301 u302 u303 u304 u305 u306 u307 u308 u309 u310 u311 u312 u313 u314 u315 u316 u317 u318 u319 u320 u321 u322 u323 u324 u325 u326 u327 u328 u329 u330 u331 u332 u333 u334 u335 u336 u337 u338 u339 u340 u341 u342 u343 u344 u345 u346 u347 u348 : Value) :
    Code.wp Try.prog bodyO (Exit.then (fun a' w'' => WIO W Y c2 c3 c9 c10 c33 c34 c35 c36 c37 c38 c39 c40 c41 c42 c43 c44 c45 c46 c47 c48 c49 c50 c51 c52 c53 c54 c55 c56 c57 c58 c59 c60 c61 c62 c63 c64 c65 c66 c67 c68 c69 c70 c71 c72 c73 c74 c75 c76 c77 c78 c79 c349 c350 c351 c352 c353 c354 c355 c356 c357 c358 A A2 AO n cap p cap2 capO b kw kp km kg kh a' w'' ∧ WmuO (p + 12 * n) a' w'' < p + 12 * n - k) Q0) ⟨#[.slice A n cap, .slice A2 p cap2, c2, c3, u4, .int .i64 (n : Int), .slice AO n capO, .slice (some ⟨kw, 0, none⟩) n n, .slice (some ⟨kp, 0, none⟩) 64 64, c9, c10, .pointer (some ⟨b, 0, none⟩), .slice (some ⟨km, 0, none⟩) 64 64, .slice (some ⟨kg, 0, none⟩) n n, .slice (some ⟨kh, 0, none⟩) n n, .int .i64 (s.first : Int), .int .i64 (s.next : Int), .int .i64 (k : Int), u18, u19, u20, u21, u22, u23, u24, u25, u26, u27, u28, u29, u30, u31, u32, c33, c34, c35, c36, c37, c38, c39, c40, c41, c42, c43, c44, c45, c46, c47, c48, c49, c50, c51, c52, c53, c54, c55, c56, c57, c58, c59, c60, c61, c62, c63, c64, c65, c66, c67, c68, c69, c70, c71, c72, c73, c74, c75, c76, c77, c78, c79, u80, u81, u82, u83, u84, u85, u86, u87, u88, u89, u90, u91, u92, u93, u94, u95, u96, u97, u98, u99, u100, u101, u102, u103, u104, u105, u106, u107, u108, u109, u110, u111, u112, u113, u114, u115, u116, u117, u118, u119, u120, u121, u122, u123, u124, u125, u126, u127, u128, u129, u130, u131, u132, u133, u134, u135, u136, u137, u138, u139, u140, u141, u142, u143, u144, u145, u146, u147, u148, u149, u150, u151, u152, u153, u154, u155, u156, u157, u158, u159, u160, u161, u162, u163, u164, u165, u166, u167, u168, u169, u170, u171, u172, u173, u174, u175, u176, u177, u178, u179, u180, u181, u182, u183, u184, u185, u186, u187, u188, u189, u190, u191, u192, u193, u194, u195, u196, u197, u198, u199, u200, u201, u202, u203, u204, u205, u206, u207, u208, u209, u210, u211, u212, u213, u214, u215, u216, u217, u218, u219, u220, u221, u222, u223, u224, u225, u226, u227, u228, u229, u230, u231, u232, u233, u234, u235, u236, u237, u238, u239, u240, u241, u242, u243, u244, u245, u246, u247, u248, u249, u250, u251, u252, u253, u254, u255, u256, u257, u258, u259, u260, u261, u262, u263, u264, u265, u266, u267, u268, u269, u270, u271, u272, u273, u274, u275, u276, u277, u278, u279, u280, u281, u282, u283, u284, u285, u286, u287, u288, u289, u290, u291, u292, u293, u294, u295, u296, u297, u298, u299, u300, u301, u302, u303, u304, u305, u306, u307, u308, u309, u310, u311, u312, u313, u314, u315, u316, u317, u318, u319, u320, u321, u322, u323, u324, u325, u326, u327, u328, u329, u330, u331, u332, u333, u334, u335, u336, u337, u338, u339, u340, u341, u342, u343, u344, u345, u346, u347, u348, c349, c350, c351, c352, c353, c354, c355, c356, c357, c358], []⟩ wr := by
  have HLT := hide hlt
  clear hlt
  obtain ⟨hI, hG, hkl, hJ⟩ := hR
  have hfn := hI.fn
  have hlen := hI.len
  obtain ⟨r6, hr6⟩ : ∃ r, k % 6 = r := ⟨_, rfl⟩
  have ht6 : (k : Int).tmod 6 = (r6 : Int) := by rw [Int.tmod_eq_emod_of_nonneg (by omega)]; omega
  obtain ⟨i0, hi0⟩ : ∃ i, iN P p s k = i := ⟨_, rfl⟩
  have HII := hide hI
  have HGG := hide hG
  have HR6 := hide hr6
  have HI0 := hide hi0
  have HA0 := hide ha
  have HJ := hide hJ
  clear hI hG hi0 hr6 ha hJ
  conv => arg 2; whnf
  go_upto_if 95 with fail
  go_cut [18, 19] from 80 to 348 (fun s18 s19 wx => s18 = .int .i64 (ac : Nat) ∧ s19 = .int .i64 (i0 : Nat) ∧ wx = wr)
  case first =>
    by_cases hkp : k < p
    · obtain ⟨⟨pk0, pk1⟩, hpk⟩ := hP k hkp
      obtain ⟨ab2, ao2, rfl, hc2, hab2⟩ := hpk wr (unhide HJ).below
      obtain ⟨pk, hpk2⟩ : ∃ x, P k = x := ⟨_, rfl⟩
      rw [hpk2] at pk0 pk1 hc2
      have HPK := hide hpk2
      obtain ⟨a6, ha6⟩ : ∃ x, pk % 6 = x := ⟨_, rfl⟩
      have htm : pk.tmod 6 = a6 := by rw [Int.tmod_eq_emod_of_nonneg (by omega)]; exact ha6
      have hw6 : IntKind.i64.wrap a6 = a6 := i64_in (by omega) (by omega)
      have ha6b : 0 ≤ a6 ∧ a6 < 6 := by omega
      have hac : a6 = (ac : Int) := by
        have := unhide HA0
        unfold actN at this
        rw [if_pos hkp, unhide HPK, ha6] at this
        omega
      by_cases hf : s.first < s.next
      · obtain ⟨d, hd⟩ : ∃ d : Nat, s.next - s.first = d := ⟨_, rfl⟩
        obtain ⟨x, hx⟩ : ∃ x, pk / 256 = x := ⟨_, rfl⟩
        obtain ⟨y, hy⟩ : ∃ y, x % (d : Int) = y := ⟨_, rfl⟩
        have hdd : (s.next : Int) - (s.first : Int) = (d : Int) := by omega
        have hwd : IntKind.u64.wrap (d : Int) = (d : Int) := by rw [IntKind.wrap_u64]; omega
        have hxt : x.tmod (d : Int) = y := by rw [Int.tmod_eq_emod_of_nonneg (by omega)]; exact hy
        have hd0 : ((d : Int) == 0) = false := beq_eq_false_iff_ne.2 (by omega)
        have hyb : 0 ≤ y ∧ y < (d : Int) := by rw [← hy]; exact ⟨Int.emod_nonneg _ (by omega), Int.emod_lt_of_pos _ (by omega)⟩
        have hwy : IntKind.i64.wrap y = y := i64_in (by omega) (by omega)
        have hii : (s.first : Int) + y = (i0 : Int) := by
          have := unhide HI0
          unfold iN at this
          rw [if_pos ⟨hkp, hf⟩, unhide HPK, hx, hd, hy] at this
          omega
        have HF := hide (And.intro hac hii)
        have HXY := hide (show pk / 256 % (d : Int) = y by rw [hx]; exact hy)
        clear ha6 hx hy hac hii hd
        as_aux_lemma =>
          go_wp2
          all_goals
            go_meet
            exact ⟨by rw [(unhide HF).1], by rw [unhide HXY, w64_in (x := y) (by omega) (by omega), w64_in (x := (s.first : Int) + y) (by omega) (by omega), (unhide HF).2], rfl⟩
      · have hii : s.first = i0 := by
          have := unhide HI0
          unfold iN at this
          rw [if_neg (fun h => hf h.2)] at this
          exact this
        have HF := hide (And.intro hac hii)
        clear ha6 hac hii
        as_aux_lemma =>
          go_wp2
          all_goals
            go_meet
            exact ⟨by rw [(unhide HF).1], by rw [(unhide HF).2], rfl⟩
    · have hii : s.first = i0 := by
        have := unhide HI0
        unfold iN at this
        rw [if_neg (fun h => hkp h.1)] at this
        exact this
      by_cases hf : s.first = s.next
      · have hz : ((s.first : Int) == (s.next : Int)) = true := by rw [hf]; simp
        have hac : 0 = ac := by
          have := unhide HA0
          unfold actN at this
          rw [if_neg hkp, if_pos hf] at this
          exact this
        have HF := hide (And.intro hac hii)
        clear hac hii hf
        as_aux_lemma =>
          go_wp2
          all_goals
            go_meet
            exact ⟨by rw [← (unhide HF).1]; rfl, by rw [(unhide HF).2], rfl⟩
      · have hz : ((s.first : Int) == (s.next : Int)) = false := beq_eq_false_iff_ne.2 (by omega)
        have hac : r6 = ac := by
          have := unhide HA0
          unfold actN at this
          rw [if_neg hkp, if_neg hf, unhide HR6] at this
          exact this
        have HF := hide (And.intro hac hii)
        clear hac hii hf
        as_aux_lemma =>
          go_wp2
          all_goals
            go_meet
            exact ⟨by rw [(unhide HF).1], by rw [(unhide HF).2], rfl⟩
  case rest =>
    obtain ⟨rfl, rfl, rfl⟩ := hcut
    clear ht6
    rw [hac0] at HA0 ⊢
    clear hac0
    rw [show ((1 : Nat) : Int) = 1 from rfl]
    clear hP
    have hlt := unhide HLT
    clear HLT
    have hi1 := unhide HI0
    have hge := iN_ge P p s k
    have hlt2 := iN_lt (P := P) (p := p) (k := k) hlt
    rw [hi1] at hge hlt2
    obtain ⟨kk, hkk⟩ : ∃ kk, i0 = s.first + kk := ⟨i0 - s.first, by omega⟩
    obtain ⟨e, he⟩ : ∃ e, s.q.l[kk]? = some e := ⟨_, List.getElem?_eq_getElem (by omega)⟩
    have hin : i0 < n := by omega
    have HY0 := hide (hY i0 hin)
    have hib : -9223372036854775808 ≤ (i0 : Int) ∧ (i0 : Int) < 9223372036854775808 := by omega
    have HIB := hide hib
    have HKK := hide hkk
    have HE := hide he
    have e17 : (k : Int) + 1 = ((k + 1 : Nat) : Int) := rfl
    have E17 := hide e17
    obtain ⟨go, oo, co, hv, _⟩ := (unhide HJ).f2.slw.addr (by omega)
    injection hv with hv _ hv2
    subst hv hv2
    obtain ⟨c0, c1, c2, c3, c4, hol⟩ := ops_cells (unhide HJ).f2.slw hin
    clear hi1 hib hkk he e17
    have hQI := (unhide HJ).qI
    have D := (unhide HII).where hQI hY (k := kk) (get_lt (unhide HE))
    rw [← unhide HKK] at D
    have y0 := (unhide HY0).a0
    have y1 := (unhide HY0).a1
    have hyz : 0 < (Y i0).size ∧ (Y i0).size ≤ 8 := by rcases (unhide HY0).sz with h | h | h | h <;> omega
    obtain ⟨R, hR⟩ : ∃ R, whereQ s.q (i0 : Int) (4096 + (Y i0).at_) (Y i0).size = R := ⟨_, rfl⟩
    rw [hR] at D
    have D := hide D
    have hw1 : IntKind.u64.wrap (Y i0).at_ = (Y i0).at_ := by rw [IntKind.wrap_u64]; omega
    have hw2 : IntKind.u64.wrap (4096 + (Y i0).at_) = 4096 + (Y i0).at_ := by rw [IntKind.wrap_u64]; omega
    have hW : ∀ w_, Heap W w_ [HP.q b (s.q), HP.slw (.slice (some ⟨go, oo, none⟩) n capO) 5 n (opsC Y n), HP.slw (.slice (some ⟨kw, 0, none⟩) n n) 1 n (u64s n (wantF Y)), HP.slw (.slice (some ⟨kp, 0, none⟩) 64 64) 1 64 (bytes 64 (memP Y n)), HP.slw (.slice (some ⟨km, 0, none⟩) 64 64) 1 64 (bytes 64 (s.m)), HP.slw (.slice (some ⟨kg, 0, none⟩) n n) 1 n (u64s n (s.got)), HP.slw (.slice (some ⟨kh, 0, none⟩) n n) 1 n (bls n (s.has))] → Calls Try.prog 15 #[.pointer (some ⟨b, 0, none⟩), .int .i64 (i0 : Int), .int .u64 (IntKind.u64.wrap (4096 + IntKind.u64.wrap (Y i0).at_)), .int .i64 (Y i0).size] w_ fun e w' => ∃ v1, e = .returned (.tuple #[v1, .bool R.1.2]) ∧ Heap W w' (HP.slw (v1) 1 R.1.1.length (ints R.1.1) :: HP.q b R.2 :: [HP.slw (.slice (some ⟨go, oo, none⟩) n capO) 5 n (opsC Y n), HP.slw (.slice (some ⟨kw, 0, none⟩) n n) 1 n (u64s n (wantF Y)), HP.slw (.slice (some ⟨kp, 0, none⟩) 64 64) 1 64 (bytes 64 (memP Y n)), HP.slw (.slice (some ⟨km, 0, none⟩) 64 64) 1 64 (bytes 64 s.m), HP.slw (.slice (some ⟨kg, 0, none⟩) n n) 1 n (u64s n s.got), HP.slw (.slice (some ⟨kh, 0, none⟩) n n) 1 n (bls n s.has)]) := by
      intro w_ h
      rw [hw1, hw2]
      have := where_h h (i0 : Int) (4096 + (Y i0).at_) (Y i0).size ⟨by omega, by omega⟩
      rw [hR] at this
      exact this
    clear hR hw1 hw2 y0 y1 hyz hQI
    go_upto_region 53 with fail
    clear c0 c1 c2 c3 c4
    refine wp_region_YE 14 (fun fl_ w_ => Sl w_ 5 (.slice (some ⟨go, oo, none⟩) n capO) n (opsC Y n) ∧ (fl_ = false → Heap W w_ [HP.q b (s.q), HP.slw (.slice (some ⟨go, oo, none⟩) n capO) 5 n (opsC Y n), HP.slw (.slice (some ⟨kw, 0, none⟩) n n) 1 n (u64s n (wantF Y)), HP.slw (.slice (some ⟨kp, 0, none⟩) 64 64) 1 64 (bytes 64 (memP Y n)), HP.slw (.slice (some ⟨km, 0, none⟩) 64 64) 1 64 (bytes 64 (s.m)), HP.slw (.slice (some ⟨kg, 0, none⟩) n n) 1 n (u64s n (s.got)), HP.slw (.slice (some ⟨kh, 0, none⟩) n n) 1 n (bls n (s.has))])) (fun i_ x_ y_ => i_ = 14 ∨ y_ = x_) (fun k_ v_ w_ => match k_ with
        | 0 => v_ = .pointer (some ⟨b, 0, none⟩)
        | 1 => v_ = .int .i64 (i0 : Int)
        | 2 => v_ = .slice (some ⟨go, oo, none⟩) n capO
        | 3 => v_ = .int .i64 (i0 : Int)
        | 4 => v_ = .pointer (some ⟨go, oo + i0 * 5, none⟩)
        | 5 => v_ = .pointer (some ⟨go, oo + i0 * 5 + 1, none⟩)
        | 6 => v_ = .int .i64 (Y i0).at_
        | 7 => v_ = .int .u64 (IntKind.u64.wrap (Y i0).at_)
        | 8 => v_ = .int .u64 (IntKind.u64.wrap (4096 + IntKind.u64.wrap (Y i0).at_))
        | 9 => v_ = .slice (some ⟨go, oo, none⟩) n capO
        | 10 => v_ = .int .i64 (i0 : Int)
        | 11 => v_ = .pointer (some ⟨go, oo + i0 * 5, none⟩)
        | 12 => v_ = .pointer (some ⟨go, oo + i0 * 5 + 2, none⟩)
        | 13 => v_ = .int .i64 (Y i0).size
        | 14 => ∃ v1, v_ = .tuple #[v1, .bool R.1.2] ∧ Heap W w_ (HP.slw (v1) 1 R.1.1.length (ints R.1.1) :: HP.q b R.2 :: [HP.slw (.slice (some ⟨go, oo, none⟩) n capO) 5 n (opsC Y n), HP.slw (.slice (some ⟨kw, 0, none⟩) n n) 1 n (u64s n (wantF Y)), HP.slw (.slice (some ⟨kp, 0, none⟩) 64 64) 1 64 (bytes 64 (memP Y n)), HP.slw (.slice (some ⟨km, 0, none⟩) 64 64) 1 64 (bytes 64 s.m), HP.slw (.slice (some ⟨kg, 0, none⟩) n n) 1 n (u64s n s.got), HP.slw (.slice (some ⟨kh, 0, none⟩) n n) 1 n (bls n s.has)])
        | 15 => ∃ v1, v_ = .tuple #[v1, .bool R.1.2] ∧ Heap W w_ (HP.slw (v1) 1 R.1.1.length (ints R.1.1) :: HP.q b R.2 :: [HP.slw (.slice (some ⟨go, oo, none⟩) n capO) 5 n (opsC Y n), HP.slw (.slice (some ⟨kw, 0, none⟩) n n) 1 n (u64s n (wantF Y)), HP.slw (.slice (some ⟨kp, 0, none⟩) 64 64) 1 64 (bytes 64 (memP Y n)), HP.slw (.slice (some ⟨km, 0, none⟩) 64 64) 1 64 (bytes 64 s.m), HP.slw (.slice (some ⟨kg, 0, none⟩) n n) 1 n (u64s n s.got), HP.slw (.slice (some ⟨kh, 0, none⟩) n n) 1 n (bls n s.has)])
        | 16 => Heap W w_ (HP.slw (v_) 1 R.1.1.length (ints R.1.1) :: HP.q b R.2 :: [HP.slw (.slice (some ⟨go, oo, none⟩) n capO) 5 n (opsC Y n), HP.slw (.slice (some ⟨kw, 0, none⟩) n n) 1 n (u64s n (wantF Y)), HP.slw (.slice (some ⟨kp, 0, none⟩) 64 64) 1 64 (bytes 64 (memP Y n)), HP.slw (.slice (some ⟨km, 0, none⟩) 64 64) 1 64 (bytes 64 s.m), HP.slw (.slice (some ⟨kg, 0, none⟩) n n) 1 n (u64s n s.got), HP.slw (.slice (some ⟨kh, 0, none⟩) n n) 1 n (bls n s.has)])
        | 17 => v_ = .bool R.1.2
        | 18 => Heap W w_ (HP.slw (v_) 1 R.1.1.length (ints R.1.1) :: HP.q b R.2 :: [HP.slw (.slice (some ⟨go, oo, none⟩) n capO) 5 n (opsC Y n), HP.slw (.slice (some ⟨kw, 0, none⟩) n n) 1 n (u64s n (wantF Y)), HP.slw (.slice (some ⟨kp, 0, none⟩) 64 64) 1 64 (bytes 64 (memP Y n)), HP.slw (.slice (some ⟨km, 0, none⟩) 64 64) 1 64 (bytes 64 s.m), HP.slw (.slice (some ⟨kg, 0, none⟩) n n) 1 n (u64s n s.got), HP.slw (.slice (some ⟨kh, 0, none⟩) n n) 1 n (bls n s.has)])
        | _ => True) fol (by kernel_rfl) ?_ ?_ (by decide) (n := 19) rfl rfl rfl (by kernel_rfl) ?_ ?_
    · exact ⟨(Heap.drew (unhide HJ)).f2.slw, fun _ => Heap.drew (unhide HJ)⟩
    · intro S i_ k_ v_ w_ w2_ hne hSi hSk hcl h1 hg
      rcases hg with rfl | rfl
      · split at h1
        · exact h1
        · exact h1
        · exact h1
        · exact h1
        · exact h1
        · exact h1
        · exact h1
        · exact h1
        · exact h1
        · exact h1
        · exact h1
        · exact h1
        · exact h1
        · exact h1
        · exact absurd rfl hne
        · exact absurd (hcl 15 _ rfl hSk 14 (by kernel_rfl)) (by rw [hSi]; decide)
        · exact absurd (hcl 15 _ rfl (hcl 16 _ rfl hSk 15 (by kernel_rfl)) 14 (by kernel_rfl)) (by rw [hSi]; decide)
        · exact h1
        · exact absurd (hcl 15 _ rfl (hcl 16 _ rfl (hcl 18 _ rfl hSk 16 (by kernel_rfl)) 15 (by kernel_rfl)) 14 (by kernel_rfl)) (by rw [hSi]; decide)
        · trivial
      · exact h1
    · intro vals
      show wpX _ _ _ _ _ _ _ 0 (_ :: _) _
      refine wpX_cons (xval (.pointer (some ⟨b, 0, none⟩)) (fun _ => .inr rfl) (by decide) fun fl_ w_ hJ hd => ?_) ?_
      · exact ⟨by kernel_rfl, by kernel_rfl, rfl⟩
      refine wpX_cons (xval (.int .i64 (i0 : Int)) (fun _ => .inr rfl) (by decide) fun fl_ w_ hJ hd => ?_) ?_
      · exact ⟨by kernel_rfl, by kernel_rfl, rfl⟩
      refine wpX_cons (xval (.slice (some ⟨go, oo, none⟩) n capO) (fun _ => .inr rfl) (by decide) fun fl_ w_ hJ hd => ?_) ?_
      · exact ⟨by kernel_rfl, by kernel_rfl, rfl⟩
      refine wpX_cons (xval (.int .i64 (i0 : Int)) (fun _ => .inr rfl) (by decide) fun fl_ w_ hJ hd => ?_) ?_
      · exact ⟨by kernel_rfl, by kernel_rfl, rfl⟩
      refine wpX_cons (xop (Instr.indexAt 50 (.slice (some ⟨go, oo, none⟩) n capO) (.int .i64 (i0 : Nat))) (.pointer (some ⟨go, oo + i0 * 5, none⟩)) (fun _ => .inr rfl) (by decide) fun fl_ w_ hJ hd => ?_) ?_
      · have e2 : vals 2 = _ := hd 2 (by decide) (by kernel_rfl)
        have e3 : vals 3 = _ := hd 3 (by decide) (by kernel_rfl)
        rw [e2, e3]
        exact ⟨by kernel_rfl, by kernel_rfl, (run_ixat 50 54 5 Try.underlying50 (by kernel_rfl) _ _ _ _ _ hin w_), rfl⟩
      refine wpX_cons (xval (.pointer (some ⟨go, oo + i0 * 5 + 1, none⟩)) (fun _ => .inr rfl) (by decide) fun fl_ w_ hJ hd => ?_) ?_
      · have e4 : vals 4 = _ := hd 4 (by decide) (by kernel_rfl)
        rw [e4]
        exact ⟨by kernel_rfl, by kernel_rfl, rfl⟩
      refine wpX_cons (xop (Instr.loadAt 3 (.pointer (some ⟨go, oo + i0 * 5 + 1, none⟩))) (.int .i64 (Y i0).at_) (fun _ => .inr rfl) (by decide) fun fl_ w_ hJ hd => ?_) ?_
      · have e5 : vals 5 = _ := hd 5 (by decide) (by kernel_rfl)
        rw [e5]
        exact ⟨by kernel_rfl, by kernel_rfl, run_load1 (by kernel_rfl) (ops_cells hJ.1 hin).2.1, rfl⟩
      refine wpX_cons (xval (.int .u64 (IntKind.u64.wrap (Y i0).at_)) (fun _ => .inr rfl) (by decide) fun fl_ w_ hJ hd => ?_) ?_
      · have e6 : vals 6 = _ := hd 6 (by decide) (by kernel_rfl)
        rw [e6]
        exact ⟨by kernel_rfl, by kernel_rfl, rfl⟩
      refine wpX_cons (xval (.int .u64 (IntKind.u64.wrap (4096 + IntKind.u64.wrap (Y i0).at_))) (fun _ => .inr rfl) (by decide) fun fl_ w_ hJ hd => ?_) ?_
      · have e7 : vals 7 = _ := hd 7 (by decide) (by kernel_rfl)
        rw [e7]
        exact ⟨by kernel_rfl, by kernel_rfl, rfl⟩
      refine wpX_cons (xval (.slice (some ⟨go, oo, none⟩) n capO) (fun _ => .inr rfl) (by decide) fun fl_ w_ hJ hd => ?_) ?_
      · exact ⟨by kernel_rfl, by kernel_rfl, rfl⟩
      refine wpX_cons (xval (.int .i64 (i0 : Int)) (fun _ => .inr rfl) (by decide) fun fl_ w_ hJ hd => ?_) ?_
      · exact ⟨by kernel_rfl, by kernel_rfl, rfl⟩
      refine wpX_cons (xop (Instr.indexAt 50 (.slice (some ⟨go, oo, none⟩) n capO) (.int .i64 (i0 : Nat))) (.pointer (some ⟨go, oo + i0 * 5, none⟩)) (fun _ => .inr rfl) (by decide) fun fl_ w_ hJ hd => ?_) ?_
      · have e9 : vals 9 = _ := hd 9 (by decide) (by kernel_rfl)
        have e10 : vals 10 = _ := hd 10 (by decide) (by kernel_rfl)
        rw [e9, e10]
        exact ⟨by kernel_rfl, by kernel_rfl, (run_ixat 50 54 5 Try.underlying50 (by kernel_rfl) _ _ _ _ _ hin w_), rfl⟩
      refine wpX_cons (xval (.pointer (some ⟨go, oo + i0 * 5 + 2, none⟩)) (fun _ => .inr rfl) (by decide) fun fl_ w_ hJ hd => ?_) ?_
      · have e11 : vals 11 = _ := hd 11 (by decide) (by kernel_rfl)
        rw [e11]
        exact ⟨by kernel_rfl, by kernel_rfl, rfl⟩
      refine wpX_cons (xop (Instr.loadAt 3 (.pointer (some ⟨go, oo + i0 * 5 + 2, none⟩))) (.int .i64 (Y i0).size) (fun _ => .inr rfl) (by decide) fun fl_ w_ hJ hd => ?_) ?_
      · have e12 : vals 12 = _ := hd 12 (by decide) (by kernel_rfl)
        rw [e12]
        exact ⟨by kernel_rfl, by kernel_rfl, run_load1 (by kernel_rfl) (ops_cells hJ.1 hin).2.2.1, rfl⟩
      refine wpX_cons (xcall rfl 15 #[.pointer (some ⟨b, 0, none⟩), .int .i64 (i0 : Int), .int .u64 (IntKind.u64.wrap (4096 + IntKind.u64.wrap (Y i0).at_)), .int .i64 (Y i0).size] fun w_ hJ hd => ?_) ?_
      · have e0 : vals 0 = _ := hd 0 (by decide) (by kernel_rfl)
        have e1 : vals 1 = _ := hd 1 (by decide) (by kernel_rfl)
        have e8 : vals 8 = _ := hd 8 (by decide) (by kernel_rfl)
        have e13 : vals 13 = _ := hd 13 (by decide) (by kernel_rfl)
        rw [e0, e1, e8, e13]
        exact ⟨by kernel_rfl, by kernel_rfl, (hW w_ (hJ.2 rfl)).mono fun e w' ⟨v1, hr, hh⟩ => ⟨_, hr, ⟨(Heap.nth hh 2 rfl).slw, fun h => by cases h⟩, .inl rfl, v1, rfl, hh⟩⟩
      refine wpX_cons (xval (vals 14) (fun _ => .inr rfl) (by decide) fun fl_ w_ hJ hd => ?_) ?_
      · have e14 : ∃ v1, vals 14 = .tuple #[v1, .bool R.1.2] ∧ Heap W w_ (HP.slw (v1) 1 R.1.1.length (ints R.1.1) :: HP.q b R.2 :: [HP.slw (.slice (some ⟨go, oo, none⟩) n capO) 5 n (opsC Y n), HP.slw (.slice (some ⟨kw, 0, none⟩) n n) 1 n (u64s n (wantF Y)), HP.slw (.slice (some ⟨kp, 0, none⟩) 64 64) 1 64 (bytes 64 (memP Y n)), HP.slw (.slice (some ⟨km, 0, none⟩) 64 64) 1 64 (bytes 64 s.m), HP.slw (.slice (some ⟨kg, 0, none⟩) n n) 1 n (u64s n s.got), HP.slw (.slice (some ⟨kh, 0, none⟩) n n) 1 n (bls n s.has)]) := hd 14 (by decide) (by kernel_rfl)
        exact ⟨by kernel_rfl, by kernel_rfl, e14⟩
      refine wpX_cons (xmake (by decide) fun fl_ w_ hJ hd => ?_) ?_
      · have e15 : ∃ v1, vals 15 = .tuple #[v1, .bool R.1.2] ∧ Heap W w_ (HP.slw (v1) 1 R.1.1.length (ints R.1.1) :: HP.q b R.2 :: [HP.slw (.slice (some ⟨go, oo, none⟩) n capO) 5 n (opsC Y n), HP.slw (.slice (some ⟨kw, 0, none⟩) n n) 1 n (u64s n (wantF Y)), HP.slw (.slice (some ⟨kp, 0, none⟩) 64 64) 1 64 (bytes 64 (memP Y n)), HP.slw (.slice (some ⟨km, 0, none⟩) 64 64) 1 64 (bytes 64 s.m), HP.slw (.slice (some ⟨kg, 0, none⟩) n n) 1 n (u64s n s.got), HP.slw (.slice (some ⟨kh, 0, none⟩) n n) 1 n (bls n s.has)]) := hd 15 (by decide) (by kernel_rfl)
        obtain ⟨v1, e_, h_⟩ := e15
        rw [e_]
        exact ⟨by kernel_rfl, v1, w_, by kernel_rfl, hJ, .inr rfl, h_⟩
      refine wpX_cons (xmake (by decide) fun fl_ w_ hJ hd => ?_) ?_
      · have e15 : ∃ v1, vals 15 = .tuple #[v1, .bool R.1.2] ∧ Heap W w_ (HP.slw (v1) 1 R.1.1.length (ints R.1.1) :: HP.q b R.2 :: [HP.slw (.slice (some ⟨go, oo, none⟩) n capO) 5 n (opsC Y n), HP.slw (.slice (some ⟨kw, 0, none⟩) n n) 1 n (u64s n (wantF Y)), HP.slw (.slice (some ⟨kp, 0, none⟩) 64 64) 1 64 (bytes 64 (memP Y n)), HP.slw (.slice (some ⟨km, 0, none⟩) 64 64) 1 64 (bytes 64 s.m), HP.slw (.slice (some ⟨kg, 0, none⟩) n n) 1 n (u64s n s.got), HP.slw (.slice (some ⟨kh, 0, none⟩) n n) 1 n (bls n s.has)]) := hd 15 (by decide) (by kernel_rfl)
        obtain ⟨v1, e_, h_⟩ := e15
        rw [e_]
        exact ⟨by kernel_rfl, .bool R.1.2, w_, by kernel_rfl, hJ, .inr rfl, rfl⟩
      refine wpX_cons (xval (vals 16) (fun _ => .inr rfl) (by decide) fun fl_ w_ hJ hd => ?_) wpX_nil
      · have e16 : Heap W w_ (HP.slw (vals 16) 1 R.1.1.length (ints R.1.1) :: HP.q b R.2 :: [HP.slw (.slice (some ⟨go, oo, none⟩) n capO) 5 n (opsC Y n), HP.slw (.slice (some ⟨kw, 0, none⟩) n n) 1 n (u64s n (wantF Y)), HP.slw (.slice (some ⟨kp, 0, none⟩) 64 64) 1 64 (bytes 64 (memP Y n)), HP.slw (.slice (some ⟨km, 0, none⟩) 64 64) 1 64 (bytes 64 s.m), HP.slw (.slice (some ⟨kg, 0, none⟩) n n) 1 n (u64s n s.got), HP.slw (.slice (some ⟨kh, 0, none⟩) n n) 1 n (bls n s.has)]) := hd 16 (by decide) (by kernel_rfl)
        exact ⟨by kernel_rfl, by kernel_rfl, e16⟩
    · intro vals w_ hJ hf
      have e0 : vals 0 = _ := hf 0 (by decide)
      have e1 : vals 1 = _ := hf 1 (by decide)
      have e2 : vals 2 = _ := hf 2 (by decide)
      have e3 : vals 3 = _ := hf 3 (by decide)
      have e4 : vals 4 = _ := hf 4 (by decide)
      have e5 : vals 5 = _ := hf 5 (by decide)
      have e6 : vals 6 = _ := hf 6 (by decide)
      have e7 : vals 7 = _ := hf 7 (by decide)
      have e8 : vals 8 = _ := hf 8 (by decide)
      have e9 : vals 9 = _ := hf 9 (by decide)
      have e10 : vals 10 = _ := hf 10 (by decide)
      have e11 : vals 11 = _ := hf 11 (by decide)
      have e12 : vals 12 = _ := hf 12 (by decide)
      have e13 : vals 13 = _ := hf 13 (by decide)
      have e17 : vals 17 = _ := hf 17 (by decide)
      have h5 : Heap W w_ (HP.slw (vals 18) 1 R.1.1.length (ints R.1.1) :: HP.q b R.2 :: [HP.slw (.slice (some ⟨go, oo, none⟩) n capO) 5 n (opsC Y n), HP.slw (.slice (some ⟨kw, 0, none⟩) n n) 1 n (u64s n (wantF Y)), HP.slw (.slice (some ⟨kp, 0, none⟩) 64 64) 1 64 (bytes 64 (memP Y n)), HP.slw (.slice (some ⟨km, 0, none⟩) 64 64) 1 64 (bytes 64 s.m), HP.slw (.slice (some ⟨kg, 0, none⟩) n n) 1 n (u64s n s.got), HP.slw (.slice (some ⟨kh, 0, none⟩) n n) 1 n (bls n s.has)]) := hf 18 (by decide)
      clear hJ hf
      show Oper.wp _ _ (fillG vals 0 (_ :: _ :: _ :: _ :: _ :: _ :: _ :: _ :: _ :: _ :: _ :: _ :: _ :: _ :: _ :: _ :: _ :: _ :: _ :: []) _) _ _ _
      simp only [fillG, Nat.zero_add, Nat.reduceAdd, e0, e1, e2, e3, e4, e5, e6, e7, e8, e9, e10, e11, e12, e13, e17, Act.put, List.setIfInBounds_toArray, List.set_cons_succ, List.set_cons_zero]
      clear e0 e1 e2 e3 e4 e5 e6 e7 e8 e9 e10 e11 e12 e13 e17
      generalize vals 14 = v14
      generalize vals 15 = v15
      generalize vals 16 = v16
      generalize vals 18 = vE at h5 ⊢
      refine wp_last_value (v := .bool R.1.2) (w' := w_) (by kernel_rfl) ?_
      simp only [Act.put, List.setIfInBounds_toArray]
      clear hW
      have H5 := hide h5
      clear h5
      go_wp2
      go_loopw [24] (fun s24 wr => ∃ j : Nat, s24 = .int .i64 j ∧ j ≤ R.1.1.length ∧ Heap W wr (HP.slw (vE) 1 R.1.1.length (ints R.1.1) :: HP.q b R.2 :: [HP.slw (.slice (some ⟨go, oo, none⟩) n capO) 5 n (opsC Y n), HP.slw (.slice (some ⟨kw, 0, none⟩) n n) 1 n (u64s n (wantF Y)), HP.slw (.slice (some ⟨kp, 0, none⟩) 64 64) 1 64 (bytes 64 (memP Y n)), HP.slw (.slice (some ⟨km, 0, none⟩) 64 64) 1 64 (bytes 64 s.m), HP.slw (.slice (some ⟨kg, 0, none⟩) n n) 1 n (u64s n s.got), HP.slw (.slice (some ⟨kh, 0, none⟩) n n) 1 n (bls n (clr s.has (R.1.1.take j)))])) (fun s24 _ => R.1.1.length - (intOf s24).toNat)
      case atStart => exact ⟨0, rfl, Nat.zero_le _, by rw [clr0]; exact unhide H5⟩
      case round =>
        obtain ⟨j, rfl, hj, hJ6⟩ := hrel
        clear H5
        have HJ6 := hide hJ6
        clear hJ6
        obtain ⟨Av, cv, hvE, hcv⟩ := (unhide HJ6).slw.parts
        by_cases hjm : j < R.1.1.length
        · obtain ⟨t, ht⟩ : ∃ t, R.1.1[j]? = some t := ⟨_, List.getElem?_eq_getElem hjm⟩
          obtain ⟨i1, ht1, hki, hlt3, hst1, hhas1⟩ := (unhide D).out t (List.mem_of_getElem? ht)
          obtain ⟨E, hE1⟩ : ∃ E, s.first + i1 = E := ⟨_, rfl⟩
          rw [hE1] at ht1 hlt3 hst1 hhas1
          have hEi : i0 < E := by have := unhide HKK; omega
          subst ht1
          obtain ⟨gv, ov, cv2, hv2, _⟩ := (unhide HJ6).slw.addr (by omega)
          subst hv2
          have cE := (unhide HJ6).slw.at_ (j := j) (by omega)
          rw [ints_get ht] at cE
          obtain ⟨lE, cE, _⟩ := cE
          have hEn : E < n := by omega
          obtain ⟨o0, _, _, _, _, lO⟩ := ops_cells (Heap.nth (unhide HJ6) 2 rfl).slw hEn
          rw [hst1] at o0
          obtain ⟨h0, h1, h2⟩ := bl_cell (Heap.nth (unhide HJ6) 7 rfl).slw hEn
          rw [clr_has (unhide D).up ht hhas1, Nat.zero_add] at h0
          rw [Nat.zero_add] at h1
          have hw := (Heap.nth (unhide HJ6) 7 rfl).write (j := E) (by omega) (.bool false)
          rw [bls_set _ _ hEn, clr_up ht, Nat.zero_add] at hw
          have HW2 := hide (hw.perm (List.perm_append_comm (l₁ := [_]) (l₂ := _)))
          have HT := hide ht
          have HI1 := hide (And.intro hE1 (And.intro hki hst1))
          have HJM := hide hjm
          have hjE : j ≤ E := by
            have := inc_ge (unhide D).up (fun t ht => by obtain ⟨_, h, _⟩ := (unhide D).out t ht; omega) ht
            omega
          clear hw ht hE1 hki hhas1 hvE hst1
          go_upto_region 58 with fail
          go_cut [261] from 240 to 260 (fun s261 wx => s261 = .bool false ∧ wx = wr)
          case first =>
            as_aux_lemma =>
              go_wp2
              go_meet
              exact ⟨by rw [decide_eq_false (by omega), decide_eq_false (by omega)]; rfl, rfl⟩
          case rest =>
            obtain ⟨rfl, hwcc⟩ := hcut
            subst hwcc
            as_aux_lemma =>
              go_wp2
              exact ⟨⟨j + 1, by go_num, unhide HJM, unhide HW2⟩, by have := unhide HJM; simp [intOf]; omega⟩
        · obtain rfl : j = R.1.1.length := by omega
          rw [List.take_length] at HJ6
          subst hvE
          have H7 := hide (unhide HJ6).tail
          clear HJ6
          as_aux_lemma =>
            go_wp2
            rw [unhide E17]
            refine ⟨⟨k + 1, { s with q := R.2, has := clr s.has R.1.1 }, ⟨(unhide D).inv, (unhide HGG).other (P := P) rfl rfl hlt (fun hk1 hi2 ha2 hp => by
                have hkk0 : kk = 0 := by have := unhide HKK; have := unhide HI0; omega
                have h6 : k % 6 = 1 := by rw [← ha2]; exact unhide HA0
                rw [h6] at hp ⊢
                have he := unhide HE
                rw [hkk0] at he
                exact ⟨fun _ => hlt, fun _ e' he' => (unhide D).placed e' (by rw [hkk0]; exact he'), fun h => by omega, fun h => by omega, by omega⟩), by omega, unhide H7⟩, ?_⟩, by simp [WmuO, intOf]; omega⟩
            unfold FRO
            refine ⟨_, _, _, _, _, _, _, _, _, _, _, _, _, _, _, _, _, _, _, _, _, _, _, _, _, _, _, _, _, _, _, _, _, _, _, _, _, _, _, _, _, _, _, _, _, _, _, _, _, _, _, _, _, _, _, _, _, _, _, _, _, _, _, _, _, _, _, _, _, _, _, _, _, _, _, _, _, _, _, _, _, _, _, _, _, _, _, _, _, _, _, _, _, _, _, _, _, _, _, _, _, _, _, _, _, _, _, _, _, _, _, _, _, _, _, _, _, _, _, _, _, _, _, _, _, _, _, _, _, _, _, _, _, _, _, _, _, _, _, _, _, _, _, _, _, _, _, _, _, _, _, _, _, _, _, _, _, _, _, _, _, _, _, _, _, _, _, _, _, _, _, _, _, _, _, _, _, _, _, _, _, _, _, _, _, _, _, _, _, _, _, _, _, _, _, _, _, _, _, _, _, _, _, _, _, _, _, _, _, _, _, _, _, _, _, _, _, _, _, _, _, _, _, _, _, _, _, _, _, _, _, _, _, _, _, _, _, _, _, _, _, _, _, _, _, _, _, _, _, _, _, _, _, _, _, _, _, _, _, _, _, _, _, _, _, _, _, _, _, _, _, _, _, _, _, _, _, _, _, _, _, _, _, _, _, rfl⟩
end Go.Proofs.Ytdmkgomcomcfhaa
