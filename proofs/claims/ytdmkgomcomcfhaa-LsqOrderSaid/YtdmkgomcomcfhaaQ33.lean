/- Layer 23: LsqOrder: the pass, a load looks. -/
import Derived.Test.YtdmkgomcomcfhaaQ28
namespace Go.Proofs.Ytdmkgomcomcfhaa
open Go.RowKit

theorem Heap.ne_ww {w0 w : World} {L : List HP} {g o n c sz g' o' n' c' sz' : Nat} {xs ys : List Value} (h : Heap w0 w (HP.slw (.slice (some ⟨g, o, none⟩) n c) sz n xs :: HP.slw (.slice (some ⟨g', o', none⟩) n' c') sz' n' ys :: L)) : g ≠ g' := by
  obtain ⟨_, _, ⟨_, rfl⟩, ⟨_, rfl⟩, ha⟩ := h.apart2
  intro e
  subst e
  exact ha.one g rfl (.inl rfl)
theorem mul8_run (j : Nat) (h : j < 8) (w : World) : (binOp .mul 3 (.int .i64 8) (.int .i64 (j : Int))).run Try.prog w = .ok (.int .i64 (8 * (j : Int))) w := by
  have h2 : (binOp .mul 3 (.int .i64 8) (.int .i64 (j : Int))).run Try.prog w = .ok (.int .i64 (IntKind.i64.wrap (8 * (j : Int)))) w := rfl
  rw [h2, i64_in (by omega) (by omega)]
theorem shr8 (v : Int) (j : Nat) (hj : j < 8) (_v0 : 0 ≤ v) (_v1 : v < 256) (w : World) : (binOp .shr 5 (.int .u8 v) (.int .i64 (j : Int))).run Try.prog w = .ok (.int .u8 (v / 2 ^ j)) w := by
  rw [binOp_shr, shift_shr .u8 .i64 v (j : Int) (by omega) (by show (j : Int) ≤ ((8 : Nat) : Int); omega), Int.toNat_natCast]
  rfl
theorem and8_one (x : Int) (h0 : 0 ≤ x) (h1 : x < 256) : bits .and .u8 x 1 = x % 2 := by
  obtain ⟨X, rfl⟩ := Int.eq_ofNat_of_zero_le h0
  show IntKind.u8.wrap ((BitVec.ofInt 8 (X : Int) &&& BitVec.ofInt 8 (1 : Int)).toNat : Int) = _
  have e1 : ((X : Int) % ((2 ^ 8 : Nat) : Int)).toNat = X := by omega
  have e2 : ((1 : Int) % ((2 ^ 8 : Nat) : Int)).toNat = 1 := by decide
  rw [BitVec.toNat_and, bv_toNat, bv_toNat, e1, e2, show X &&& 1 = X % 2 from Nat.and_two_pow_sub_one_eq_mod X 1]
  unfold IntKind.wrap
  simp only [IntKind.signed, IntKind.bits, Bool.false_and, Bool.false_eq_true, if_false]
  omega
theorem and8_run (x : Int) (h0 : 0 ≤ x) (h1 : x < 256) (w : World) : (binOp .and 5 (.int .u8 x) (.int .u8 1)).run Try.prog w = .ok (.int .u8 (x % 2)) w := by
  have h2 : (binOp .and 5 (.int .u8 x) (.int .u8 1)).run Try.prog w = .ok (.int .u8 (bits .and .u8 x 1)) w := rfl
  rw [h2, and8_one x h0 h1]
variable {W : World} {Y : Nat → OpS} {P : Nat → Int} {A A2 AO : Option Addr} {n cap p cap2 capO b kw kp km kg kh : Nat}
set_option maxRecDepth 1000000 in
set_option maxHeartbeats 8000000 in
theorem case_look (hY : ∀ i, i < n → YOk (Y i)) (hn : n ≤ 4398046511104) (hp : p ≤ 17592186044416) (hP : PkO W A2 p P) {k : Nat} {s : PS} {wr : World} (hR : RelO W Y A A2 AO n cap p cap2 capO b kw kp km kg kh k s wr) (hk : k < p + 12 * n) {ac : Nat} (ha : actN P p s k = ac) (hac0 : ac = 3) (hlt : s.first < s.next) (Q0 : Exit → Act → World → Prop) (c2 c3 c9 c10 c33 c34 c35 c36 c37 c38 c39 c40 c41 c42 c43 c44 c45 c46 c47 c48 c49 c50 c51 c52 c53 c54 c55 c56 c57 c58 c59 c60 c61 c62 c63 c64 c65 c66 c67 c68 c69 c70 c71 c72 c73 c74 c75 c76 c77 c78 c79 c349 c350 c351 c352 c353 c354 c355 c356 c357 c358 u4 u18 u19 u20 u21 u22 u23 u24 u25 u26 u27 u28 u29 u30 u31 u32 u80 u81 u82 u83 u84 u85 u86 u87 u88 u89 u90 u91 u92 u93 u94 u95 u96 u97 u98 u99 u100 u101 u102 u103 u104 u105 u106 u107 u108 u109 u110 u111 u112 u113 u114 u115 u116 u117 u118 u119 u120 u121 u122 u123 u124 u125 u126 u127 u128 u129 u130 u131 u132 u133 u134 u135 u136 u137 u138 u139 u140 u141 u142 u143 u144 u145 u146 u147 u148 u149 u150 u151 u152 u153 u154 u155 u156 u157 u158 u159 u160 u161 u162 u163 u164 u165 u166 u167 u168 u169 u170 u171 u172 u173 u174 u175 u176 u177 u178 u179 u180 u181 u182 u183 u184 u185 u186 u187 u188 u189 u190 u191 u192 u193 u194 u195 u196 u197 u198 u199 u200 u201 u202 u203 u204 u205 u206 u207 u208 u209 u210 u211 u212 u213 u214 u215 u216 u217 u218 u219 u220 u221 u222 u223 u224 u225 u226 u227 u228 u229 u230 u231 u232 u233 u234 u235 u236 u237 u238 u239 u240 u241 u242 u243 u244 u245 u246 u247 u248 u249 u250 u251 u252 u253 u254 u255 u256 u257 u258 u259 u260 u261 u262 u263 u264 u265 u266 u267 u268 u269 u270 u271 u272 u273 u274 u275 u276 u277 u278 u279 u280 u281 u282 u283 u284 u285 u286 u287 u288 u289 u290 u291 u292 u293 u294 u295 u296 u297 u298 u299 u300 u301 u302 u303 u304 u305 u306 u307 u308 u309 u310 u311 u312 u313 u314 u315 u316 u317 u318 u319 u320 u321 u322 u323 u324 u325 u326 u327 u328 u329 u330 u331 u332 u333 u334 u335 u336 u337 u338 u339 u340 u341 u342 u343 u344 u345 u346 u347 u348 : Value) :
    Code.wp Try.prog bodyO (Exit.then (fun a' w'' => WIO W Y c2 c3 c9 c10 c33 c34 c35 c36 c37 c38 c39 c40 c41 c42 c43 c44 c45 c46 c47 c48 c49 c50 c51 c52 c53 c54 c55 c56 c57 c58 c59 c60 c61 c62 c63 c64 c65 c66 c67 c68 c69 c70 c71 c72 c73 c74 c75 c76 c77 c78 c79 c349 c350 c351 c352 c353 c354 c355 c356 c357 c358 A A2 AO n cap p cap2 capO b kw kp km kg kh a' w'' ∧ WmuO (p + 12 * n) a' w'' < p + 12 * n - k) Q0) ⟨#[.slice A n cap, .slice A2 p cap2, c2, c3, u4, .int .i64 (n : Int), .slice AO n capO, .slice (some ⟨kw, 0, none⟩) n n, .slice (some ⟨kp, 0, none⟩) 64 64, c9, c10, .pointer (some ⟨b, 0, none⟩), .slice (some ⟨km, 0, none⟩) 64 64, .slice (some ⟨kg, 0, none⟩) n n, .slice (some ⟨kh, 0, none⟩) n n, .int .i64 (s.first : Int), .int .i64 (s.next : Int), .int .i64 (k : Int), u18, u19, u20, u21, u22, u23, u24, u25, u26, u27, u28, u29, u30, u31, u32, c33, c34, c35, c36, c37, c38, c39, c40, c41, c42, c43, c44, c45, c46, c47, c48, c49, c50, c51, c52, c53, c54, c55, c56, c57, c58, c59, c60, c61, c62, c63, c64, c65, c66, c67, c68, c69, c70, c71, c72, c73, c74, c75, c76, c77, c78, c79, u80, u81, u82, u83, u84, u85, u86, u87, u88, u89, u90, u91, u92, u93, u94, u95, u96, u97, u98, u99, u100, u101, u102, u103, u104, u105, u106, u107, u108, u109, u110, u111, u112, u113, u114, u115, u116, u117, u118, u119, u120, u121, u122, u123, u124, u125, u126, u127, u128, u129, u130, u131, u132, u133, u134, u135, u136, u137, u138, u139, u140, u141, u142, u143, u144, u145, u146, u147, u148, u149, u150, u151, u152, u153, u154, u155, u156, u157, u158, u159, u160, u161, u162, u163, u164, u165, u166, u167, u168, u169, u170, u171, u172, u173, u174, u175, u176, u177, u178, u179, u180, u181, u182, u183, u184, u185, u186, u187, u188, u189, u190, u191, u192, u193, u194, u195, u196, u197, u198, u199, u200, u201, u202, u203, u204, u205, u206, u207, u208, u209, u210, u211, u212, u213, u214, u215, u216, u217, u218, u219, u220, u221, u222, u223, u224, u225, u226, u227, u228, u229, u230, u231, u232, u233, u234, u235, u236, u237, u238, u239, u240, u241, u242, u243, u244, u245, u246, u247, u248, u249, u250, u251, u252, u253, u254, u255, u256, u257, u258, u259, u260, u261, u262, u263, u264, u265, u266, u267, u268, u269, u270, u271, u272, u273, u274, u275, u276, u277, u278, u279, u280, u281, u282, u283, u284, u285, u286, u287, u288, u289, u290, u291, u292, u293, u294, u295, u296, u297, u298, u299, u300, u301, u302, u303, u304, u305, u306, u307, u308, u309, u310, u311, u312, u313, u314, u315, u316, u317, u318, u319, u320, u321, u322, u323, u324, u325, u326, u327, u328, u329, u330, u331, u332, u333, u334, u335, u336, u337, u338, u339, u340, u341, u342, u343, u344, u345, u346, u347, u348, c349, c350, c351, c352, c353, c354, c355, c356, c357, c358], []⟩ wr := by
  have HLT := hide hlt
  clear hlt
  obtain ⟨hI, hG, hkl, hJ⟩ := hR
  have hfn := hI.fn
  have hlen := hI.len
  obtain ⟨r6, hr6⟩ : ∃ r, k % 6 = r := ⟨_, rfl⟩
  have ht6 : (k : Int).tmod 6 = (r6 : Int) := by rw [Int.tmod_eq_emod_of_nonneg (by omega)]; omega
  obtain ⟨i0, hi0⟩ : ∃ i, iN P p s k = i := ⟨_, rfl⟩
  have HII := hide hI
  have HGG := hide hG
  have HR6 := hide hr6
  have HI0 := hide hi0
  have HA0 := hide ha
  have HJ := hide hJ
  clear hI hG hi0 hr6 ha hJ
  conv => arg 2; whnf
  go_upto_if 95 with fail
  go_cut [18, 19] from 80 to 348 (fun s18 s19 wx => s18 = .int .i64 (ac : Nat) ∧ s19 = .int .i64 (i0 : Nat) ∧ wx = wr)
  case first =>
    by_cases hkp : k < p
    · obtain ⟨⟨pk0, pk1⟩, hpk⟩ := hP k hkp
      obtain ⟨ab2, ao2, rfl, hc2, hab2⟩ := hpk wr (unhide HJ).below
      obtain ⟨pk, hpk2⟩ : ∃ x, P k = x := ⟨_, rfl⟩
      rw [hpk2] at pk0 pk1 hc2
      have HPK := hide hpk2
      obtain ⟨a6, ha6⟩ : ∃ x, pk % 6 = x := ⟨_, rfl⟩
      have htm : pk.tmod 6 = a6 := by rw [Int.tmod_eq_emod_of_nonneg (by omega)]; exact ha6
      have hw6 : IntKind.i64.wrap a6 = a6 := i64_in (by omega) (by omega)
      have ha6b : 0 ≤ a6 ∧ a6 < 6 := by omega
      have hac : a6 = (ac : Int) := by
        have := unhide HA0
        unfold actN at this
        rw [if_pos hkp, unhide HPK, ha6] at this
        omega
      by_cases hf : s.first < s.next
      · obtain ⟨d, hd⟩ : ∃ d : Nat, s.next - s.first = d := ⟨_, rfl⟩
        obtain ⟨x, hx⟩ : ∃ x, pk / 256 = x := ⟨_, rfl⟩
        obtain ⟨y, hy⟩ : ∃ y, x % (d : Int) = y := ⟨_, rfl⟩
        have hdd : (s.next : Int) - (s.first : Int) = (d : Int) := by omega
        have hwd : IntKind.u64.wrap (d : Int) = (d : Int) := by rw [IntKind.wrap_u64]; omega
        have hxt : x.tmod (d : Int) = y := by rw [Int.tmod_eq_emod_of_nonneg (by omega)]; exact hy
        have hd0 : ((d : Int) == 0) = false := beq_eq_false_iff_ne.2 (by omega)
        have hyb : 0 ≤ y ∧ y < (d : Int) := by rw [← hy]; exact ⟨Int.emod_nonneg _ (by omega), Int.emod_lt_of_pos _ (by omega)⟩
        have hwy : IntKind.i64.wrap y = y := i64_in (by omega) (by omega)
        have hii : (s.first : Int) + y = (i0 : Int) := by
          have := unhide HI0
          unfold iN at this
          rw [if_pos ⟨hkp, hf⟩, unhide HPK, hx, hd, hy] at this
          omega
        have HF := hide (And.intro hac hii)
        have HXY := hide (show pk / 256 % (d : Int) = y by rw [hx]; exact hy)
        clear ha6 hx hy hac hii hd
        as_aux_lemma =>
          go_wp2
          all_goals
            go_meet
            exact ⟨by rw [(unhide HF).1], by rw [unhide HXY, w64_in (x := y) (by omega) (by omega), w64_in (x := (s.first : Int) + y) (by omega) (by omega), (unhide HF).2], rfl⟩
      · have hii : s.first = i0 := by
          have := unhide HI0
          unfold iN at this
          rw [if_neg (fun h => hf h.2)] at this
          exact this
        have HF := hide (And.intro hac hii)
        clear ha6 hac hii
        as_aux_lemma =>
          go_wp2
          all_goals
            go_meet
            exact ⟨by rw [(unhide HF).1], by rw [(unhide HF).2], rfl⟩
    · have hii : s.first = i0 := by
        have := unhide HI0
        unfold iN at this
        rw [if_neg (fun h => hkp h.1)] at this
        exact this
      by_cases hf : s.first = s.next
      · have hz : ((s.first : Int) == (s.next : Int)) = true := by rw [hf]; simp
        have hac : 0 = ac := by
          have := unhide HA0
          unfold actN at this
          rw [if_neg hkp, if_pos hf] at this
          exact this
        have HF := hide (And.intro hac hii)
        clear hac hii hf
        as_aux_lemma =>
          go_wp2
          all_goals
            go_meet
            exact ⟨by rw [← (unhide HF).1]; rfl, by rw [(unhide HF).2], rfl⟩
      · have hz : ((s.first : Int) == (s.next : Int)) = false := beq_eq_false_iff_ne.2 (by omega)
        have hac : r6 = ac := by
          have := unhide HA0
          unfold actN at this
          rw [if_neg hkp, if_neg hf, unhide HR6] at this
          exact this
        have HF := hide (And.intro hac hii)
        clear hac hii hf
        as_aux_lemma =>
          go_wp2
          all_goals
            go_meet
            exact ⟨by rw [(unhide HF).1], by rw [(unhide HF).2], rfl⟩
  case rest =>
    obtain ⟨rfl, rfl, rfl⟩ := hcut
    clear ht6
    rw [hac0] at HA0 ⊢
    clear hac0
    rw [show ((3 : Nat) : Int) = 3 from rfl]
    clear hP
    have hlt := unhide HLT
    clear HLT
    have hi1 := unhide HI0
    have hge := iN_ge P p s k
    have hlt2 := iN_lt (P := P) (p := p) (k := k) hlt
    rw [hi1] at hge hlt2
    obtain ⟨kk, hkk⟩ : ∃ kk, i0 = s.first + kk := ⟨i0 - s.first, by omega⟩
    obtain ⟨e, he⟩ : ∃ e, s.q.l[kk]? = some e := ⟨_, List.getElem?_eq_getElem (by omega)⟩
    have hin : i0 < n := by omega
    have HY0 := hide (hY i0 hin)
    have hib : -9223372036854775808 ≤ (i0 : Int) ∧ (i0 : Int) < 9223372036854775808 := by omega
    have HIB := hide hib
    have HKK := hide hkk
    have HE := hide he
    have e17 : (k : Int) + 1 = ((k + 1 : Nat) : Int) := rfl
    have E17 := hide e17
    obtain ⟨go, oo, co, hv, _⟩ := (unhide HJ).f2.slw.addr (by omega)
    injection hv with hv _ hv2
    subst hv hv2
    obtain ⟨c0, c1, c2, c3, c4, hol⟩ := ops_cells (unhide HJ).f2.slw hin
    clear hi1 hib hkk he e17
    have hQI := hide (unhide HJ).qI
    have HBM := hide (show BM s.m by rw [(unhide HII).mem]; exact memP_bm Y _)
    go_wp2_with fail
    refine (look_h (unhide HJ) (i0 : Int)).mono ?_
    rintro r_ w5 ⟨rfl, h5⟩
    clear HJ
    obtain ⟨⟨⟨gw, gm, gv⟩, ok⟩, hlk⟩ : ∃ G, lookQ s.q (i0 : Int) = G := ⟨_, rfl⟩
    rw [hlk]
    unfold GotS.cs
    dsimp only
    have HS8 := hide (h5.alloc (.cells #[.bool gw, .int .u8 gm, .int .u64 gv] 37))
    have h10 := h5.new #[.bool gw, .int .u8 gm, .int .u64 gv] 37
    obtain ⟨kx, hkx⟩ : ∃ k, w5.heap.size = k := ⟨_, rfl⟩
    rw [hkx] at h10
    have HKX := hide hkx
    have h10 : Heap W _ [HP.q b (s.q), HP.slw (.slice (some ⟨go, oo, none⟩) n capO) 5 n (opsC Y n), HP.slw (.slice (some ⟨kw, 0, none⟩) n n) 1 n (u64s n (wantF Y)), HP.slw (.slice (some ⟨kp, 0, none⟩) 64 64) 1 64 (bytes 64 (memP Y n)), HP.slw (.slice (some ⟨km, 0, none⟩) 64 64) 1 64 (bytes 64 (s.m)), HP.slw (.slice (some ⟨kg, 0, none⟩) n n) 1 n (u64s n (s.got)), HP.slw (.slice (some ⟨kh, 0, none⟩) n n) 1 n (bls n (s.has)), HP.blk kx #[.bool gw, .int .u8 gm, .int .u64 gv] 37] := h10.perm (List.perm_append_comm (l₁ := [_]) (l₂ := _))
    have H10 := hide h10
    have HLK := hide hlk
    clear h5 h10 hkx
    cases ok with
    | false =>
      clear hlk hQI HBM H10
      as_aux_lemma =>
        go_wp2
        rw [unhide E17]
        refine ⟨⟨k + 1, s, ⟨unhide HII, (unhide HGG).other (P := P) rfl rfl hlt (fun hk1 hi2 ha2 hp => by
            have hkk0 : kk = 0 := by have := unhide HKK; have := unhide HI0; omega
            have h6 : k % 6 = 3 := by rw [← ha2]; exact unhide HA0
            rw [h6] at hp ⊢
            have he := unhide HE
            rw [hkk0] at he
            exact ⟨fun _ => hlt, fun _ => hp.f2 (by omega), fun _ => hp.f3 (by omega), (fun _ e' he' hs' => by
              have hlf := look_front he' (unhide HII) hs' (hp.f2 (by omega) e' he')
              rw [show (s.first : Int) = (i0 : Int) by have := unhide HKK; omega, unhide HLK] at hlf
              injection hlf with h1 h2
              injection h1 with h1
              cases h2), by omega⟩), by omega, (unhide HS8)⟩, ?_⟩, by simp [WmuO, intOf]; omega⟩
        unfold FRO
        refine ⟨_, _, _, _, _, _, _, _, _, _, _, _, _, _, _, _, _, _, _, _, _, _, _, _, _, _, _, _, _, _, _, _, _, _, _, _, _, _, _, _, _, _, _, _, _, _, _, _, _, _, _, _, _, _, _, _, _, _, _, _, _, _, _, _, _, _, _, _, _, _, _, _, _, _, _, _, _, _, _, _, _, _, _, _, _, _, _, _, _, _, _, _, _, _, _, _, _, _, _, _, _, _, _, _, _, _, _, _, _, _, _, _, _, _, _, _, _, _, _, _, _, _, _, _, _, _, _, _, _, _, _, _, _, _, _, _, _, _, _, _, _, _, _, _, _, _, _, _, _, _, _, _, _, _, _, _, _, _, _, _, _, _, _, _, _, _, _, _, _, _, _, _, _, _, _, _, _, _, _, _, _, _, _, _, _, _, _, _, _, _, _, _, _, _, _, _, _, _, _, _, _, _, _, _, _, _, _, _, _, _, _, _, _, _, _, _, _, _, _, _, _, _, _, _, _, _, _, _, _, _, _, _, _, _, _, _, _, _, _, _, _, _, _, _, _, _, _, _, _, _, _, _, _, _, _, _, _, _, _, _, _, _, _, _, _, _, _, _, _, _, _, _, _, _, _, _, _, _, _, _, _, _, _, _, _, rfl⟩
    | true =>
      cases gw with
      | true =>
        clear hlk hQI HBM H10
        as_aux_lemma =>
          go_wp2
          rw [unhide E17]
          refine ⟨⟨k + 1, s, ⟨unhide HII, (unhide HGG).other (P := P) rfl rfl hlt (fun hk1 hi2 ha2 hp => by
              have hkk0 : kk = 0 := by have := unhide HKK; have := unhide HI0; omega
              have h6 : k % 6 = 3 := by rw [← ha2]; exact unhide HA0
              rw [h6] at hp ⊢
              have he := unhide HE
              rw [hkk0] at he
              exact ⟨fun _ => hlt, fun _ => hp.f2 (by omega), fun _ => hp.f3 (by omega), (fun _ e' he' hs' => by
                have hlf := look_front he' (unhide HII) hs' (hp.f2 (by omega) e' he')
                rw [show (s.first : Int) = (i0 : Int) by have := unhide HKK; omega, unhide HLK] at hlf
                injection hlf with h1 h2
                injection h1 with h1
                cases h1), by omega⟩), by omega, (unhide HS8)⟩, ?_⟩, by simp [WmuO, intOf]; omega⟩
          unfold FRO
          refine ⟨_, _, _, _, _, _, _, _, _, _, _, _, _, _, _, _, _, _, _, _, _, _, _, _, _, _, _, _, _, _, _, _, _, _, _, _, _, _, _, _, _, _, _, _, _, _, _, _, _, _, _, _, _, _, _, _, _, _, _, _, _, _, _, _, _, _, _, _, _, _, _, _, _, _, _, _, _, _, _, _, _, _, _, _, _, _, _, _, _, _, _, _, _, _, _, _, _, _, _, _, _, _, _, _, _, _, _, _, _, _, _, _, _, _, _, _, _, _, _, _, _, _, _, _, _, _, _, _, _, _, _, _, _, _, _, _, _, _, _, _, _, _, _, _, _, _, _, _, _, _, _, _, _, _, _, _, _, _, _, _, _, _, _, _, _, _, _, _, _, _, _, _, _, _, _, _, _, _, _, _, _, _, _, _, _, _, _, _, _, _, _, _, _, _, _, _, _, _, _, _, _, _, _, _, _, _, _, _, _, _, _, _, _, _, _, _, _, _, _, _, _, _, _, _, _, _, _, _, _, _, _, _, _, _, _, _, _, _, _, _, _, _, _, _, _, _, _, _, _, _, _, _, _, _, _, _, _, _, _, _, _, _, _, _, _, _, _, _, _, _, _, _, _, _, _, _, _, _, _, _, _, _, _, _, _, rfl⟩
      | false =>
        have hlk2 := hlk
        rw [unhide HKK] at hlk2
        have hl5 := (unhide HII).look (unhide hQI) hY (unhide HE) hlk2
        have hdq := (unhide HII).doneQ (unhide HE) hlk2
        rw [← unhide HKK] at hl5 hdq
        have HLE := hide hl5
        have HMK := hide hl5.2.2.1
        have HVL := hide hl5.2.2.2.1
        have HDQ := hide hdq
        clear hlk hlk2 hl5 hdq hQI HS8
        go_upto_region 68 with fail
        rw [unhide HKX]
        have H10 := hide (unhide H10)
        generalize w5.alloc (.cells #[.bool false, .int .u8 gm, .int .u64 gv] 37) = w6 at H10 ⊢
        clear HKX c0 c1 c2 c3 c4 hol
        refine wp_region_F (fun w_ => Heap W w_ [HP.q b (s.q), HP.slw (.slice (some ⟨go, oo, none⟩) n capO) 5 n (opsC Y n), HP.slw (.slice (some ⟨kw, 0, none⟩) n n) 1 n (u64s n (wantF Y)), HP.slw (.slice (some ⟨kp, 0, none⟩) 64 64) 1 64 (bytes 64 (memP Y n)), HP.slw (.slice (some ⟨km, 0, none⟩) 64 64) 1 64 (bytes 64 (s.m)), HP.slw (.slice (some ⟨kg, 0, none⟩) n n) 1 n (u64s n (s.got)), HP.slw (.slice (some ⟨kh, 0, none⟩) n n) 1 n (bls n (s.has)), HP.blk kx #[.bool false, .int .u8 gm, .int .u64 gv] 37]) (fun _ _ => True) (fun k_ v_ w_ => match k_ with
            | 0 => v_ = .slice (some ⟨km, 0, none⟩) 64 64
            | 1 => v_ = .slice (some ⟨go, oo, none⟩) n capO
            | 2 => v_ = .int .i64 (i0 : Int)
            | 3 => v_ = .pointer (some ⟨go, oo + i0 * 5, none⟩)
            | 4 => v_ = .pointer (some ⟨go, oo + i0 * 5 + 1, none⟩)
            | 5 => v_ = .int .i64 (Y i0).at_
            | 6 => v_ = .slice (some ⟨go, oo, none⟩) n capO
            | 7 => v_ = .int .i64 (i0 : Int)
            | 8 => v_ = .pointer (some ⟨go, oo + i0 * 5, none⟩)
            | 9 => v_ = .pointer (some ⟨go, oo + i0 * 5 + 2, none⟩)
            | 10 => v_ = .int .i64 (Y i0).size
            | 11 => v_ = .int .u64 (rdM s.m (Y i0).at_.toNat (Y i0).size.toNat)
            | _ => v_ = .int .u64 (rdM s.m (Y i0).at_.toNat (Y i0).size.toNat)) fol (by kernel_rfl) ?_ ?_ ?_ ?_
        · exact Heap.drew (unhide H10)
        · intro k_ v_ w_ w2_ h1 hg
          split at h1 <;> exact h1
        · intro vals
          show wpG _ _ _ _ _ _ 0 (_ :: _) _
          refine wpG_cons (gval (.slice (some ⟨km, 0, none⟩) 64 64) (fun _ => trivial) fun w_ hJ hd => ?_) ?_
          · exact ⟨by kernel_rfl, by kernel_rfl, rfl⟩
          refine wpG_cons (gval (.slice (some ⟨go, oo, none⟩) n capO) (fun _ => trivial) fun w_ hJ hd => ?_) ?_
          · exact ⟨by kernel_rfl, by kernel_rfl, rfl⟩
          refine wpG_cons (gval (.int .i64 (i0 : Int)) (fun _ => trivial) fun w_ hJ hd => ?_) ?_
          · exact ⟨by kernel_rfl, by kernel_rfl, rfl⟩
          refine wpG_cons (gop (Instr.indexAt 50 (.slice (some ⟨go, oo, none⟩) n capO) (.int .i64 (i0 : Nat))) (.pointer (some ⟨go, oo + i0 * 5, none⟩)) (fun _ => trivial) fun w_ hJ hd => ?_) ?_
          · have e1 : vals 1 = _ := hd 1 (by decide) (by kernel_rfl)
            have e2 : vals 2 = _ := hd 2 (by decide) (by kernel_rfl)
            rw [e1, e2]
            exact ⟨by kernel_rfl, by kernel_rfl, (run_ixat 50 54 5 Try.underlying50 (by kernel_rfl) _ _ _ _ _ hin w_), rfl⟩
          refine wpG_cons (gval (.pointer (some ⟨go, oo + i0 * 5 + 1, none⟩)) (fun _ => trivial) fun w_ hJ hd => ?_) ?_
          · have e3 : vals 3 = _ := hd 3 (by decide) (by kernel_rfl)
            rw [e3]
            exact ⟨by kernel_rfl, by kernel_rfl, rfl⟩
          refine wpG_cons (gop (Instr.loadAt 3 (.pointer (some ⟨go, oo + i0 * 5 + 1, none⟩))) (.int .i64 (Y i0).at_) (fun _ => trivial) fun w_ hJ hd => ?_) ?_
          · have e4 : vals 4 = _ := hd 4 (by decide) (by kernel_rfl)
            rw [e4]
            exact ⟨by kernel_rfl, by kernel_rfl, run_load1 (by kernel_rfl) (ops_cells (Heap.f2 hJ).slw hin).2.1, rfl⟩
          refine wpG_cons (gval (.slice (some ⟨go, oo, none⟩) n capO) (fun _ => trivial) fun w_ hJ hd => ?_) ?_
          · exact ⟨by kernel_rfl, by kernel_rfl, rfl⟩
          refine wpG_cons (gval (.int .i64 (i0 : Int)) (fun _ => trivial) fun w_ hJ hd => ?_) ?_
          · exact ⟨by kernel_rfl, by kernel_rfl, rfl⟩
          refine wpG_cons (gop (Instr.indexAt 50 (.slice (some ⟨go, oo, none⟩) n capO) (.int .i64 (i0 : Nat))) (.pointer (some ⟨go, oo + i0 * 5, none⟩)) (fun _ => trivial) fun w_ hJ hd => ?_) ?_
          · have e6 : vals 6 = _ := hd 6 (by decide) (by kernel_rfl)
            have e7 : vals 7 = _ := hd 7 (by decide) (by kernel_rfl)
            rw [e6, e7]
            exact ⟨by kernel_rfl, by kernel_rfl, (run_ixat 50 54 5 Try.underlying50 (by kernel_rfl) _ _ _ _ _ hin w_), rfl⟩
          refine wpG_cons (gval (.pointer (some ⟨go, oo + i0 * 5 + 2, none⟩)) (fun _ => trivial) fun w_ hJ hd => ?_) ?_
          · have e8 : vals 8 = _ := hd 8 (by decide) (by kernel_rfl)
            rw [e8]
            exact ⟨by kernel_rfl, by kernel_rfl, rfl⟩
          refine wpG_cons (gop (Instr.loadAt 3 (.pointer (some ⟨go, oo + i0 * 5 + 2, none⟩))) (.int .i64 (Y i0).size) (fun _ => trivial) fun w_ hJ hd => ?_) ?_
          · have e9 : vals 9 = _ := hd 9 (by decide) (by kernel_rfl)
            rw [e9]
            exact ⟨by kernel_rfl, by kernel_rfl, run_load1 (by kernel_rfl) (ops_cells (Heap.f2 hJ).slw hin).2.2.1, rfl⟩
          refine wpG_cons (gcall 32 #[.slice (some ⟨km, 0, none⟩) 64 64, .int .i64 (Y i0).at_, .int .i64 (Y i0).size] fun w_ hJ hd => ?_) ?_
          · have e0 : vals 0 = _ := hd 0 (by decide) (by kernel_rfl)
            have e5 : vals 5 = _ := hd 5 (by decide) (by kernel_rfl)
            have e10 : vals 10 = _ := hd 10 (by decide) (by kernel_rfl)
            rw [e0, e5, e10]
            exact ⟨by kernel_rfl, by kernel_rfl, (read_i (unhide HBM) (Heap.f5 hJ) (unhide HY0)).mono fun e w' ⟨hr, hw⟩ => ⟨_, hr, hw.b5, trivial, rfl⟩⟩
          refine wpG_cons (gval (.int .u64 (rdM s.m (Y i0).at_.toNat (Y i0).size.toNat)) (fun _ => trivial) fun w_ hJ hd => ?_) wpG_nil
          · have e11 : vals 11 = _ := hd 11 (by decide) (by kernel_rfl)
            rw [e11]
            exact ⟨by kernel_rfl, by kernel_rfl, rfl⟩
        · intro vals w_ hJ hf
          have e0 : vals 0 = _ := hf 0 (by decide)
          have e1 : vals 1 = _ := hf 1 (by decide)
          have e2 : vals 2 = _ := hf 2 (by decide)
          have e3 : vals 3 = _ := hf 3 (by decide)
          have e4 : vals 4 = _ := hf 4 (by decide)
          have e5 : vals 5 = _ := hf 5 (by decide)
          have e6 : vals 6 = _ := hf 6 (by decide)
          have e7 : vals 7 = _ := hf 7 (by decide)
          have e8 : vals 8 = _ := hf 8 (by decide)
          have e9 : vals 9 = _ := hf 9 (by decide)
          have e10 : vals 10 = _ := hf 10 (by decide)
          have e11 : vals 11 = _ := hf 11 (by decide)
          have e12 : vals 12 = _ := hf 12 (by decide)
          simp only [fillG, Nat.zero_add, Nat.reduceAdd, e0, e1, e2, e3, e4, e5, e6, e7, e8, e9, e10, e11, e12, Act.put, List.setIfInBounds_toArray, List.set_cons_succ, List.set_cons_zero]
          clear e0 e1 e2 e3 e4 e5 e6 e7 e8 e9 e10 e11 e12 hf
          have H68 := hide hJ
          clear hJ H10
          go_wp2
          go_loopw [29, 30] (fun s29 s30 wr => ∃ j : Nat, s29 = .int .u64 (rdM (mixM (kM s.q.l kk) (bM s.q.l kk) s.m (Y i0).at_.toNat j) (Y i0).at_.toNat (Y i0).size.toNat) ∧ s30 = .int .i64 j ∧ j ≤ (Y i0).size.toNat ∧ Heap W wr [HP.q b (s.q), HP.slw (.slice (some ⟨go, oo, none⟩) n capO) 5 n (opsC Y n), HP.slw (.slice (some ⟨kw, 0, none⟩) n n) 1 n (u64s n (wantF Y)), HP.slw (.slice (some ⟨kp, 0, none⟩) 64 64) 1 64 (bytes 64 (memP Y n)), HP.slw (.slice (some ⟨km, 0, none⟩) 64 64) 1 64 (bytes 64 (s.m)), HP.slw (.slice (some ⟨kg, 0, none⟩) n n) 1 n (u64s n (s.got)), HP.slw (.slice (some ⟨kh, 0, none⟩) n n) 1 n (bls n (s.has)), HP.blk kx #[.bool false, .int .u8 gm, .int .u64 gv] 37]) (fun _ s30 _ => (Y i0).size.toNat - (intOf s30).toNat)
          case atStart => exact ⟨0, by rw [mix_start], rfl, Nat.zero_le _, unhide H68⟩
          case round =>
            obtain ⟨j, rfl, rfl, hj, hJ6⟩ := hrel
            clear H68
            have HJ6 := hide hJ6
            clear hJ6
            obtain ⟨_, _, o2, _, _, lO⟩ := ops_cells (Heap.f2 (unhide HJ6)).slw hin
            obtain ⟨g0, g1, g2, _, _, _⟩ := cells3f (Heap.nth (unhide HJ6) 7 rfl).heap
            have gl := lt_of_heap' (Heap.nth (unhide HJ6) 7 rfl).heap
            obtain ⟨Z, hZ⟩ : ∃ Z : Nat, (Y i0).size.toNat = Z := ⟨_, rfl⟩
            have hZI : (Y i0).size = (Z : Int) := by have := (unhide HY0).sz; omega
            have hZ8 : Z ≤ 8 := by have := (unhide HY0).sz; omega
            rw [hZI] at o2
            have HZ := hide hZ
            by_cases hjz : j < Z
            · have hb := wantN_bit (kM s.q.l kk) (Y i0).at_.toNat (z := Z) (j := j) hjz
              rw [← hZ, ← unhide HMK] at hb
              have hbb := wantN_bd (kM s.q.l kk) (Y i0).at_.toNat (Y i0).size.toNat
              rw [← unhide HMK] at hbb
              have hm256 : 0 ≤ gm ∧ gm < 256 := by
                have p8 : (2 : Int) ^ (Y i0).size.toNat ≤ 256 := by
                  rw [hZ]
                  have : Z = 0 ∨ Z = 1 ∨ Z = 2 ∨ Z = 3 ∨ Z = 4 ∨ Z = 5 ∨ Z = 6 ∨ Z = 7 ∨ Z = 8 := by omega
                  rcases this with h | h | h | h | h | h | h | h | h <;> (rw [h]; decide)
                omega
              have hmdb : 0 ≤ gm / 2 ^ j ∧ gm / 2 ^ j < 256 := by
                have pj := pow_pos j
                exact ⟨Int.ediv_nonneg hm256.1 (by omega), Int.lt_of_le_of_lt (Int.ediv_le_self _ hm256.1) hm256.2⟩
              have hand := and8_one (gm / 2 ^ j) hmdb.1 hmdb.2
              clear hbb hm256 hmdb hZI
              by_cases hp : 0 < kM s.q.l kk ((Y i0).at_.toNat + j)
              · rw [if_pos hp] at hb
                rw [hb] at hand
                have HUP := hide (mix_yes (K := kM s.q.l kk) (B := bM s.q.l kk) (m := s.m) (a := (Y i0).at_.toNat) (b := j) (z := (Y i0).size.toNat) (bM_bm _ _) (unhide HBM) (by rw [hZ]; exact hZ8) (by rw [hZ]; exact hjz) hp)
                rw [← unhide HVL] at HUP
                clear hb hp hZ
                ·
                  go_upto_region 73 with fail
                  clear hand o2 g0 g1 g2 gl lO
                  refine wp_region_F (fun w_ => Heap W w_ [HP.q b (s.q), HP.slw (.slice (some ⟨go, oo, none⟩) n capO) 5 n (opsC Y n), HP.slw (.slice (some ⟨kw, 0, none⟩) n n) 1 n (u64s n (wantF Y)), HP.slw (.slice (some ⟨kp, 0, none⟩) 64 64) 1 64 (bytes 64 (memP Y n)), HP.slw (.slice (some ⟨km, 0, none⟩) 64 64) 1 64 (bytes 64 (s.m)), HP.slw (.slice (some ⟨kg, 0, none⟩) n n) 1 n (u64s n (s.got)), HP.slw (.slice (some ⟨kh, 0, none⟩) n n) 1 n (bls n (s.has)), HP.blk kx #[.bool false, .int .u8 gm, .int .u64 gv] 37]) (fun _ _ => True) (fun k_ v_ w_ => match k_ with
                      | 0 => v_ = .int .u64 (rdM (mixM (kM s.q.l kk) (bM s.q.l kk) s.m (Y i0).at_.toNat j) (Y i0).at_.toNat (Y i0).size.toNat)
                      | 1 => v_ = .int .i64 (j : Int)
                      | 2 => v_ = .int .i64 (8 * (j : Int))
                      | 3 => v_ = .int .u64 (255 * 2 ^ (8 * j))
                      | 4 => v_ = .int .u64 (bits .andNot .u64 (rdM (mixM (kM s.q.l kk) (bM s.q.l kk) s.m (Y i0).at_.toNat j) (Y i0).at_.toNat (Y i0).size.toNat) (255 * 2 ^ (8 * j)))
                      | 5 => v_ = .pointer (some ⟨kx, 2, none⟩)
                      | 6 => v_ = .int .u64 gv
                      | 7 => v_ = .int .i64 (j : Int)
                      | 8 => v_ = .int .i64 (8 * (j : Int))
                      | 9 => v_ = .int .u64 (255 * 2 ^ (8 * j))
                      | 10 => v_ = .int .u64 (bits .and .u64 gv (255 * 2 ^ (8 * j)))
                      | 11 => v_ = .int .u64 (bits .or .u64 (bits .andNot .u64 (rdM (mixM (kM s.q.l kk) (bM s.q.l kk) s.m (Y i0).at_.toNat j) (Y i0).at_.toNat (Y i0).size.toNat) (255 * 2 ^ (8 * j))) (bits .and .u64 gv (255 * 2 ^ (8 * j))))
                      | _ => v_ = .int .u64 (bits .or .u64 (bits .andNot .u64 (rdM (mixM (kM s.q.l kk) (bM s.q.l kk) s.m (Y i0).at_.toNat j) (Y i0).at_.toNat (Y i0).size.toNat) (255 * 2 ^ (8 * j))) (bits .and .u64 gv (255 * 2 ^ (8 * j))))) fol (by kernel_rfl) ?_ ?_ ?_ ?_
                  · exact Heap.drew (unhide HJ6)
                  · intro k_ v_ w_ w2_ h1 hg
                    split at h1 <;> exact h1
                  · intro vals
                    show wpG _ _ _ _ _ _ 0 (_ :: _) _
                    refine wpG_cons (gval (.int .u64 (rdM (mixM (kM s.q.l kk) (bM s.q.l kk) s.m (Y i0).at_.toNat j) (Y i0).at_.toNat (Y i0).size.toNat)) (fun _ => trivial) fun w_ hJ hd => ?_) ?_
                    · exact ⟨by kernel_rfl, by kernel_rfl, rfl⟩
                    refine wpG_cons (gval (.int .i64 (j : Int)) (fun _ => trivial) fun w_ hJ hd => ?_) ?_
                    · exact ⟨by kernel_rfl, by kernel_rfl, rfl⟩
                    refine wpG_cons (gop (binOp .mul 3 (.int .i64 8) (.int .i64 (j : Int))) (.int .i64 (8 * (j : Int))) (fun _ => trivial) fun w_ hJ hd => ?_) ?_
                    · have e1 : vals 1 = _ := hd 1 (by decide) (by kernel_rfl)
                      rw [e1]
                      exact ⟨by kernel_rfl, by kernel_rfl, mul8_run j (by omega) w_, rfl⟩
                    refine wpG_cons (gop (binOp .shl 28 (.int .u64 255) (.int .i64 (8 * (j : Int)))) (.int .u64 (255 * 2 ^ (8 * j))) (fun _ => trivial) fun w_ hJ hd => ?_) ?_
                    · have e2 : vals 2 = _ := hd 2 (by decide) (by kernel_rfl)
                      rw [e2]
                      exact ⟨by kernel_rfl, by kernel_rfl, shlI 255 j (by omega) (by decide) (by decide) w_, rfl⟩
                    refine wpG_cons (gop (binOp .andNot 28 (.int .u64 (rdM (mixM (kM s.q.l kk) (bM s.q.l kk) s.m (Y i0).at_.toNat j) (Y i0).at_.toNat (Y i0).size.toNat)) (.int .u64 (255 * 2 ^ (8 * j)))) (.int .u64 (bits .andNot .u64 (rdM (mixM (kM s.q.l kk) (bM s.q.l kk) s.m (Y i0).at_.toNat j) (Y i0).at_.toNat (Y i0).size.toNat) (255 * 2 ^ (8 * j)))) (fun _ => trivial) fun w_ hJ hd => ?_) ?_
                    · have e0 : vals 0 = _ := hd 0 (by decide) (by kernel_rfl)
                      have e3 : vals 3 = _ := hd 3 (by decide) (by kernel_rfl)
                      rw [e0, e3]
                      exact ⟨by kernel_rfl, by kernel_rfl, rfl, rfl⟩
                    refine wpG_cons (gval (.pointer (some ⟨kx, 2, none⟩)) (fun _ => trivial) fun w_ hJ hd => ?_) ?_
                    · exact ⟨by kernel_rfl, by kernel_rfl, rfl⟩
                    refine wpG_cons (gop (Instr.loadAt 28 (.pointer (some ⟨kx, 2, none⟩))) (.int .u64 gv) (fun _ => trivial) fun w_ hJ hd => ?_) ?_
                    · have e5 : vals 5 = _ := hd 5 (by decide) (by kernel_rfl)
                      rw [e5]
                      exact ⟨by kernel_rfl, by kernel_rfl, run_load1 (by kernel_rfl) ((cells3f (Heap.nth hJ 7 rfl).heap).2.2.1), rfl⟩
                    refine wpG_cons (gval (.int .i64 (j : Int)) (fun _ => trivial) fun w_ hJ hd => ?_) ?_
                    · exact ⟨by kernel_rfl, by kernel_rfl, rfl⟩
                    refine wpG_cons (gop (binOp .mul 3 (.int .i64 8) (.int .i64 (j : Int))) (.int .i64 (8 * (j : Int))) (fun _ => trivial) fun w_ hJ hd => ?_) ?_
                    · have e7 : vals 7 = _ := hd 7 (by decide) (by kernel_rfl)
                      rw [e7]
                      exact ⟨by kernel_rfl, by kernel_rfl, mul8_run j (by omega) w_, rfl⟩
                    refine wpG_cons (gop (binOp .shl 28 (.int .u64 255) (.int .i64 (8 * (j : Int)))) (.int .u64 (255 * 2 ^ (8 * j))) (fun _ => trivial) fun w_ hJ hd => ?_) ?_
                    · have e8 : vals 8 = _ := hd 8 (by decide) (by kernel_rfl)
                      rw [e8]
                      exact ⟨by kernel_rfl, by kernel_rfl, shlI 255 j (by omega) (by decide) (by decide) w_, rfl⟩
                    refine wpG_cons (gop (binOp .and 28 (.int .u64 gv) (.int .u64 (255 * 2 ^ (8 * j)))) (.int .u64 (bits .and .u64 gv (255 * 2 ^ (8 * j)))) (fun _ => trivial) fun w_ hJ hd => ?_) ?_
                    · have e6 : vals 6 = _ := hd 6 (by decide) (by kernel_rfl)
                      have e9 : vals 9 = _ := hd 9 (by decide) (by kernel_rfl)
                      rw [e6, e9]
                      exact ⟨by kernel_rfl, by kernel_rfl, rfl, rfl⟩
                    refine wpG_cons (gop (binOp .or 28 (.int .u64 (bits .andNot .u64 (rdM (mixM (kM s.q.l kk) (bM s.q.l kk) s.m (Y i0).at_.toNat j) (Y i0).at_.toNat (Y i0).size.toNat) (255 * 2 ^ (8 * j)))) (.int .u64 (bits .and .u64 gv (255 * 2 ^ (8 * j))))) (.int .u64 (bits .or .u64 (bits .andNot .u64 (rdM (mixM (kM s.q.l kk) (bM s.q.l kk) s.m (Y i0).at_.toNat j) (Y i0).at_.toNat (Y i0).size.toNat) (255 * 2 ^ (8 * j))) (bits .and .u64 gv (255 * 2 ^ (8 * j))))) (fun _ => trivial) fun w_ hJ hd => ?_) ?_
                    · have e4 : vals 4 = _ := hd 4 (by decide) (by kernel_rfl)
                      have e10 : vals 10 = _ := hd 10 (by decide) (by kernel_rfl)
                      rw [e4, e10]
                      exact ⟨by kernel_rfl, by kernel_rfl, rfl, rfl⟩
                    refine wpG_cons (gval (.int .u64 (bits .or .u64 (bits .andNot .u64 (rdM (mixM (kM s.q.l kk) (bM s.q.l kk) s.m (Y i0).at_.toNat j) (Y i0).at_.toNat (Y i0).size.toNat) (255 * 2 ^ (8 * j))) (bits .and .u64 gv (255 * 2 ^ (8 * j))))) (fun _ => trivial) fun w_ hJ hd => ?_) wpG_nil
                    · have e11 : vals 11 = _ := hd 11 (by decide) (by kernel_rfl)
                      rw [e11]
                      exact ⟨by kernel_rfl, by kernel_rfl, rfl⟩
                  · intro vals w_ hJ hf
                    have e0 : vals 0 = _ := hf 0 (by decide)
                    have e1 : vals 1 = _ := hf 1 (by decide)
                    have e2 : vals 2 = _ := hf 2 (by decide)
                    have e3 : vals 3 = _ := hf 3 (by decide)
                    have e4 : vals 4 = _ := hf 4 (by decide)
                    have e5 : vals 5 = _ := hf 5 (by decide)
                    have e6 : vals 6 = _ := hf 6 (by decide)
                    have e7 : vals 7 = _ := hf 7 (by decide)
                    have e8 : vals 8 = _ := hf 8 (by decide)
                    have e9 : vals 9 = _ := hf 9 (by decide)
                    have e10 : vals 10 = _ := hf 10 (by decide)
                    have e11 : vals 11 = _ := hf 11 (by decide)
                    have e12 : vals 12 = _ := hf 12 (by decide)
                    simp only [fillG, Nat.zero_add, Nat.reduceAdd, e0, e1, e2, e3, e4, e5, e6, e7, e8, e9, e10, e11, e12, Act.put, List.setIfInBounds_toArray, List.set_cons_succ, List.set_cons_zero]
                    clear e0 e1 e2 e3 e4 e5 e6 e7 e8 e9 e10 e11 e12 hf
                    have H9 := hide hJ
                    clear hJ HJ6
                    go_wp2
                    exact ⟨⟨j + 1, by rw [unhide HUP], by go_num, by rw [unhide HZ]; omega, unhide H9⟩, by rw [unhide HZ]; simp [intOf]; omega⟩
              · rw [if_neg hp] at hb
                rw [hb] at hand
                have HUP := hide (mix_no (K := kM s.q.l kk) (B := bM s.q.l kk) (m := s.m) (a := (Y i0).at_.toNat) (b := j) (z := (Y i0).size.toNat) hp)
                clear hb hp hZ
                as_aux_lemma =>
                  go_wp2
                  exact ⟨⟨j + 1, by rw [unhide HUP], by go_num, by rw [unhide HZ]; omega, unhide HJ6⟩, by rw [unhide HZ]; simp [intOf]; omega⟩
            · obtain rfl : j = Z := by omega
              rw [← hZ, mix_end]
              obtain ⟨v, hv⟩ : ∃ v, rdM (src s.q.l s.m kk) (Y i0).at_.toNat (Y i0).size.toNat = v := ⟨_, rfl⟩
              rw [hv]
              have HV := hide hv
              clear hv g0 g1 g2 gl hZ
              go_wp2_with fail
              refine (done_h (unhide HJ6) (i0 : Int)).mono ?_
              rintro r_ w9 ⟨rfl, h9⟩
              rw [unhide HDQ] at h9 ⊢
              cases hrd : e.read with
              | true =>
                rw [hrd] at h9
                have h9' : Heap W w9 [HP.q b (s.q), HP.slw (.slice (some ⟨go, oo, none⟩) n capO) 5 n (opsC Y n), HP.slw (.slice (some ⟨kw, 0, none⟩) n n) 1 n (u64s n (wantF Y)), HP.slw (.slice (some ⟨kp, 0, none⟩) 64 64) 1 64 (bytes 64 (memP Y n)), HP.slw (.slice (some ⟨km, 0, none⟩) 64 64) 1 64 (bytes 64 (s.m)), HP.slw (.slice (some ⟨kg, 0, none⟩) n n) 1 n (u64s n (s.got)), HP.slw (.slice (some ⟨kh, 0, none⟩) n n) 1 n (bls n (s.has)), HP.blk kx #[.bool false, .int .u8 gm, .int .u64 gv] 37] := h9
                have HS8 := hide ((Heap.nth h9' 7 rfl).tail)
                have HRD := hide hrd
                clear h9 h9' hrd o2 lO
                as_aux_lemma =>
                  go_wp2
                  rw [unhide E17]
                  refine ⟨⟨k + 1, s, ⟨unhide HII, (unhide HGG).other (P := P) rfl rfl hlt (fun hk1 hi2 ha2 hp => by
                      have hkk0 : kk = 0 := by have := unhide HKK; have := unhide HI0; omega
                      have h6 : k % 6 = 3 := by rw [← ha2]; exact unhide HA0
                      rw [h6] at hp ⊢
                      have he := unhide HE
                      rw [hkk0] at he
                      exact ⟨fun _ => hlt, fun _ => hp.f2 (by omega), fun _ => hp.f3 (by omega), fun _ e' he' _ => by rw [he] at he'; injection he' with he'; rw [← he']; exact unhide HRD, by omega⟩), by omega, unhide HS8⟩, ?_⟩, by simp [WmuO, intOf]; omega⟩
                  unfold FRO
                  refine ⟨_, _, _, _, _, _, _, _, _, _, _, _, _, _, _, _, _, _, _, _, _, _, _, _, _, _, _, _, _, _, _, _, _, _, _, _, _, _, _, _, _, _, _, _, _, _, _, _, _, _, _, _, _, _, _, _, _, _, _, _, _, _, _, _, _, _, _, _, _, _, _, _, _, _, _, _, _, _, _, _, _, _, _, _, _, _, _, _, _, _, _, _, _, _, _, _, _, _, _, _, _, _, _, _, _, _, _, _, _, _, _, _, _, _, _, _, _, _, _, _, _, _, _, _, _, _, _, _, _, _, _, _, _, _, _, _, _, _, _, _, _, _, _, _, _, _, _, _, _, _, _, _, _, _, _, _, _, _, _, _, _, _, _, _, _, _, _, _, _, _, _, _, _, _, _, _, _, _, _, _, _, _, _, _, _, _, _, _, _, _, _, _, _, _, _, _, _, _, _, _, _, _, _, _, _, _, _, _, _, _, _, _, _, _, _, _, _, _, _, _, _, _, _, _, _, _, _, _, _, _, _, _, _, _, _, _, _, _, _, _, _, _, _, _, _, _, _, _, _, _, _, _, _, _, _, _, _, _, _, _, _, _, _, _, _, _, _, _, _, _, _, _, _, _, _, _, _, _, _, _, _, _, _, _, _, rfl⟩
              | false =>
                rw [hrd] at h9
                have h9' : Heap W w9 [HP.q b (⟨s.q.l.set kk { e with read := true }, s.q.h⟩), HP.slw (.slice (some ⟨go, oo, none⟩) n capO) 5 n (opsC Y n), HP.slw (.slice (some ⟨kw, 0, none⟩) n n) 1 n (u64s n (wantF Y)), HP.slw (.slice (some ⟨kp, 0, none⟩) 64 64) 1 64 (bytes 64 (memP Y n)), HP.slw (.slice (some ⟨km, 0, none⟩) 64 64) 1 64 (bytes 64 (s.m)), HP.slw (.slice (some ⟨kg, 0, none⟩) n n) 1 n (u64s n (s.got)), HP.slw (.slice (some ⟨kh, 0, none⟩) n n) 1 n (bls n (s.has)), HP.blk kx #[.bool false, .int .u8 gm, .int .u64 gv] 37] := h9
                obtain ⟨x0, x1, x2⟩ := u64_cell (Heap.nth h9' 5 rfl).slw hin
                obtain ⟨y0, y1, y2⟩ := bl_cell (Heap.nth h9' 6 rfl).slw hin
                have hne : kh ≠ kg := Heap.ne_ww (Heap.nth (Heap.nth h9' 5 rfl) 6 rfl)
                have hne' : kg ≠ kh := fun h => hne h.symm
                have k1 := (Heap.f6 h9').write (j := i0) (by omega) (.int .u64 v)
                rw [u64s_set _ _ hin] at k1
                have k2 := (Heap.f7 k1).write (j := i0) (by omega) (.bool true)
                rw [bls_set _ _ hin] at k2
                rw [Nat.zero_add] at x0 x1 y0 y1 k2
                have k3 := ((Heap.nth k2 7 rfl).tail.f2).perm (List.perm_append_comm (l₁ := [_, _]) (l₂ := _))
                have HS8 := hide k3
                have RI := (unhide HII).read (unhide HE) (unhide HLE).1 s.q.h (v := v) (by rw [← unhide HKK]; exact (unhide HV).symm) (by rw [← unhide HKK]; exact (unhide HLE).2.2.2.2)
                rw [← unhide HKK] at RI
                have RI := hide RI
                clear h9 h9' k1 k2 k3 hrd o2 lO
                as_aux_lemma =>
                  go_wp2
                  rw [unhide E17]
                  refine ⟨⟨k + 1, { s with q := ⟨s.q.l.set kk { e with read := true }, s.q.h⟩, has := fun i => if i = i0 then true else s.has i, got := fun i => if i = i0 then v else s.got i }, ⟨unhide RI, (unhide HGG).other (P := P) rfl rfl hlt (fun hk1 hi2 ha2 hp => by
                      have hkk0 : kk = 0 := by have := unhide HKK; have := unhide HI0; omega
                      have h6 : k % 6 = 3 := by rw [← ha2]; exact unhide HA0
                      rw [h6] at hp ⊢
                      have he := unhide HE
                      rw [hkk0] at he
                      exact ⟨fun _ => hlt, (fun _ e' he' => by rcases set_get he' with ⟨_, rfl⟩ | ⟨h1, _⟩; exact hp.f2 (by omega) e he; exact absurd hkk0.symm h1), (fun _ e' he' hs' => by rcases set_get he' with ⟨_, rfl⟩ | ⟨h1, _⟩; exact hp.f3 (by omega) e he hs'; exact absurd hkk0.symm h1), (fun _ e' he' _ => by rcases set_get he' with ⟨_, rfl⟩ | ⟨h1, _⟩; rfl; exact absurd hkk0.symm h1), by omega⟩), by omega, unhide HS8⟩, ?_⟩, by simp [WmuO, intOf]; omega⟩
                  unfold FRO
                  refine ⟨_, _, _, _, _, _, _, _, _, _, _, _, _, _, _, _, _, _, _, _, _, _, _, _, _, _, _, _, _, _, _, _, _, _, _, _, _, _, _, _, _, _, _, _, _, _, _, _, _, _, _, _, _, _, _, _, _, _, _, _, _, _, _, _, _, _, _, _, _, _, _, _, _, _, _, _, _, _, _, _, _, _, _, _, _, _, _, _, _, _, _, _, _, _, _, _, _, _, _, _, _, _, _, _, _, _, _, _, _, _, _, _, _, _, _, _, _, _, _, _, _, _, _, _, _, _, _, _, _, _, _, _, _, _, _, _, _, _, _, _, _, _, _, _, _, _, _, _, _, _, _, _, _, _, _, _, _, _, _, _, _, _, _, _, _, _, _, _, _, _, _, _, _, _, _, _, _, _, _, _, _, _, _, _, _, _, _, _, _, _, _, _, _, _, _, _, _, _, _, _, _, _, _, _, _, _, _, _, _, _, _, _, _, _, _, _, _, _, _, _, _, _, _, _, _, _, _, _, _, _, _, _, _, _, _, _, _, _, _, _, _, _, _, _, _, _, _, _, _, _, _, _, _, _, _, _, _, _, _, _, _, _, _, _, _, _, _, _, _, _, _, _, _, _, _, _, _, _, _, _, _, _, _, _, _, rfl⟩
end Go.Proofs.Ytdmkgomcomcfhaa
