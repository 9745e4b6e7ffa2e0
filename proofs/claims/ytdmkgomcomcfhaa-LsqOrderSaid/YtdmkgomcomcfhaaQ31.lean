/- Layer 23: LsqOrder: the pass, the first one leaves. -/
import Derived.Test.YtdmkgomcomcfhaaQ28
namespace Go.Proofs.Ytdmkgomcomcfhaa
open Go.RowKit
variable {W : World} {Y : Nat → OpS} {P : Nat → Int} {A A2 AO : Option Addr} {n cap p cap2 capO b kw kp km kg kh : Nat}
set_option maxRecDepth 1000000 in
set_option maxHeartbeats 8000000 in
theorem case_pop (hY : ∀ i, i < n → YOk (Y i)) (hn : n ≤ 4398046511104) (hp : p ≤ 17592186044416) (hP : PkO W A2 p P) {k : Nat} {s : PS} {wr : World} (hR : RelO W Y A A2 AO n cap p cap2 capO b kw kp km kg kh k s wr) (hk : k < p + 12 * n) {ac : Nat} (ha : actN P p s k = ac) (hac0 : (ac = 0 ∧ ¬ s.next < n) ∨ ac = 4 ∨ ac = 5) (hlt : s.first < s.next) (Q0 : Exit → Act → World → Prop) (c2 c3 c9 c10 c33 c34 c35 c36 c37 c38 c39 c40 c41 c42 c43 c44 c45 c46 c47 c48 c49 c50 c51 c52 c53 c54 c55 c56 c57 c58 c59 c60 c61 c62 c63 c64 c65 c66 c67 c68 c69 c70 c71 c72 c73 c74 c75 c76 c77 c78 c79 c349 c350 c351 c352 c353 c354 c355 c356 c357 c358 u4 u18 u19 u20 u21 u22 u23 u24 u25 u26 u27 u28 u29 u30 u31 u32 u80 u81 u82 u83 u84 u85 u86 u87 u88 u89 u90 u91 u92 u93 u94 u95 u96 u97 u98 u99 u100 u101 u102 u103 u104 u105 u106 u107 u108 u109 u110 u111 u112 u113 u114 u115 u116 u117 u118 u119 u120 u121 u122 u123 u124 u125 u126 u127 u128 u129 u130 u131 u132 u133 u134 u135 u136 u137 u138 u139 u140 u141 u142 u143 u144 u145 u146 u147 u148 u149 u150 u151 u152 u153 u154 u155 u156 u157 u158 u159 u160 u161 u162 u163 u164 u165 u166 u167 u168 u169 u170 u171 u172 u173 u174 u175 u176 u177 u178 u179 u180 u181 u182 u183 u184 u185 u186 u187 u188 u189 u190 u191 u192 u193 u194 u195 u196 u197 u198 u199 u200 u201 u202 u203 u204 u205 u206 u207 u208 u209 u210 u211 u212 u213 u214 u215 u216 u217 u218 u219 u220 u221 u222 u223 u224 u225 u226 u227 u228 u229 u230 u231 u232 u233 u234 u235 u236 u237 u238 u239 u240 u241 u242 u243 u244 u245 u246 u247 u248 u249 u250 u251 u252 u253 u254 u255 u256 u257 u258 u259 u260 u261 u262 u263 u264 u265 u266 u267 u268 u269 u270 u271 u272 u273 u274 u275 u276 u277 u278 u279 u280 u281 u282 u283 u284 u285 u286 u287 u288 u289 u290 u291 u292 u293 u294 u295 u296 u297 u298 u299 u300 u301 u302 u303 u304 u305 u306 u307 u308 u309 u310 u311 u312 u313 u314 u315 u316 u317 u318 u319 u320 u321 u322 u323 u324 u325 u326 u327 u328 u329 u330 u331 u332 u333 u334 u335 u336 u337 u338 u339 u340 u341 u342 u343 u344 u345 u346 u347 u348 : Value) :
    Code.wp Try.prog bodyO (Exit.then (fun a' w'' => WIO W Y c2 c3 c9 c10 c33 c34 c35 c36 c37 c38 c39 c40 c41 c42 c43 c44 c45 c46 c47 c48 c49 c50 c51 c52 c53 c54 c55 c56 c57 c58 c59 c60 c61 c62 c63 c64 c65 c66 c67 c68 c69 c70 c71 c72 c73 c74 c75 c76 c77 c78 c79 c349 c350 c351 c352 c353 c354 c355 c356 c357 c358 A A2 AO n cap p cap2 capO b kw kp km kg kh a' w'' ∧ WmuO (p + 12 * n) a' w'' < p + 12 * n - k) Q0) ⟨#[.slice A n cap, .slice A2 p cap2, c2, c3, u4, .int .i64 (n : Int), .slice AO n capO, .slice (some ⟨kw, 0, none⟩) n n, .slice (some ⟨kp, 0, none⟩) 64 64, c9, c10, .pointer (some ⟨b, 0, none⟩), .slice (some ⟨km, 0, none⟩) 64 64, .slice (some ⟨kg, 0, none⟩) n n, .slice (some ⟨kh, 0, none⟩) n n, .int .i64 (s.first : Int), .int .i64 (s.next : Int), .int .i64 (k : Int), u18, u19, u20, u21, u22, u23, u24, u25, u26, u27, u28, u29, u30, u31, u32, c33, c34, c35, c36, c37, c38, c39, c40, c41, c42, c43, c44, c45, c46, c47, c48, c49, c50, c51, c52, c53, c54, c55, c56, c57, c58, c59, c60, c61, c62, c63, c64, c65, c66, c67, c68, c69, c70, c71, c72, c73, c74, c75, c76, c77, c78, c79, u80, u81, u82, u83, u84, u85, u86, u87, u88, u89, u90, u91, u92, u93, u94, u95, u96, u97, u98, u99, u100, u101, u102, u103, u104, u105, u106, u107, u108, u109, u110, u111, u112, u113, u114, u115, u116, u117, u118, u119, u120, u121, u122, u123, u124, u125, u126, u127, u128, u129, u130, u131, u132, u133, u134, u135, u136, u137, u138, u139, u140, u141, u142, u143, u144, u145, u146, u147, u148, u149, u150, u151, u152, u153, u154, u155, u156, u157, u158, u159, u160, u161, u162, u163, u164, u165, u166, u167, u168, u169, u170, u171, u172, u173, u174, u175, u176, u177, u178, u179, u180, u181, u182, u183, u184, u185, u186, u187, u188, u189, u190, u191, u192, u193, u194, u195, u196, u197, u198, u199, u200, u201, u202, u203, u204, u205, u206, u207, u208, u209, u210, u211, u212, u213, u214, u215, u216, u217, u218, u219, u220, u221, u222, u223, u224, u225, u226, u227, u228, u229, u230, u231, u232, u233, u234, u235, u236, u237, u238, u239, u240, u241, u242, u243, u244, u245, u246, u247, u248, u249, u250, u251, u252, u253, u254, u255, u256, u257, u258, u259, u260, u261, u262, u263, u264, u265, u266, u267, u268, u269, u270, u271, u272, u273, u274, u275, u276, u277, u278, u279, u280, u281, u282, u283, u284, u285, u286, u287, u288, u289, u290, u291, u292, u293, u294, u295, u296, u297, u298, u299, u300, u301, u302, u303, u304, u305, u306, u307, u308, u309, u310, u311, u312, u313, u314, u315, u316, u317, u318, u319, u320, u321, u322, u323, u324, u325, u326, u327, u328, u329, u330, u331, u332, u333, u334, u335, u336, u337, u338, u339, u340, u341, u342, u343, u344, u345, u346, u347, u348, c349, c350, c351, c352, c353, c354, c355, c356, c357, c358], []⟩ wr := by
  have HLT := hide hlt
  clear hlt
  obtain ⟨hI, hG, hkl, hJ⟩ := hR
  have hfn := hI.fn
  have hlen := hI.len
  obtain ⟨r6, hr6⟩ : ∃ r, k % 6 = r := ⟨_, rfl⟩
  have ht6 : (k : Int).tmod 6 = (r6 : Int) := by rw [Int.tmod_eq_emod_of_nonneg (by omega)]; omega
  obtain ⟨i0, hi0⟩ : ∃ i, iN P p s k = i := ⟨_, rfl⟩
  have HII := hide hI
  have HGG := hide hG
  have HR6 := hide hr6
  have HI0 := hide hi0
  have HA0 := hide ha
  have HJ := hide hJ
  clear hI hG hi0 hr6 ha hJ
  conv => arg 2; whnf
  go_upto_if 95 with fail
  go_cut [18, 19] from 80 to 348 (fun s18 s19 wx => s18 = .int .i64 (ac : Nat) ∧ s19 = .int .i64 (i0 : Nat) ∧ wx = wr)
  case first =>
    by_cases hkp : k < p
    · obtain ⟨⟨pk0, pk1⟩, hpk⟩ := hP k hkp
      obtain ⟨ab2, ao2, rfl, hc2, hab2⟩ := hpk wr (unhide HJ).below
      obtain ⟨pk, hpk2⟩ : ∃ x, P k = x := ⟨_, rfl⟩
      rw [hpk2] at pk0 pk1 hc2
      have HPK := hide hpk2
      obtain ⟨a6, ha6⟩ : ∃ x, pk % 6 = x := ⟨_, rfl⟩
      have htm : pk.tmod 6 = a6 := by rw [Int.tmod_eq_emod_of_nonneg (by omega)]; exact ha6
      have hw6 : IntKind.i64.wrap a6 = a6 := i64_in (by omega) (by omega)
      have ha6b : 0 ≤ a6 ∧ a6 < 6 := by omega
      have hac : a6 = (ac : Int) := by
        have := unhide HA0
        unfold actN at this
        rw [if_pos hkp, unhide HPK, ha6] at this
        omega
      by_cases hf : s.first < s.next
      · obtain ⟨d, hd⟩ : ∃ d : Nat, s.next - s.first = d := ⟨_, rfl⟩
        obtain ⟨x, hx⟩ : ∃ x, pk / 256 = x := ⟨_, rfl⟩
        obtain ⟨y, hy⟩ : ∃ y, x % (d : Int) = y := ⟨_, rfl⟩
        have hdd : (s.next : Int) - (s.first : Int) = (d : Int) := by omega
        have hwd : IntKind.u64.wrap (d : Int) = (d : Int) := by rw [IntKind.wrap_u64]; omega
        have hxt : x.tmod (d : Int) = y := by rw [Int.tmod_eq_emod_of_nonneg (by omega)]; exact hy
        have hd0 : ((d : Int) == 0) = false := beq_eq_false_iff_ne.2 (by omega)
        have hyb : 0 ≤ y ∧ y < (d : Int) := by rw [← hy]; exact ⟨Int.emod_nonneg _ (by omega), Int.emod_lt_of_pos _ (by omega)⟩
        have hwy : IntKind.i64.wrap y = y := i64_in (by omega) (by omega)
        have hii : (s.first : Int) + y = (i0 : Int) := by
          have := unhide HI0
          unfold iN at this
          rw [if_pos ⟨hkp, hf⟩, unhide HPK, hx, hd, hy] at this
          omega
        have HF := hide (And.intro hac hii)
        have HXY := hide (show pk / 256 % (d : Int) = y by rw [hx]; exact hy)
        clear ha6 hx hy hac hii hd
        as_aux_lemma =>
          go_wp2
          all_goals
            go_meet
            exact ⟨by rw [(unhide HF).1], by rw [unhide HXY, w64_in (x := y) (by omega) (by omega), w64_in (x := (s.first : Int) + y) (by omega) (by omega), (unhide HF).2], rfl⟩
      · have hii : s.first = i0 := by
          have := unhide HI0
          unfold iN at this
          rw [if_neg (fun h => hf h.2)] at this
          exact this
        have HF := hide (And.intro hac hii)
        clear ha6 hac hii
        as_aux_lemma =>
          go_wp2
          all_goals
            go_meet
            exact ⟨by rw [(unhide HF).1], by rw [(unhide HF).2], rfl⟩
    · have hii : s.first = i0 := by
        have := unhide HI0
        unfold iN at this
        rw [if_neg (fun h => hkp h.1)] at this
        exact this
      by_cases hf : s.first = s.next
      · have hz : ((s.first : Int) == (s.next : Int)) = true := by rw [hf]; simp
        have hac : 0 = ac := by
          have := unhide HA0
          unfold actN at this
          rw [if_neg hkp, if_pos hf] at this
          exact this
        have HF := hide (And.intro hac hii)
        clear hac hii hf
        as_aux_lemma =>
          go_wp2
          all_goals
            go_meet
            exact ⟨by rw [← (unhide HF).1]; rfl, by rw [(unhide HF).2], rfl⟩
      · have hz : ((s.first : Int) == (s.next : Int)) = false := beq_eq_false_iff_ne.2 (by omega)
        have hac : r6 = ac := by
          have := unhide HA0
          unfold actN at this
          rw [if_neg hkp, if_neg hf, unhide HR6] at this
          exact this
        have HF := hide (And.intro hac hii)
        clear hac hii hf
        as_aux_lemma =>
          go_wp2
          all_goals
            go_meet
            exact ⟨by rw [(unhide HF).1], by rw [(unhide HF).2], rfl⟩
  case rest =>
    obtain ⟨rfl, rfl, rfl⟩ := hcut
    clear ht6
    skip
    have hlt := unhide HLT
    clear HLT
    have hi1 := unhide HI0
    have hlt2 := iN_lt (P := P) (p := p) (k := k) hlt
    rw [hi1] at hlt2
    clear hP hi1
    have hin : s.first < n := by omega
    have HYF := hide (hY s.first hin)
    have E17 : Hid ((k : Int) + 1 = ((k + 1 : Nat) : Int)) := hide rfl
    obtain ⟨go, oo, co, hv, _⟩ := (unhide HJ).f2.slw.addr (by omega)
    injection hv with hv _ hv2
    subst hv hv2
    obtain ⟨c0, c1, c2, c3, c4, hol⟩ := ops_cells (unhide HJ).f2.slw hin
    have hQI := hide (unhide HJ).qI
    have z1 : ((ac : Int) == 1) = false := beq_eq_false_iff_ne.2 (by omega)
    have z2 : ((ac : Int) == 2) = false := beq_eq_false_iff_ne.2 (by omega)
    have z3 : ((ac : Int) == 3) = false := beq_eq_false_iff_ne.2 (by omega)
    have HAC := hide hac0
    go_upto_region 41 with fail
    go_cut [171] from 172 to 178 (fun s171 wx => s171 = .bool false ∧ wx = wc)
    case first =>
      by_cases h0 : ac = 0
      · have hz : ((ac : Int) == 0) = true := by rw [h0]; rfl
        have hnn : ¬ s.next < n := by omega
        clear h0 hac0 z1 z2 z3
        as_aux_lemma =>
          go_wp2
          go_meet
          exact ⟨rfl, rfl⟩
      · have hz : ((ac : Int) == 0) = false := beq_eq_false_iff_ne.2 (by omega)
        clear h0 hac0 z1 z2 z3
        as_aux_lemma =>
          go_wp2
          go_meet
          exact ⟨rfl, rfl⟩
    case rest =>
      obtain ⟨rfl, hwcc⟩ := hcut
      subst hwcc
      clear hac0
      go_wp2_with fail
      refine (pop_h (unhide HJ)).mono ?_
      rintro r_ w5 ⟨rfl, h5⟩
      obtain ⟨c0, c1, c2, c3, c4, hol⟩ := ops_cells h5.f2.slw hin
      have H5 := hide h5
      clear h5 HJ
      obtain ⟨e, t, hlt3⟩ : ∃ e t, s.q.l = e :: t := by
        cases hl : s.q.l with
        | nil => rw [hl] at hlen; simp at hlen; omega
        | cons e t => exact ⟨e, t, rfl⟩
      cases hrd : e.ready with
      | false =>
        have hpq : popQ s.q = ((0, false), s.q) := by
          unfold popQ
          rw [hlt3]
          dsimp only
          rw [hrd]
          rfl
        rw [hpq] at H5 ⊢
        have HL3 := hide (show s.q.l[0]? = some e by rw [hlt3]; rfl)
        have HRD := hide hrd
        clear hlt3 hrd hpq
        as_aux_lemma =>
          go_wp2
          rw [unhide E17]
          refine ⟨⟨k + 1, s, ⟨unhide HII, (unhide HGG).other (P := P) rfl rfl hlt (fun hk1 hi2 ha2 hp => by
                      have h6 : k % 6 = ac := by rw [← ha2]; exact unhide HA0
                      rw [h6] at hp ⊢
                      rcases unhide HAC with ⟨h, _⟩ | h | h
                      · rw [h]
                        exact ⟨fun _ => hlt, fun h => by omega, fun h => by omega, fun h => by omega, by omega⟩
                      · rw [h] at hp
                        have := hp.head (unhide HL3)
                        rw [unhide HRD] at this
                        cases this
                      · exact absurd h hp.f5), by omega, unhide H5⟩, ?_⟩, by simp [WmuO, intOf]; omega⟩
          unfold FRO
          refine ⟨_, _, _, _, _, _, _, _, _, _, _, _, _, _, _, _, _, _, _, _, _, _, _, _, _, _, _, _, _, _, _, _, _, _, _, _, _, _, _, _, _, _, _, _, _, _, _, _, _, _, _, _, _, _, _, _, _, _, _, _, _, _, _, _, _, _, _, _, _, _, _, _, _, _, _, _, _, _, _, _, _, _, _, _, _, _, _, _, _, _, _, _, _, _, _, _, _, _, _, _, _, _, _, _, _, _, _, _, _, _, _, _, _, _, _, _, _, _, _, _, _, _, _, _, _, _, _, _, _, _, _, _, _, _, _, _, _, _, _, _, _, _, _, _, _, _, _, _, _, _, _, _, _, _, _, _, _, _, _, _, _, _, _, _, _, _, _, _, _, _, _, _, _, _, _, _, _, _, _, _, _, _, _, _, _, _, _, _, _, _, _, _, _, _, _, _, _, _, _, _, _, _, _, _, _, _, _, _, _, _, _, _, _, _, _, _, _, _, _, _, _, _, _, _, _, _, _, _, _, _, _, _, _, _, _, _, _, _, _, _, _, _, _, _, _, _, _, _, _, _, _, _, _, _, _, _, _, _, _, _, _, _, _, _, _, _, _, _, _, _, _, _, _, _, _, _, _, _, _, _, _, _, _, _, _, rfl⟩
      | true =>
        have hpq : popQ s.q = ((e.tag, true), ⟨t, s.q.h⟩) := by
          unfold popQ
          rw [hlt3]
          dsimp only
          rw [hrd]
          rfl
        have htag : e.tag = (s.first : Int) := by
          have := (unhide HII).tags (i := 0) (x := e) (by rw [hlt3]; rfl)
          simpa using this
        rw [hpq, htag] at H5 ⊢
        dsimp only at H5 ⊢
        obtain ⟨pi, pw⟩ := (unhide HII).pop (unhide hQI) hY hlt3 hrd s.q.h
        have hzf : ((s.first : Int) != (s.first : Int)) = false := by simp
        clear hlt3 hrd hpq htag
        cases hst : (Y s.first).store with
        | true =>
          rw [hst] at c0 pi
          simp only [if_true] at pi
          have PI := hide pi
          clear pi pw hst
          ·
            go_upto_region 37 with fail
            clear c0 c1 c2 c3 c4
            obtain ⟨vals, e0, e1, e2, e3, e4, e5, e6, e7, e8, e9, e10, e11, e12, e13, e14, e15, e16⟩ : ∃ vals : Nat → Value, vals 0 = .slice (some ⟨km, 0, none⟩) 64 64 ∧ vals 1 = .slice (some ⟨go, oo, none⟩) n capO ∧ vals 2 = .int .i64 (s.first : Int) ∧ vals 3 = .pointer (some ⟨go, oo + s.first * 5, none⟩) ∧ vals 4 = .pointer (some ⟨go, oo + s.first * 5 + 1, none⟩) ∧ vals 5 = .int .i64 (Y s.first).at_ ∧ vals 6 = .slice (some ⟨go, oo, none⟩) n capO ∧ vals 7 = .int .i64 (s.first : Int) ∧ vals 8 = .pointer (some ⟨go, oo + s.first * 5, none⟩) ∧ vals 9 = .pointer (some ⟨go, oo + s.first * 5 + 2, none⟩) ∧ vals 10 = .int .i64 (Y s.first).size ∧ vals 11 = .slice (some ⟨go, oo, none⟩) n capO ∧ vals 12 = .int .i64 (s.first : Int) ∧ vals 13 = .pointer (some ⟨go, oo + s.first * 5, none⟩) ∧ vals 14 = .pointer (some ⟨go, oo + s.first * 5 + 3, none⟩) ∧ vals 15 = .int .u64 (Y s.first).v ∧ vals 16 = .tuple #[] :=
              ⟨fun k_ => match k_ with
                | 0 => .slice (some ⟨km, 0, none⟩) 64 64
                | 1 => .slice (some ⟨go, oo, none⟩) n capO
                | 2 => .int .i64 (s.first : Int)
                | 3 => .pointer (some ⟨go, oo + s.first * 5, none⟩)
                | 4 => .pointer (some ⟨go, oo + s.first * 5 + 1, none⟩)
                | 5 => .int .i64 (Y s.first).at_
                | 6 => .slice (some ⟨go, oo, none⟩) n capO
                | 7 => .int .i64 (s.first : Int)
                | 8 => .pointer (some ⟨go, oo + s.first * 5, none⟩)
                | 9 => .pointer (some ⟨go, oo + s.first * 5 + 2, none⟩)
                | 10 => .int .i64 (Y s.first).size
                | 11 => .slice (some ⟨go, oo, none⟩) n capO
                | 12 => .int .i64 (s.first : Int)
                | 13 => .pointer (some ⟨go, oo + s.first * 5, none⟩)
                | 14 => .pointer (some ⟨go, oo + s.first * 5 + 3, none⟩)
                | 15 => .int .u64 (Y s.first).v
                | _ => .tuple #[]
                , rfl, rfl, rfl, rfl, rfl, rfl, rfl, rfl, rfl, rfl, rfl, rfl, rfl, rfl, rfl, rfl, rfl⟩
            refine wp_region_V (J1 16 (fun a1 w_ => Heap W w_ [HP.q b ⟨t, s.q.h⟩, HP.slw (.slice (some ⟨go, oo, none⟩) n capO) 5 n (opsC Y n), HP.slw (.slice (some ⟨kw, 0, none⟩) n n) 1 n (u64s n (wantF Y)), HP.slw (.slice (some ⟨kp, 0, none⟩) 64 64) 1 64 (bytes 64 (memP Y n)), HP.slw (.slice (some ⟨km, 0, none⟩) 64 64) 1 64 (bytes 64 (bif a1 then wrM s.m (Y s.first).at_.toNat (Y s.first).size.toNat (Y s.first).v else s.m)), HP.slw (.slice (some ⟨kg, 0, none⟩) n n) 1 n (u64s n s.got), HP.slw (.slice (some ⟨kh, 0, none⟩) n n) 1 n (bls n s.has)])) vals fol (by kernel_rfl) (J1.start ?_) ?_ ?_
            · exact (unhide H5).drew
            · show wpV _ _ _ _ 0 (_ :: _) _
              refine wpV_cons e0 (j1val (by decide) (.slice (some ⟨km, 0, none⟩) 64 64) fun a1 w_ hK => ?_) ?_
              · exact ⟨by kernel_rfl, by kernel_rfl⟩
              refine wpV_cons e1 (j1val (by decide) (.slice (some ⟨go, oo, none⟩) n capO) fun a1 w_ hK => ?_) ?_
              · exact ⟨by kernel_rfl, by kernel_rfl⟩
              refine wpV_cons e2 (j1val (by decide) (.int .i64 (s.first : Int)) fun a1 w_ hK => ?_) ?_
              · exact ⟨by kernel_rfl, by kernel_rfl⟩
              refine wpV_cons e3 (j1op (by decide) (Instr.indexAt 50 (.slice (some ⟨go, oo, none⟩) n capO) (.int .i64 (s.first : Nat))) (.pointer (some ⟨go, oo + s.first * 5, none⟩)) fun a1 w_ hK => ?_) ?_
              · exact ⟨by kernel_rfl, by kernel_rfl, (run_ixat 50 54 5 Try.underlying50 (by kernel_rfl) _ _ _ _ _ hin w_)⟩
              refine wpV_cons e4 (j1val (by decide) (.pointer (some ⟨go, oo + s.first * 5 + 1, none⟩)) fun a1 w_ hK => ?_) ?_
              · exact ⟨by kernel_rfl, by kernel_rfl⟩
              refine wpV_cons e5 (j1op (by decide) (Instr.loadAt 3 (.pointer (some ⟨go, oo + s.first * 5 + 1, none⟩))) (.int .i64 (Y s.first).at_) fun a1 w_ hK => ?_) ?_
              · exact ⟨by kernel_rfl, by kernel_rfl, run_load1 (by kernel_rfl) (ops_cells (Heap.f2 hK).slw hin).2.1⟩
              refine wpV_cons e6 (j1val (by decide) (.slice (some ⟨go, oo, none⟩) n capO) fun a1 w_ hK => ?_) ?_
              · exact ⟨by kernel_rfl, by kernel_rfl⟩
              refine wpV_cons e7 (j1val (by decide) (.int .i64 (s.first : Int)) fun a1 w_ hK => ?_) ?_
              · exact ⟨by kernel_rfl, by kernel_rfl⟩
              refine wpV_cons e8 (j1op (by decide) (Instr.indexAt 50 (.slice (some ⟨go, oo, none⟩) n capO) (.int .i64 (s.first : Nat))) (.pointer (some ⟨go, oo + s.first * 5, none⟩)) fun a1 w_ hK => ?_) ?_
              · exact ⟨by kernel_rfl, by kernel_rfl, (run_ixat 50 54 5 Try.underlying50 (by kernel_rfl) _ _ _ _ _ hin w_)⟩
              refine wpV_cons e9 (j1val (by decide) (.pointer (some ⟨go, oo + s.first * 5 + 2, none⟩)) fun a1 w_ hK => ?_) ?_
              · exact ⟨by kernel_rfl, by kernel_rfl⟩
              refine wpV_cons e10 (j1op (by decide) (Instr.loadAt 3 (.pointer (some ⟨go, oo + s.first * 5 + 2, none⟩))) (.int .i64 (Y s.first).size) fun a1 w_ hK => ?_) ?_
              · exact ⟨by kernel_rfl, by kernel_rfl, run_load1 (by kernel_rfl) (ops_cells (Heap.f2 hK).slw hin).2.2.1⟩
              refine wpV_cons e11 (j1val (by decide) (.slice (some ⟨go, oo, none⟩) n capO) fun a1 w_ hK => ?_) ?_
              · exact ⟨by kernel_rfl, by kernel_rfl⟩
              refine wpV_cons e12 (j1val (by decide) (.int .i64 (s.first : Int)) fun a1 w_ hK => ?_) ?_
              · exact ⟨by kernel_rfl, by kernel_rfl⟩
              refine wpV_cons e13 (j1op (by decide) (Instr.indexAt 50 (.slice (some ⟨go, oo, none⟩) n capO) (.int .i64 (s.first : Nat))) (.pointer (some ⟨go, oo + s.first * 5, none⟩)) fun a1 w_ hK => ?_) ?_
              · exact ⟨by kernel_rfl, by kernel_rfl, (run_ixat 50 54 5 Try.underlying50 (by kernel_rfl) _ _ _ _ _ hin w_)⟩
              refine wpV_cons e14 (j1val (by decide) (.pointer (some ⟨go, oo + s.first * 5 + 3, none⟩)) fun a1 w_ hK => ?_) ?_
              · exact ⟨by kernel_rfl, by kernel_rfl⟩
              refine wpV_cons e15 (j1op (by decide) (Instr.loadAt 28 (.pointer (some ⟨go, oo + s.first * 5 + 3, none⟩))) (.int .u64 (Y s.first).v) fun a1 w_ hK => ?_) ?_
              · exact ⟨by kernel_rfl, by kernel_rfl, run_load1 (by kernel_rfl) (ops_cells (Heap.f2 hK).slw hin).2.2.2.1⟩
              refine wpV_cons e16 (j1ecall 31 #[.slice (some ⟨km, 0, none⟩) 64 64, .int .i64 (Y s.first).at_, .int .i64 (Y s.first).size, .int .u64 (Y s.first).v] (.tuple #[]) fun w_ hK => ?_) wpV_nil
              · exact ⟨by kernel_rfl, by kernel_rfl, by have hK' : Heap W w_ [HP.q b ⟨t, s.q.h⟩, HP.slw (.slice (some ⟨go, oo, none⟩) n capO) 5 n (opsC Y n), HP.slw (.slice (some ⟨kw, 0, none⟩) n n) 1 n (u64s n (wantF Y)), HP.slw (.slice (some ⟨kp, 0, none⟩) 64 64) 1 64 (bytes 64 (memP Y n)), HP.slw (.slice (some ⟨km, 0, none⟩) 64 64) 1 64 (bytes 64 s.m), HP.slw (.slice (some ⟨kg, 0, none⟩) n n) 1 n (u64s n s.got), HP.slw (.slice (some ⟨kh, 0, none⟩) n n) 1 n (bls n s.has)] := hK; exact (write_i hK'.f5 (unhide HYF) (Y s.first).v (unhide HYF).v).mono fun e w' ⟨hr, hw⟩ => ⟨hr, hw.b5⟩⟩
            · intro w_ hJ2
              have h6 := hJ2.done (by decide)
              clear hJ2
              simp only [cond_true] at h6
              simp only [fillG, Nat.zero_add, Nat.reduceAdd, e0, e1, e2, e3, e4, e5, e6, e7, e8, e9, e10, e11, e12, e13, e14, e15, e16, Act.put, List.setIfInBounds_toArray, List.set_cons_succ, List.set_cons_zero]
              clear e0 e1 e2 e3 e4 e5 e6 e7 e8 e9 e10 e11 e12 e13 e14 e15 e16
              have H6 := hide h6
              clear h6 H5
              go_wp2
              rw [unhide E17, show (s.first : Int) + 1 = ((s.first + 1 : Nat) : Int) from rfl]
              refine ⟨⟨k + 1, { s with q := ⟨t, s.q.h⟩, first := s.first + 1, m := wrM s.m (Y s.first).at_.toNat (Y s.first).size.toNat (Y s.first).v }, ⟨unhide PI, (unhide HGG).step (by dsimp only; omega) (fun _ _ _ => .inl (Nat.le_refl _)), by omega, unhide H6⟩, ?_⟩, by simp [WmuO, intOf]; omega⟩
              unfold FRO
              refine ⟨_, _, _, _, _, _, _, _, _, _, _, _, _, _, _, _, _, _, _, _, _, _, _, _, _, _, _, _, _, _, _, _, _, _, _, _, _, _, _, _, _, _, _, _, _, _, _, _, _, _, _, _, _, _, _, _, _, _, _, _, _, _, _, _, _, _, _, _, _, _, _, _, _, _, _, _, _, _, _, _, _, _, _, _, _, _, _, _, _, _, _, _, _, _, _, _, _, _, _, _, _, _, _, _, _, _, _, _, _, _, _, _, _, _, _, _, _, _, _, _, _, _, _, _, _, _, _, _, _, _, _, _, _, _, _, _, _, _, _, _, _, _, _, _, _, _, _, _, _, _, _, _, _, _, _, _, _, _, _, _, _, _, _, _, _, _, _, _, _, _, _, _, _, _, _, _, _, _, _, _, _, _, _, _, _, _, _, _, _, _, _, _, _, _, _, _, _, _, _, _, _, _, _, _, _, _, _, _, _, _, _, _, _, _, _, _, _, _, _, _, _, _, _, _, _, _, _, _, _, _, _, _, _, _, _, _, _, _, _, _, _, _, _, _, _, _, _, _, _, _, _, _, _, _, _, _, _, _, _, _, _, _, _, _, _, _, _, _, _, _, _, _, _, _, _, _, _, _, _, _, _, _, _, _, _, rfl⟩
        | false =>
          obtain ⟨hhas, hgot⟩ := pw hst
          have hwant : wantF Y s.first = rdM (memP Y s.first) (Y s.first).at_.toNat (Y s.first).size.toNat := by unfold wantF; rw [hst]; rfl
          obtain ⟨gotv, hgv⟩ : ∃ x, rdM (memP Y s.first) (Y s.first).at_.toNat (Y s.first).size.toNat = x := ⟨_, rfl⟩
          rw [hgv] at hgot hwant
          rw [hst] at c0 pi
          simp only [Bool.false_eq_true, if_false] at pi
          have PI := hide pi
          clear pi pw hst hgv
          ·
            go_upto_region 38 with fail
            clear c0 c1 c2 c3 c4
            refine wp_region_F (fun w_ => Heap W w_ [HP.q b ⟨t, s.q.h⟩, HP.slw (.slice (some ⟨go, oo, none⟩) n capO) 5 n (opsC Y n), HP.slw (.slice (some ⟨kw, 0, none⟩) n n) 1 n (u64s n (wantF Y)), HP.slw (.slice (some ⟨kp, 0, none⟩) 64 64) 1 64 (bytes 64 (memP Y n)), HP.slw (.slice (some ⟨km, 0, none⟩) 64 64) 1 64 (bytes 64 s.m), HP.slw (.slice (some ⟨kg, 0, none⟩) n n) 1 n (u64s n s.got), HP.slw (.slice (some ⟨kh, 0, none⟩) n n) 1 n (bls n s.has)]) (fun _ _ => True) (fun k_ v_ w_ => match k_ with
                | 0 => v_ = .slice (some ⟨kh, 0, none⟩) n n
                | 1 => v_ = .int .i64 (s.first : Int)
                | 2 => v_ = .pointer (some ⟨kh, 0 + s.first * 1, none⟩)
                | 3 => v_ = .bool true
                | 4 => v_ = .bool false
                | 5 => v_ = .bool false
                | 6 => v_ = .slice (some ⟨kg, 0, none⟩) n n
                | 7 => v_ = .int .i64 (s.first : Int)
                | 8 => v_ = .pointer (some ⟨kg, 0 + s.first * 1, none⟩)
                | 9 => v_ = .int .u64 gotv
                | 10 => v_ = .slice (some ⟨kw, 0, none⟩) n n
                | 11 => v_ = .int .i64 (s.first : Int)
                | 12 => v_ = .pointer (some ⟨kw, 0 + s.first * 1, none⟩)
                | 13 => v_ = .int .u64 gotv
                | 14 => v_ = .bool false
                | _ => v_ = .bool false) fol (by kernel_rfl) ?_ ?_ ?_ ?_
            · exact (unhide H5).drew
            · intro k_ v_ w_ w2_ h1 hg
              split at h1 <;> exact h1
            · intro vals
              show wpG _ _ _ _ _ _ 0 (_ :: _) _
              refine wpG_cons (gval (.slice (some ⟨kh, 0, none⟩) n n) (fun _ => trivial) fun w_ hJ hd => ?_) ?_
              · exact ⟨by kernel_rfl, by kernel_rfl, rfl⟩
              refine wpG_cons (gval (.int .i64 (s.first : Int)) (fun _ => trivial) fun w_ hJ hd => ?_) ?_
              · exact ⟨by kernel_rfl, by kernel_rfl, rfl⟩
              refine wpG_cons (gop (Instr.indexAt 58 (.slice (some ⟨kh, 0, none⟩) n n) (.int .i64 (s.first : Nat))) (.pointer (some ⟨kh, 0 + s.first * 1, none⟩)) (fun _ => trivial) fun w_ hJ hd => ?_) ?_
              · have e0 : vals 0 = _ := hd 0 (by decide) (by kernel_rfl)
                have e1 : vals 1 = _ := hd 1 (by decide) (by kernel_rfl)
                rw [e0, e1]
                exact ⟨by kernel_rfl, by kernel_rfl, (run_ixat 58 4 1 (by kernel_rfl) (by kernel_rfl) _ _ _ _ _ hin w_), rfl⟩
              refine wpG_cons (gop (Instr.loadAt 4 (.pointer (some ⟨kh, 0 + s.first * 1, none⟩))) (.bool true) (fun _ => trivial) fun w_ hJ hd => ?_) ?_
              · have e2 : vals 2 = _ := hd 2 (by decide) (by kernel_rfl)
                rw [e2]
                exact ⟨by kernel_rfl, by kernel_rfl, run_load1 (by kernel_rfl) (by rw [Nat.mul_one]; exact (by have := (bl_cell (Heap.nth hJ 6 rfl).slw hin).1; rw [hhas] at this; exact this)), rfl⟩
              refine wpG_cons (gval (.bool false) (fun _ => trivial) fun w_ hJ hd => ?_) ?_
              · have e3 : vals 3 = _ := hd 3 (by decide) (by kernel_rfl)
                rw [e3]
                exact ⟨by kernel_rfl, by kernel_rfl, rfl⟩
              refine wpG_cons (gval (.bool false) (fun _ => trivial) fun w_ hJ hd => ?_) ?_
              · have e4 : vals 4 = _ := hd 4 (by decide) (by kernel_rfl)
                rw [e4]
                exact ⟨by kernel_rfl, by kernel_rfl, rfl⟩
              refine wpG_cons (gval (.slice (some ⟨kg, 0, none⟩) n n) (fun _ => trivial) fun w_ hJ hd => ?_) ?_
              · have e5 : vals 5 = _ := hd 5 (by decide) (by kernel_rfl)
                rw [e5]
                exact ⟨by kernel_rfl, by kernel_rfl, rfl⟩
              refine wpG_cons (gval (.int .i64 (s.first : Int)) (fun _ => trivial) fun w_ hJ hd => ?_) ?_
              · have e5 : vals 5 = _ := hd 5 (by decide) (by kernel_rfl)
                rw [e5]
                exact ⟨by kernel_rfl, by kernel_rfl, rfl⟩
              refine wpG_cons (gop (Instr.indexAt 51 (.slice (some ⟨kg, 0, none⟩) n n) (.int .i64 (s.first : Nat))) (.pointer (some ⟨kg, 0 + s.first * 1, none⟩)) (fun _ => trivial) fun w_ hJ hd => ?_) ?_
              · have e5 : vals 5 = _ := hd 5 (by decide) (by kernel_rfl)
                have e6 : vals 6 = _ := hd 6 (by decide) (by kernel_rfl)
                have e7 : vals 7 = _ := hd 7 (by decide) (by kernel_rfl)
                rw [e5, e6, e7]
                exact ⟨by kernel_rfl, by kernel_rfl, (run_ixat 51 28 1 (by kernel_rfl) (by kernel_rfl) _ _ _ _ _ hin w_), rfl⟩
              refine wpG_cons (gop (Instr.loadAt 28 (.pointer (some ⟨kg, 0 + s.first * 1, none⟩))) (.int .u64 gotv) (fun _ => trivial) fun w_ hJ hd => ?_) ?_
              · have e5 : vals 5 = _ := hd 5 (by decide) (by kernel_rfl)
                have e8 : vals 8 = _ := hd 8 (by decide) (by kernel_rfl)
                rw [e5, e8]
                exact ⟨by kernel_rfl, by kernel_rfl, run_load1 (by kernel_rfl) (by rw [Nat.mul_one]; exact (by have := (u64_cell (Heap.nth hJ 5 rfl).slw hin).1; rw [hgot] at this; exact this)), rfl⟩
              refine wpG_cons (gval (.slice (some ⟨kw, 0, none⟩) n n) (fun _ => trivial) fun w_ hJ hd => ?_) ?_
              · have e5 : vals 5 = _ := hd 5 (by decide) (by kernel_rfl)
                rw [e5]
                exact ⟨by kernel_rfl, by kernel_rfl, rfl⟩
              refine wpG_cons (gval (.int .i64 (s.first : Int)) (fun _ => trivial) fun w_ hJ hd => ?_) ?_
              · have e5 : vals 5 = _ := hd 5 (by decide) (by kernel_rfl)
                rw [e5]
                exact ⟨by kernel_rfl, by kernel_rfl, rfl⟩
              refine wpG_cons (gop (Instr.indexAt 51 (.slice (some ⟨kw, 0, none⟩) n n) (.int .i64 (s.first : Nat))) (.pointer (some ⟨kw, 0 + s.first * 1, none⟩)) (fun _ => trivial) fun w_ hJ hd => ?_) ?_
              · have e5 : vals 5 = _ := hd 5 (by decide) (by kernel_rfl)
                have e10 : vals 10 = _ := hd 10 (by decide) (by kernel_rfl)
                have e11 : vals 11 = _ := hd 11 (by decide) (by kernel_rfl)
                rw [e5, e10, e11]
                exact ⟨by kernel_rfl, by kernel_rfl, (run_ixat 51 28 1 (by kernel_rfl) (by kernel_rfl) _ _ _ _ _ hin w_), rfl⟩
              refine wpG_cons (gop (Instr.loadAt 28 (.pointer (some ⟨kw, 0 + s.first * 1, none⟩))) (.int .u64 gotv) (fun _ => trivial) fun w_ hJ hd => ?_) ?_
              · have e5 : vals 5 = _ := hd 5 (by decide) (by kernel_rfl)
                have e12 : vals 12 = _ := hd 12 (by decide) (by kernel_rfl)
                rw [e5, e12]
                exact ⟨by kernel_rfl, by kernel_rfl, run_load1 (by kernel_rfl) (by rw [Nat.mul_one]; exact (by have := (u64_cell (Heap.f3 hJ).slw hin).1; rw [hwant] at this; exact this)), rfl⟩
              refine wpG_cons (gop (binOp .neq 28 (.int .u64 gotv) (.int .u64 gotv)) (.bool false) (fun _ => trivial) fun w_ hJ hd => ?_) ?_
              · have e5 : vals 5 = _ := hd 5 (by decide) (by kernel_rfl)
                have e9 : vals 9 = _ := hd 9 (by decide) (by kernel_rfl)
                have e13 : vals 13 = _ := hd 13 (by decide) (by kernel_rfl)
                rw [e5, e9, e13]
                exact ⟨by kernel_rfl, by kernel_rfl, ne64 _ w_, rfl⟩
              refine wpG_cons (gval (.bool false) (fun _ => trivial) fun w_ hJ hd => ?_) wpG_nil
              · have e5 : vals 5 = _ := hd 5 (by decide) (by kernel_rfl)
                have e14 : vals 14 = _ := hd 14 (by decide) (by kernel_rfl)
                rw [e5, e14]
                exact ⟨by kernel_rfl, by kernel_rfl, rfl⟩
            · intro vals w_ hJ hf
              have e0 : vals 0 = _ := hf 0 (by decide)
              have e1 : vals 1 = _ := hf 1 (by decide)
              have e2 : vals 2 = _ := hf 2 (by decide)
              have e3 : vals 3 = _ := hf 3 (by decide)
              have e4 : vals 4 = _ := hf 4 (by decide)
              have e5 : vals 5 = _ := hf 5 (by decide)
              have e6 : vals 6 = _ := hf 6 (by decide)
              have e7 : vals 7 = _ := hf 7 (by decide)
              have e8 : vals 8 = _ := hf 8 (by decide)
              have e9 : vals 9 = _ := hf 9 (by decide)
              have e10 : vals 10 = _ := hf 10 (by decide)
              have e11 : vals 11 = _ := hf 11 (by decide)
              have e12 : vals 12 = _ := hf 12 (by decide)
              have e13 : vals 13 = _ := hf 13 (by decide)
              have e14 : vals 14 = _ := hf 14 (by decide)
              have e15 : vals 15 = _ := hf 15 (by decide)
              simp only [fillG, Nat.zero_add, Nat.reduceAdd, e0, e1, e2, e3, e4, e5, e6, e7, e8, e9, e10, e11, e12, e13, e14, e15, Act.put, List.setIfInBounds_toArray, List.set_cons_succ, List.set_cons_zero]
              clear e0 e1 e2 e3 e4 e5 e6 e7 e8 e9 e10 e11 e12 e13 e14 e15 hf
              have H6 := hide hJ
              clear hJ H5 hhas hgot hwant
              go_wp2
              rw [unhide E17, show (s.first : Int) + 1 = ((s.first + 1 : Nat) : Int) from rfl]
              refine ⟨⟨k + 1, { s with q := ⟨t, s.q.h⟩, first := s.first + 1, m := s.m }, ⟨unhide PI, (unhide HGG).step (by dsimp only; omega) (fun _ _ _ => .inl (Nat.le_refl _)), by omega, unhide H6⟩, ?_⟩, by simp [WmuO, intOf]; omega⟩
              unfold FRO
              refine ⟨_, _, _, _, _, _, _, _, _, _, _, _, _, _, _, _, _, _, _, _, _, _, _, _, _, _, _, _, _, _, _, _, _, _, _, _, _, _, _, _, _, _, _, _, _, _, _, _, _, _, _, _, _, _, _, _, _, _, _, _, _, _, _, _, _, _, _, _, _, _, _, _, _, _, _, _, _, _, _, _, _, _, _, _, _, _, _, _, _, _, _, _, _, _, _, _, _, _, _, _, _, _, _, _, _, _, _, _, _, _, _, _, _, _, _, _, _, _, _, _, _, _, _, _, _, _, _, _, _, _, _, _, _, _, _, _, _, _, _, _, _, _, _, _, _, _, _, _, _, _, _, _, _, _, _, _, _, _, _, _, _, _, _, _, _, _, _, _, _, _, _, _, _, _, _, _, _, _, _, _, _, _, _, _, _, _, _, _, _, _, _, _, _, _, _, _, _, _, _, _, _, _, _, _, _, _, _, _, _, _, _, _, _, _, _, _, _, _, _, _, _, _, _, _, _, _, _, _, _, _, _, _, _, _, _, _, _, _, _, _, _, _, _, _, _, _, _, _, _, _, _, _, _, _, _, _, _, _, _, _, _, _, _, _, _, _, _, _, _, _, _, _, _, _, _, _, _, _, _, _, _, _, _, _, _, rfl⟩
end Go.Proofs.Ytdmkgomcomcfhaa
