/- Layer 23: the reference: Where: the walk. -/
import Derived.Test.YtdmkgomcomcfhaaR9
namespace Go.Proofs.Ytdmkgomcomcfhaa
open Go.RowKit

section
variable {w0 : World} {L : List HP} {b : Nat} {g o cap gh oh ch gi oi ci : Nat} {n len : Nat} {p : Ent} {s0 : WS}
set_option maxRecDepth 1000000 in
set_option maxHeartbeats 8000000 in
theorem roundWO (hcap : len ≤ cap) (hpc : 0 ≤ p.pc ∧ p.pc < 18446744073709551616) (hnl : n < len) (Q0 : Exit → Act → World → Prop) (c1 c2 c3 c4 c5 c6 c7 c8 c9 c17 c18 c19 c20 c21 c22 c23 c24 c25 c26 c27 c28 c29 c30 c31 c32 c33 c34 c35 c36 c37 c38 c39 c40 c41 c42 c43 c44 c45 c46 c47 c48 c49 c50 c51 c52 c53 c54 c55 c56 c57 c58 c59 c60 c61 c62 c63 c64 c65 c66 c67 c68 c69 c70 c71 c72 c73 c74 c75 c76 c77 c78 c79 c80 c81 c82 c83 c84 c85 c86 c87 c88 c89 c90 c173 : Value) (hexit : ∀ a' w'', WXwo c1 c2 c3 c4 c5 c6 c7 c8 c9 c17 c18 c19 c20 c21 c22 c23 c24 c25 c26 c27 c28 c29 c30 c31 c32 c33 c34 c35 c36 c37 c38 c39 c40 c41 c42 c43 c44 c45 c46 c47 c48 c49 c50 c51 c52 c53 c54 c55 c56 c57 c58 c59 c60 c61 c62 c63 c64 c65 c66 c67 c68 c69 c70 c71 c72 c73 c74 c75 c76 c77 c78 c79 c80 c81 c82 c83 c84 c85 c86 c87 c88 c89 c90 c173 w0 L b g o cap gh oh ch gi oi ci n len p s0 a' w'' → Q0 (.exit 0) a' w'') {a : Act} {wr : World} (hI : WIwo c1 c2 c3 c4 c5 c6 c7 c8 c9 c17 c18 c19 c20 c21 c22 c23 c24 c25 c26 c27 c28 c29 c30 c31 c32 c33 c34 c35 c36 c37 c38 c39 c40 c41 c42 c43 c44 c45 c46 c47 c48 c49 c50 c51 c52 c53 c54 c55 c56 c57 c58 c59 c60 c61 c62 c63 c64 c65 c66 c67 c68 c69 c70 c71 c72 c73 c74 c75 c76 c77 c78 c79 c80 c81 c82 c83 c84 c85 c86 c87 c88 c89 c90 c173 w0 L b g o cap gh oh ch gi oi ci n len p s0 a wr) :
    Code.wp Try.prog bodyWO (Exit.then (fun a' w'' => WIwo c1 c2 c3 c4 c5 c6 c7 c8 c9 c17 c18 c19 c20 c21 c22 c23 c24 c25 c26 c27 c28 c29 c30 c31 c32 c33 c34 c35 c36 c37 c38 c39 c40 c41 c42 c43 c44 c45 c46 c47 c48 c49 c50 c51 c52 c53 c54 c55 c56 c57 c58 c59 c60 c61 c62 c63 c64 c65 c66 c67 c68 c69 c70 c71 c72 c73 c74 c75 c76 c77 c78 c79 c80 c81 c82 c83 c84 c85 c86 c87 c88 c89 c90 c173 w0 L b g o cap gh oh ch gi oi ci n len p s0 a' w'' ∧ WmuO_ len a' w'' < WmuO_ len a wr) Q0) a wr := by
  obtain ⟨k, s, A2, cap2, hR, hF⟩ := hI
  unfold FRWO at hF
  obtain ⟨u13, hF⟩ := hF
  obtain ⟨u14, hF⟩ := hF
  obtain ⟨u15, hF⟩ := hF
  obtain ⟨u16, hF⟩ := hF
  obtain ⟨u91, hF⟩ := hF
  obtain ⟨u92, hF⟩ := hF
  obtain ⟨u93, hF⟩ := hF
  obtain ⟨u94, hF⟩ := hF
  obtain ⟨u95, hF⟩ := hF
  obtain ⟨u96, hF⟩ := hF
  obtain ⟨u97, hF⟩ := hF
  obtain ⟨u98, hF⟩ := hF
  obtain ⟨u99, hF⟩ := hF
  obtain ⟨u100, hF⟩ := hF
  obtain ⟨u101, hF⟩ := hF
  obtain ⟨u102, hF⟩ := hF
  obtain ⟨u103, hF⟩ := hF
  obtain ⟨u104, hF⟩ := hF
  obtain ⟨u105, hF⟩ := hF
  obtain ⟨u106, hF⟩ := hF
  obtain ⟨u107, hF⟩ := hF
  obtain ⟨u108, hF⟩ := hF
  obtain ⟨u109, hF⟩ := hF
  obtain ⟨u110, hF⟩ := hF
  obtain ⟨u111, hF⟩ := hF
  obtain ⟨u112, hF⟩ := hF
  obtain ⟨u113, hF⟩ := hF
  obtain ⟨u114, hF⟩ := hF
  obtain ⟨u115, hF⟩ := hF
  obtain ⟨u116, hF⟩ := hF
  obtain ⟨u117, hF⟩ := hF
  obtain ⟨u118, hF⟩ := hF
  obtain ⟨u119, hF⟩ := hF
  obtain ⟨u120, hF⟩ := hF
  obtain ⟨u121, hF⟩ := hF
  obtain ⟨u122, hF⟩ := hF
  obtain ⟨u123, hF⟩ := hF
  obtain ⟨u124, hF⟩ := hF
  obtain ⟨u125, hF⟩ := hF
  obtain ⟨u126, hF⟩ := hF
  obtain ⟨u127, hF⟩ := hF
  obtain ⟨u128, hF⟩ := hF
  obtain ⟨u129, hF⟩ := hF
  obtain ⟨u130, hF⟩ := hF
  obtain ⟨u131, hF⟩ := hF
  obtain ⟨u132, hF⟩ := hF
  obtain ⟨u133, hF⟩ := hF
  obtain ⟨u134, hF⟩ := hF
  obtain ⟨u135, hF⟩ := hF
  obtain ⟨u136, hF⟩ := hF
  obtain ⟨u137, hF⟩ := hF
  obtain ⟨u138, hF⟩ := hF
  obtain ⟨u139, hF⟩ := hF
  obtain ⟨u140, hF⟩ := hF
  obtain ⟨u141, hF⟩ := hF
  obtain ⟨u142, hF⟩ := hF
  obtain ⟨u143, hF⟩ := hF
  obtain ⟨u144, hF⟩ := hF
  obtain ⟨u145, hF⟩ := hF
  obtain ⟨u146, hF⟩ := hF
  obtain ⟨u147, hF⟩ := hF
  obtain ⟨u148, hF⟩ := hF
  obtain ⟨u149, hF⟩ := hF
  obtain ⟨u150, hF⟩ := hF
  obtain ⟨u151, hF⟩ := hF
  obtain ⟨u152, hF⟩ := hF
  obtain ⟨u153, hF⟩ := hF
  obtain ⟨u154, hF⟩ := hF
  obtain ⟨u155, hF⟩ := hF
  obtain ⟨u156, hF⟩ := hF
  obtain ⟨u157, hF⟩ := hF
  obtain ⟨u158, hF⟩ := hF
  obtain ⟨u159, hF⟩ := hF
  obtain ⟨u160, hF⟩ := hF
  obtain ⟨u161, hF⟩ := hF
  obtain ⟨u162, hF⟩ := hF
  obtain ⟨u163, hF⟩ := hF
  obtain ⟨u164, hF⟩ := hF
  obtain ⟨u165, hF⟩ := hF
  obtain ⟨u166, hF⟩ := hF
  obtain ⟨u167, hF⟩ := hF
  obtain ⟨u168, hF⟩ := hF
  obtain ⟨u169, hF⟩ := hF
  obtain ⟨u170, hF⟩ := hF
  obtain ⟨u171, hF⟩ := hF
  obtain ⟨u172, hF⟩ := hF
  subst hF
  by_cases hlt : k < len
  · obtain ⟨x, hx⟩ : ∃ x, s.l[k]? = some x := ⟨_, List.getElem?_eq_getElem (by rw [hR.sl]; exact hlt)⟩
    cases hgo : (!x.store && x.read) with
    | false => exact stayWO hcap hpc hnl hR hlt hx hgo Q0 _ _ _ _ _ _ _ _ _ _ _ _ _ _ _ _ _ _ _ _ _ _ _ _ _ _ _ _ _ _ _ _ _ _ _ _ _ _ _ _ _ _ _ _ _ _ _ _ _ _ _ _ _ _ _ _ _ _ _ _ _ _ _ _ _ _ _ _ _ _ _ _ _ _ _ _ _ _ _ _ _ _ _ _ _ _ _ _ _ _ _ _ _ _ _ _ _ _ _ _ _ _ _ _ _ _ _ _ _ _ _ _ _ _ _ _ _ _ _ _ _ _ _ _ _ _ _ _ _ _ _ _ _ _ _ _ _ _ _ _ _ _ _ _ _ _ _ _ _ _ _ _ _ _ _ _ _ _ _ _ _ _ _ _ _ _ _ _ _ _
    | true =>
      rw [Bool.and_eq_true, Bool.not_eq_true'] at hgo
      exact goWO hcap hpc hnl hR hlt hx hgo.1 hgo.2 Q0 _ _ _ _ _ _ _ _ _ _ _ _ _ _ _ _ _ _ _ _ _ _ _ _ _ _ _ _ _ _ _ _ _ _ _ _ _ _ _ _ _ _ _ _ _ _ _ _ _ _ _ _ _ _ _ _ _ _ _ _ _ _ _ _ _ _ _ _ _ _ _ _ _ _ _ _ _ _ _ _ _ _ _ _ _ _ _ _ _ _ _ _ _ _ _ _ _ _ _ _ _ _ _ _ _ _ _ _ _ _ _ _ _ _ _ _ _ _ _ _ _ _ _ _ _ _ _ _ _ _ _ _ _ _ _ _ _ _ _ _ _ _ _ _ _ _ _ _ _ _ _ _ _ _ _ _ _ _ _ _ _ _ _ _ _ _ _ _ _ _
  · obtain rfl : k = len := by have := hR.k2; omega
    have HR := hide hR
    have hJ := hR.heap
    unfold OR at hJ
    dsimp only at hJ
    rw [hR.sl] at hJ
    have hn16 := hR.qi.len
    dsimp only at hn16
    rw [hR.sl] at hn16
    have c0 : wr.cell? ⟨b, 0, none⟩ = some (.slice (some ⟨g, o, none⟩) k cap) := (cell_blk (Heap.heap hJ.f2) 0).1
    have hbl := lt_of_heap' (Heap.heap hJ.f2)
    clear hR hJ
    conv => arg 2; whnf
    go_wp2
    refine ⟨s, A2, cap2, unhide HR, ?_⟩
    unfold FRWO
    refine ⟨_, _, _, _, _, _, _, _, _, _, _, _, _, _, _, _, _, _, _, _, _, _, _, _, _, _, _, _, _, _, _, _, _, _, _, _, _, _, _, _, _, _, _, _, _, _, _, _, _, _, _, _, _, _, _, _, _, _, _, _, _, _, _, _, _, _, _, _, _, _, _, _, _, _, _, _, _, _, _, _, _, _, _, _, _, _, rfl⟩
set_option maxRecDepth 1000000 in
theorem loopWO (hcap : len ≤ cap) (hpc : 0 ≤ p.pc ∧ p.pc < 18446744073709551616) (hnl : n < len) (Q0 : Exit → Act → World → Prop) (c1 c2 c3 c4 c5 c6 c7 c8 c9 c17 c18 c19 c20 c21 c22 c23 c24 c25 c26 c27 c28 c29 c30 c31 c32 c33 c34 c35 c36 c37 c38 c39 c40 c41 c42 c43 c44 c45 c46 c47 c48 c49 c50 c51 c52 c53 c54 c55 c56 c57 c58 c59 c60 c61 c62 c63 c64 c65 c66 c67 c68 c69 c70 c71 c72 c73 c74 c75 c76 c77 c78 c79 c80 c81 c82 c83 c84 c85 c86 c87 c88 c89 c90 c173 : Value) {A2 : Option Addr} {cap2 : Nat} {wr : World} {k0 : Nat} (hk0 : k0 = n + 1) (h0 : s0.out = []) (h1 : s0.l.length = len) (h2 : s0.l[n]? = some p) (h3 : QI ⟨s0.l, s0.h⟩) (hJ : Heap w0 wr (HP.slw (.slice A2 0 cap2) 1 0 [] :: OR b (some ⟨g, o, none⟩) cap gh oh ch gi oi ci ⟨s0.l, s0.h⟩ L)) (u13 u14 u15 u16 u91 u92 u93 u94 u95 u96 u97 u98 u99 u100 u101 u102 u103 u104 u105 u106 u107 u108 u109 u110 u111 u112 u113 u114 u115 u116 u117 u118 u119 u120 u121 u122 u123 u124 u125 u126 u127 u128 u129 u130 u131 u132 u133 u134 u135 u136 u137 u138 u139 u140 u141 u142 u143 u144 u145 u146 u147 u148 u149 u150 u151 u152 u153 u154 u155 u156 u157 u158 u159 u160 u161 u162 u163 u164 u165 u166 u167 u168 u169 u170 u171 u172 : Value) (hexit : ∀ a' w'', WXwo c1 c2 c3 c4 c5 c6 c7 c8 c9 c17 c18 c19 c20 c21 c22 c23 c24 c25 c26 c27 c28 c29 c30 c31 c32 c33 c34 c35 c36 c37 c38 c39 c40 c41 c42 c43 c44 c45 c46 c47 c48 c49 c50 c51 c52 c53 c54 c55 c56 c57 c58 c59 c60 c61 c62 c63 c64 c65 c66 c67 c68 c69 c70 c71 c72 c73 c74 c75 c76 c77 c78 c79 c80 c81 c82 c83 c84 c85 c86 c87 c88 c89 c90 c173 w0 L b g o cap gh oh ch gi oi ci n len p s0 a' w'' → Q0 (.exit 0) a' w'') :
    Code.wp Try.prog (Code.loop bodyWO) Q0 ⟨#[.pointer (some ⟨b, 0, none⟩), c1, c2, c3, c4, c5, c6, c7, c8, c9, .int .i64 (n : Nat), .slice A2 0 cap2, .int .i64 (k0 : Int), u13, u14, u15, u16, c17, c18, c19, c20, c21, c22, c23, c24, c25, c26, c27, c28, c29, c30, c31, c32, c33, c34, c35, c36, c37, c38, c39, c40, c41, c42, c43, c44, c45, c46, c47, c48, c49, c50, c51, c52, c53, c54, c55, c56, c57, c58, c59, c60, c61, c62, c63, c64, c65, c66, c67, c68, c69, c70, c71, c72, c73, c74, c75, c76, c77, c78, c79, c80, c81, c82, c83, c84, c85, c86, c87, c88, c89, c90, u91, u92, u93, u94, u95, u96, u97, u98, u99, u100, u101, u102, u103, u104, u105, u106, u107, u108, u109, u110, u111, u112, u113, u114, u115, u116, u117, u118, u119, u120, u121, u122, u123, u124, u125, u126, u127, u128, u129, u130, u131, u132, u133, u134, u135, u136, u137, u138, u139, u140, u141, u142, u143, u144, u145, u146, u147, u148, u149, u150, u151, u152, u153, u154, u155, u156, u157, u158, u159, u160, u161, u162, u163, u164, u165, u166, u167, u168, u169, u170, u171, u172, c173], []⟩ wr := by
  refine wp_loop (WIwo c1 c2 c3 c4 c5 c6 c7 c8 c9 c17 c18 c19 c20 c21 c22 c23 c24 c25 c26 c27 c28 c29 c30 c31 c32 c33 c34 c35 c36 c37 c38 c39 c40 c41 c42 c43 c44 c45 c46 c47 c48 c49 c50 c51 c52 c53 c54 c55 c56 c57 c58 c59 c60 c61 c62 c63 c64 c65 c66 c67 c68 c69 c70 c71 c72 c73 c74 c75 c76 c77 c78 c79 c80 c81 c82 c83 c84 c85 c86 c87 c88 c89 c90 c173 w0 L b g o cap gh oh ch gi oi ci n len p s0) (WmuO_ len) ⟨k0, s0, A2, cap2, ⟨by omega, by omega, by rw [h0]; exact Nat.zero_le _, by rw [hk0, Nat.sub_self]; rfl, h1, h2, h3, by rw [h0]; exact hJ⟩, ?_⟩ (fun a w'' hI => roundWO hcap hpc hnl Q0 c1 c2 c3 c4 c5 c6 c7 c8 c9 c17 c18 c19 c20 c21 c22 c23 c24 c25 c26 c27 c28 c29 c30 c31 c32 c33 c34 c35 c36 c37 c38 c39 c40 c41 c42 c43 c44 c45 c46 c47 c48 c49 c50 c51 c52 c53 c54 c55 c56 c57 c58 c59 c60 c61 c62 c63 c64 c65 c66 c67 c68 c69 c70 c71 c72 c73 c74 c75 c76 c77 c78 c79 c80 c81 c82 c83 c84 c85 c86 c87 c88 c89 c90 c173 hexit hI)
  unfold FRWO
  rw [h0]
  exact ⟨u13, u14, u15, u16, u91, u92, u93, u94, u95, u96, u97, u98, u99, u100, u101, u102, u103, u104, u105, u106, u107, u108, u109, u110, u111, u112, u113, u114, u115, u116, u117, u118, u119, u120, u121, u122, u123, u124, u125, u126, u127, u128, u129, u130, u131, u132, u133, u134, u135, u136, u137, u138, u139, u140, u141, u142, u143, u144, u145, u146, u147, u148, u149, u150, u151, u152, u153, u154, u155, u156, u157, u158, u159, u160, u161, u162, u163, u164, u165, u166, u167, u168, u169, u170, u171, u172, rfl⟩
end
section
variable {w0 w : World} {L : List HP} {b : Nat} {q : Qs}
set_option maxRecDepth 100000 in
set_option maxHeartbeats 4000000 in
theorem where_r (h : Heap w0 w (HP.r b q :: L)) (tag a sz : Int) (a0 : 0 ≤ a ∧ a < 18446744073709551616) :
    Calls Try.prog 16 #[ptr b, .int .i64 tag, .int .u64 a, .int .i64 sz] w fun r w' => ∃ v, r = .returned (.tuple #[v, .bool (whereQ q tag a sz).1.2]) ∧
      Heap w0 w' (HP.slw v 1 (whereQ q tag a sz).1.1.length (ints (whereQ q tag a sz).1.1) :: HP.r b (whereQ q tag a sz).2 :: L) := by
  obtain ⟨A, cap, gh, oh, ch, gi, oi, ci, hR, hh⟩ := h.rro
  have hcall := hide (findR hR tag)
  have HR := hide hR
  have HQ := hide h
  have HB := hide hh
  obtain ⟨R, hR2⟩ : ∃ R, whereQ q tag a sz = R := ⟨_, rfl⟩
  rw [hR2]
  have HR2 := hide hR2
  clear hR h hh hR2
  unfold ptr
  go_enter Try.func16, Try.ntmps16
  go_wp2_with fail
  refine (unhide hcall).mono ?_
  rintro r w1 ⟨rfl, hw1⟩
  replace hw1 := hw1.symm
  subst hw1
  clear hcall
  cases hf : findN q.l tag with
  | none =>
    have hd : whN q.l tag a sz = none := by unfold whN; rw [hf]; rfl
    have hfin := hide (show R = (([], false), q) by rw [← unhide HR2]; unfold whereQ; rw [hd])
    clear hf hd
    unfold optI
    go_wp2
    go_ret2
    exact ⟨.slice none 0 0, by rw [unhide hfin]; rfl, by rw [unhide hfin]; exact (unhide HQ).noneS⟩
  | some n =>
    obtain ⟨e, he, het⟩ := findN_get hf
    clear het
    have hd : whN q.l tag a sz = if !e.placed && okSize sz && decide (a % sz = 0) then some (n, e) else none := by unfold whN; rw [hf]; simp only [Option.bind_some, he]
    have hwq : R = if !e.placed && okSize sz && decide (a % sz = 0) then (if e.store then (((whS q n e a sz).out, true), ⟨(whS q n e a sz).l, (whS q n e a sz).h⟩) else (([], true), ⟨q.l.set n (placeE e a sz), q.h⟩)) else (([], false), q) := by
      rw [← unhide HR2]
      unfold whereQ
      rw [hd]
      cases (!e.placed && okSize sz && decide (a % sz = 0)) <;> rfl
    have Hwq := hide hwq
    clear hwq hd hf HR2
    have hnl := (List.getElem?_eq_some_iff.1 he).1
    have hn0 : decide ((n : Int) < 0) = false := decide_eq_false (by omega)
    have hlen16 := (unhide HR).inv.len
    obtain ⟨q0, _, hbl⟩ := (unhide HR).c0
    obtain ⟨g, o, e', rfl, he', hgl, _, _, _, d3, _, _, _, _, _⟩ := (unhide HR).at_ hnl
    rw [he] at he'
    injection he' with he'
    subst he'
    have f3 := hide (ent_frozen (unhide HR).sl hnl (j := 3) (by omega))
    have He := hide he
    clear he
    obtain ⟨len, hlen⟩ : ∃ len, q.l.length = len := ⟨_, rfl⟩
    have hB := unhide HB
    unfold OR at hB
    rw [hlen] at q0 hnl hlen16 hB
    have HB2 := hide hB
    have Hlen := hide hlen
    clear hlen hB HB
    unfold optI
    cases hp : e.placed with
    | true =>
      rw [hp] at d3
      have hfin := hide (show R = (([], false), q) by rw [unhide Hwq, hp]; rfl)
      go_wp2
      go_ret2
      exact ⟨.slice none 0 0, by rw [unhide hfin]; rfl, by rw [unhide hfin]; exact (unhide HQ).noneS⟩
    | false =>
      rw [hp] at d3
      go_upto_region 2 with fail
      go_cut [54] (fun s wx => s = .bool (!(okSize sz && decide (a % sz = 0))) ∧ wx = w)
      case first =>
        by_cases h1 : sz = 1
        · subst h1
          have hwr : IntKind.u64.wrap (a.tmod 1) = a % 1 := by rw [Int.tmod_eq_emod_of_nonneg a0.1, IntKind.wrap_u64]; omega
          by_cases hm : a % 1 = 0
          · have zm : (a % 1 != 0) = false := by simp [hm]
            have HV := hide (show (okSize 1 && decide (a % 1 = 0)) = true by rw [decide_eq_true hm]; rfl)
            clear hm
            go_wp2
            go_meet
            exact ⟨by rw [unhide HV]; rfl, rfl⟩
          · exact absurd (by omega) hm
        · have z1 : (sz != 1) = true := by simp [h1]
          by_cases h2 : sz = 2
          · subst h2
            have hwr : IntKind.u64.wrap (a.tmod 2) = a % 2 := by rw [Int.tmod_eq_emod_of_nonneg a0.1, IntKind.wrap_u64]; omega
            by_cases hm : a % 2 = 0
            · have zm : (a % 2 != 0) = false := by simp [hm]
              have HV := hide (show (okSize 2 && decide (a % 2 = 0)) = true by rw [decide_eq_true hm]; rfl)
              clear hm
              go_wp2
              go_meet
              exact ⟨by rw [unhide HV]; rfl, rfl⟩
            · have zm : (a % 2 != 0) = true := by simp [hm]
              have HV := hide (show (okSize 2 && decide (a % 2 = 0)) = false by rw [decide_eq_false hm]; rfl)
              clear hm
              go_wp2
              go_meet
              exact ⟨by rw [unhide HV]; rfl, rfl⟩
          · have z2 : (sz != 2) = true := by simp [h2]
            by_cases h4 : sz = 4
            · subst h4
              have hwr : IntKind.u64.wrap (a.tmod 4) = a % 4 := by rw [Int.tmod_eq_emod_of_nonneg a0.1, IntKind.wrap_u64]; omega
              by_cases hm : a % 4 = 0
              · have zm : (a % 4 != 0) = false := by simp [hm]
                have HV := hide (show (okSize 4 && decide (a % 4 = 0)) = true by rw [decide_eq_true hm]; rfl)
                clear hm
                go_wp2
                go_meet
                exact ⟨by rw [unhide HV]; rfl, rfl⟩
              · have zm : (a % 4 != 0) = true := by simp [hm]
                have HV := hide (show (okSize 4 && decide (a % 4 = 0)) = false by rw [decide_eq_false hm]; rfl)
                clear hm
                go_wp2
                go_meet
                exact ⟨by rw [unhide HV]; rfl, rfl⟩
            · have z4 : (sz != 4) = true := by simp [h4]
              by_cases h8 : sz = 8
              · subst h8
                have hwr : IntKind.u64.wrap (a.tmod 8) = a % 8 := by rw [Int.tmod_eq_emod_of_nonneg a0.1, IntKind.wrap_u64]; omega
                by_cases hm : a % 8 = 0
                · have zm : (a % 8 != 0) = false := by simp [hm]
                  have HV := hide (show (okSize 8 && decide (a % 8 = 0)) = true by rw [decide_eq_true hm]; rfl)
                  clear hm
                  go_wp2
                  go_meet
                  exact ⟨by rw [unhide HV]; rfl, rfl⟩
                · have zm : (a % 8 != 0) = true := by simp [hm]
                  have HV := hide (show (okSize 8 && decide (a % 8 = 0)) = false by rw [decide_eq_false hm]; rfl)
                  clear hm
                  go_wp2
                  go_meet
                  exact ⟨by rw [unhide HV]; rfl, rfl⟩
              · have z8 : (sz != 8) = true := by simp [h8]
                have HV := hide (show (okSize sz && decide (a % sz = 0)) = false by rw [show okSize sz = false by unfold okSize; simp [h1, h2, h4, h8]]; rfl)
                clear h1 h2 h4 h8
                go_wp2
                go_meet
                exact ⟨by rw [unhide HV]; rfl, rfl⟩
      case rest =>
        obtain ⟨rfl, hwc⟩ := hcut
        subst hwc
        cases hok : (okSize sz && decide (a % sz = 0)) with
        | false =>
          have hfin := hide (show R = (([], false), q) by rw [unhide Hwq, hp, Bool.not_false, Bool.true_and, hok]; rfl)
          go_wp2
          go_ret2
          exact ⟨.slice none 0 0, by rw [unhide hfin]; rfl, by rw [unhide hfin]; exact (unhide HQ).noneS⟩
        | true =>
          have hwq := unhide Hwq
          rw [hp, Bool.not_false, Bool.true_and, hok] at hwq
          simp only [if_true] at hwq
          have Hwq2 := hide hwq
          rw [Bool.and_eq_true, decide_eq_true_eq] at hok
          have hI1 := (unhide HR).inv.set (unhide He) (e' := placeE e a sz) rfl rfl (((unhide HR).inv.ok e (List.mem_of_getElem? (unhide He))).place hp a0 hok.1 hok.2)
          have HI1 := hide hI1
          clear hwq Hwq hok hI1 hp
          have hnq : n < q.l.length := by rw [unhide Hlen]; exact hnl
          have s1 : (q.l.set n ({ e with placed := true } : Ent))[n]? = some ({ e with placed := true } : Ent) := by rw [List.getElem?_set_self hnq]
          have s2 : (q.l.set n ({ e with placed := true, at_ := a } : Ent))[n]? = some ({ e with placed := true, at_ := a } : Ent) := by rw [List.getElem?_set_self hnq]
          have s3 : (q.l.set n (placeE e a sz))[n]? = some (placeE e a sz) := by rw [List.getElem?_set_self hnq]
          have S1 := hide s1
          have S2 := hide s2
          have S3 := hide s3
          clear s1 s2 s3 hnq
          have ff3 := unhide f3
          go_upto_region 5 with fail
          have hW := (unhide HB2).f2.write (j := n * 9 + 3) (by omega) (.bool true)
          rw [entsC_set (e := e) (e' := ({ e with placed := true } : Ent)) (j := 3) (by omega) rfl (unhide He), ← Nat.add_assoc] at hW
          generalize World.setCell _ ⟨g, o + n * 9 + 3, none⟩ (.bool true) = w2 at hW ⊢
          clear q0 hbl hgl d3 ff3
          have c0 : w2.cell? ⟨b, 0, none⟩ = some (.slice (some ⟨g, o, none⟩) len cap) := (cell_blk (Heap.heap (hW).f2) 0).1
          have hbl := lt_of_heap' (Heap.heap (hW).f2)
          obtain ⟨⟨d0, d1, d2, d3, d4, d5, d6, d7, d8⟩, hgl⟩ := ent_cells (hW).slw (unhide S1) hnl
          have ff6 := ent_frozen hW.slw hnl (j := 6) (by omega)
          have HW := hide hW
          clear hW d0 d1 d2 d3 d4 d5 d7 d8
          go_upto_region 6 with fail
          have hW := (unhide HW).write (j := n * 9 + 6) (by omega) (.int .u64 a)
          rw [entsC_set (e := ({ e with placed := true } : Ent)) (e' := ({ e with placed := true, at_ := a } : Ent)) (j := 6) (by omega) rfl (unhide S1), ← Nat.add_assoc, List.set_set] at hW
          generalize World.setCell _ ⟨g, o + n * 9 + 6, none⟩ (.int .u64 a) = w3 at hW ⊢
          clear HW c0 hbl hgl d6 ff6
          have c0 : w3.cell? ⟨b, 0, none⟩ = some (.slice (some ⟨g, o, none⟩) len cap) := (cell_blk (Heap.heap (hW).f2) 0).1
          have hbl := lt_of_heap' (Heap.heap (hW).f2)
          obtain ⟨⟨d0, d1, d2, d3, d4, d5, d6, d7, d8⟩, hgl⟩ := ent_cells (hW).slw (unhide S2) hnl
          have ff7 := ent_frozen hW.slw hnl (j := 7) (by omega)
          have HW := hide hW
          clear hW d0 d1 d2 d3 d4 d5 d6 d8
          go_upto_region 7 with fail
          have hW := (unhide HW).write (j := n * 9 + 7) (by omega) (.int .i64 sz)
          rw [entsC_set (e := ({ e with placed := true, at_ := a } : Ent)) (e' := (placeE e a sz)) (j := 7) (v := .int .i64 sz) (by omega) rfl (unhide S2), ← Nat.add_assoc, List.set_set] at hW
          generalize World.setCell _ ⟨g, o + n * 9 + 7, none⟩ (.int .i64 sz) = w4 at hW ⊢
          clear HW c0 hbl hgl d7 ff7
          have HW := hide (hW.emptyW (sz := 1) 3)
          have c0 : w4.cell? ⟨b, 0, none⟩ = some (.slice (some ⟨g, o, none⟩) len cap) := (cell_blk (Heap.heap (hW).f2) 0).1
          have hbl := lt_of_heap' (Heap.heap (hW).f2)
          obtain ⟨⟨d0, d1, d2, d3, d4, d5, d6, d7, d8⟩, hgl⟩ := ent_cells (hW).slw (unhide S3) hnl
          clear hW d0 d1 d3 d4 d5 d6 d7 d8
          replace d2 : w4.cell? ⟨g, o + n * 9 + 2, none⟩ = some (.bool e.store) := d2
          have HO : Hid (Heap w0 (w4.alloc (.cells #[] 3)) (HP.slw (.slice (some ⟨w4.heap.size, 0, none⟩) 0 0) 1 0 [] :: OR b (some ⟨g, o, none⟩) cap gh oh ch gi oi ci ⟨q.l.set n (placeE e a sz), q.h⟩ L)) := hide (by
            unfold OR
            dsimp only
            rw [List.length_set, unhide Hlen]
            exact (unhide HW).f3.f2)
          have hcapl := (unhide HR).capl
          rw [unhide Hlen] at hcapl
          have hpc := ((unhide HR).inv.ok e (List.mem_of_getElem? (unhide He))).pc
          have HPC := hide hpc
          have hl1 : (q.l.set n (placeE e a sz)).length = len := by rw [List.length_set]; exact unhide Hlen
          have Hl1 := hide hl1
          clear HW HQ HR HB2 f3 S1 S2 hpc hl1
          cases hes : e.store with
          | false =>
            rw [hes] at d2
            have hfin := hide (show R = (([], true), ⟨q.l.set n (placeE e a sz), q.h⟩) by rw [unhide Hwq2, hes]; rfl)
            go_wp2
            go_ret2
            refine ⟨.slice (some ⟨w4.heap.size, 0, none⟩) 0 0, by rw [unhide hfin]; rfl, ?_⟩
            rw [unhide hfin]
            exact (Heap.rrc (q := ⟨q.l.set n (placeE e a sz), q.h⟩) (unhide HI1) (Heap.f5 (Heap.f5 (Heap.f5 (Heap.f5 (unhide HO)))))).f2
          | true =>
            rw [hes] at d2
            have hfin := hide (show R = (((whS q n e a sz).out, true), ⟨(whS q n e a sz).l, (whS q n e a sz).h⟩) by rw [unhide Hwq2, hes]; rfl)
            clear Hwq2
            go_wp2
            have e12 : (n : Int) + 1 = ((n + 1 : Nat) : Int) := rfl
            try rw [e12]
            refine loopWO (n := n) (len := len) (p := placeE e a sz) (s0 := ⟨q.l.set n (placeE e a sz), q.h, []⟩) hcapl (unhide HPC) hnl _ _ _ _ _ _ _ _ _ _ _ _ _ _ _ _ _ _ _ _ _ _ _ _ _ _ _ _ _ _ _ _ _ _ _ _ _ _ _ _ _ _ _ _ _ _ _ _ _ _ _ _ _ _ _ _ _ _ _ _ _ _ _ _ _ _ _ _ _ _ _ _ _ _ _ _ _ _ _ _ _ _ _ _ _ (k0 := n + 1) rfl rfl (unhide Hl1) (unhide S3) (unhide HI1) (unhide HO) _ _ _ _ _ _ _ _ _ _ _ _ _ _ _ _ _ _ _ _ _ _ _ _ _ _ _ _ _ _ _ _ _ _ _ _ _ _ _ _ _ _ _ _ _ _ _ _ _ _ _ _ _ _ _ _ _ _ _ _ _ _ _ _ _ _ _ _ _ _ _ _ _ _ _ _ _ _ _ _ _ _ _ _ _ _ ?_
            intro a' w5 hX
            obtain ⟨s, A2, cap2, hR, hF⟩ := hX
            unfold FRWO at hF
            obtain ⟨u13, hF⟩ := hF
            obtain ⟨u14, hF⟩ := hF
            obtain ⟨u15, hF⟩ := hF
            obtain ⟨u16, hF⟩ := hF
            obtain ⟨u91, hF⟩ := hF
            obtain ⟨u92, hF⟩ := hF
            obtain ⟨u93, hF⟩ := hF
            obtain ⟨u94, hF⟩ := hF
            obtain ⟨u95, hF⟩ := hF
            obtain ⟨u96, hF⟩ := hF
            obtain ⟨u97, hF⟩ := hF
            obtain ⟨u98, hF⟩ := hF
            obtain ⟨u99, hF⟩ := hF
            obtain ⟨u100, hF⟩ := hF
            obtain ⟨u101, hF⟩ := hF
            obtain ⟨u102, hF⟩ := hF
            obtain ⟨u103, hF⟩ := hF
            obtain ⟨u104, hF⟩ := hF
            obtain ⟨u105, hF⟩ := hF
            obtain ⟨u106, hF⟩ := hF
            obtain ⟨u107, hF⟩ := hF
            obtain ⟨u108, hF⟩ := hF
            obtain ⟨u109, hF⟩ := hF
            obtain ⟨u110, hF⟩ := hF
            obtain ⟨u111, hF⟩ := hF
            obtain ⟨u112, hF⟩ := hF
            obtain ⟨u113, hF⟩ := hF
            obtain ⟨u114, hF⟩ := hF
            obtain ⟨u115, hF⟩ := hF
            obtain ⟨u116, hF⟩ := hF
            obtain ⟨u117, hF⟩ := hF
            obtain ⟨u118, hF⟩ := hF
            obtain ⟨u119, hF⟩ := hF
            obtain ⟨u120, hF⟩ := hF
            obtain ⟨u121, hF⟩ := hF
            obtain ⟨u122, hF⟩ := hF
            obtain ⟨u123, hF⟩ := hF
            obtain ⟨u124, hF⟩ := hF
            obtain ⟨u125, hF⟩ := hF
            obtain ⟨u126, hF⟩ := hF
            obtain ⟨u127, hF⟩ := hF
            obtain ⟨u128, hF⟩ := hF
            obtain ⟨u129, hF⟩ := hF
            obtain ⟨u130, hF⟩ := hF
            obtain ⟨u131, hF⟩ := hF
            obtain ⟨u132, hF⟩ := hF
            obtain ⟨u133, hF⟩ := hF
            obtain ⟨u134, hF⟩ := hF
            obtain ⟨u135, hF⟩ := hF
            obtain ⟨u136, hF⟩ := hF
            obtain ⟨u137, hF⟩ := hF
            obtain ⟨u138, hF⟩ := hF
            obtain ⟨u139, hF⟩ := hF
            obtain ⟨u140, hF⟩ := hF
            obtain ⟨u141, hF⟩ := hF
            obtain ⟨u142, hF⟩ := hF
            obtain ⟨u143, hF⟩ := hF
            obtain ⟨u144, hF⟩ := hF
            obtain ⟨u145, hF⟩ := hF
            obtain ⟨u146, hF⟩ := hF
            obtain ⟨u147, hF⟩ := hF
            obtain ⟨u148, hF⟩ := hF
            obtain ⟨u149, hF⟩ := hF
            obtain ⟨u150, hF⟩ := hF
            obtain ⟨u151, hF⟩ := hF
            obtain ⟨u152, hF⟩ := hF
            obtain ⟨u153, hF⟩ := hF
            obtain ⟨u154, hF⟩ := hF
            obtain ⟨u155, hF⟩ := hF
            obtain ⟨u156, hF⟩ := hF
            obtain ⟨u157, hF⟩ := hF
            obtain ⟨u158, hF⟩ := hF
            obtain ⟨u159, hF⟩ := hF
            obtain ⟨u160, hF⟩ := hF
            obtain ⟨u161, hF⟩ := hF
            obtain ⟨u162, hF⟩ := hF
            obtain ⟨u163, hF⟩ := hF
            obtain ⟨u164, hF⟩ := hF
            obtain ⟨u165, hF⟩ := hF
            obtain ⟨u166, hF⟩ := hF
            obtain ⟨u167, hF⟩ := hF
            obtain ⟨u168, hF⟩ := hF
            obtain ⟨u169, hF⟩ := hF
            obtain ⟨u170, hF⟩ := hF
            obtain ⟨u171, hF⟩ := hF
            obtain ⟨u172, hF⟩ := hF
            subst hF
            have hse : s = whS q n e a sz := by unfold whS; rw [hR.is, unhide Hlen]; rfl
            have HF := hide (And.intro hse (And.intro hR.qi hR.heap))
            clear hR hse c0 hbl hgl d2
            go_wp2
            go_ret2
            refine ⟨.slice A2 s.out.length cap2, by rw [unhide hfin]; rfl, ?_⟩
            rw [unhide hfin, ← (unhide HF).1]
            exact (Heap.rrc (q := ⟨s.l, s.h⟩) (unhide HF).2.1 (Heap.f5 (Heap.f5 (Heap.f5 (Heap.f5 (unhide HF).2.2))))).f2
end
end Go.Proofs.Ytdmkgomcomcfhaa
