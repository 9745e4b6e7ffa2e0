/- Layer 23: the reference: Where: a round that changes nothing. -/
import Derived.Test.YtdmkgomcomcfhaaR7
namespace Go.Proofs.Ytdmkgomcomcfhaa
open Go.RowKit

structure RelWO (w0 : World) (L : List HP) (b g o cap gh oh ch gi oi ci : Nat) (n len : Nat) (p : Ent) (s0 : WS) (k : Nat) (s : WS) (A2 : Option Addr) (cap2 : Nat) (wr : World) : Prop where
  k1 : n + 1 ≤ k
  k2 : k ≤ len
  out : s.out.length ≤ k
  is : s = whLoop n p.pc s0 (n + 1) (k - (n + 1))
  sl : s.l.length = len
  sn : s.l[n]? = some p
  qi : QI ⟨s.l, s.h⟩
  heap : Heap w0 wr (HP.slw (.slice A2 s.out.length cap2) 1 s.out.length (ints s.out) :: OR b (some ⟨g, o, none⟩) cap gh oh ch gi oi ci ⟨s.l, s.h⟩ L)
theorem RelWO.step {w0 : World} {L : List HP} {b g o cap gh oh ch gi oi ci : Nat} {n len : Nat} {p : Ent} {s0 : WS} {k : Nat} {s : WS} {A2 : Option Addr} {cap2 : Nat} {wr : World} (h : RelWO w0 L b g o cap gh oh ch gi oi ci n len p s0 k s A2 cap2 wr) : whLoop n p.pc s0 (n + 1) (k + 1 - (n + 1)) = whStep n p.pc s k := by
  have hk1 := h.k1
  rw [show k + 1 - (n + 1) = (k - (n + 1)) + 1 by omega]
  show whStep n p.pc (whLoop n p.pc _ (n + 1) (k - (n + 1))) (n + 1 + (k - (n + 1))) = _
  rw [← h.is, show n + 1 + (k - (n + 1)) = k by omega]
set_option maxRecDepth 1000000 in
def FRWO (c1 c2 c3 c4 c5 c6 c7 c8 c9 c17 c18 c19 c20 c21 c22 c23 c24 c25 c26 c27 c28 c29 c30 c31 c32 c33 c34 c35 c36 c37 c38 c39 c40 c41 c42 c43 c44 c45 c46 c47 c48 c49 c50 c51 c52 c53 c54 c55 c56 c57 c58 c59 c60 c61 c62 c63 c64 c65 c66 c67 c68 c69 c70 c71 c72 c73 c74 c75 c76 c77 c78 c79 c80 c81 c82 c83 c84 c85 c86 c87 c88 c89 c90 c173 : Value) (b n : Nat) (k m : Nat) (A2 : Option Addr) (cap2 : Nat) (a : Act) : Prop := ∃ u13 : Value, ∃ u14 : Value, ∃ u15 : Value, ∃ u16 : Value, ∃ u91 : Value, ∃ u92 : Value, ∃ u93 : Value, ∃ u94 : Value, ∃ u95 : Value, ∃ u96 : Value, ∃ u97 : Value, ∃ u98 : Value, ∃ u99 : Value, ∃ u100 : Value, ∃ u101 : Value, ∃ u102 : Value, ∃ u103 : Value, ∃ u104 : Value, ∃ u105 : Value, ∃ u106 : Value, ∃ u107 : Value, ∃ u108 : Value, ∃ u109 : Value, ∃ u110 : Value, ∃ u111 : Value, ∃ u112 : Value, ∃ u113 : Value, ∃ u114 : Value, ∃ u115 : Value, ∃ u116 : Value, ∃ u117 : Value, ∃ u118 : Value, ∃ u119 : Value, ∃ u120 : Value, ∃ u121 : Value, ∃ u122 : Value, ∃ u123 : Value, ∃ u124 : Value, ∃ u125 : Value, ∃ u126 : Value, ∃ u127 : Value, ∃ u128 : Value, ∃ u129 : Value, ∃ u130 : Value, ∃ u131 : Value, ∃ u132 : Value, ∃ u133 : Value, ∃ u134 : Value, ∃ u135 : Value, ∃ u136 : Value, ∃ u137 : Value, ∃ u138 : Value, ∃ u139 : Value, ∃ u140 : Value, ∃ u141 : Value, ∃ u142 : Value, ∃ u143 : Value, ∃ u144 : Value, ∃ u145 : Value, ∃ u146 : Value, ∃ u147 : Value, ∃ u148 : Value, ∃ u149 : Value, ∃ u150 : Value, ∃ u151 : Value, ∃ u152 : Value, ∃ u153 : Value, ∃ u154 : Value, ∃ u155 : Value, ∃ u156 : Value, ∃ u157 : Value, ∃ u158 : Value, ∃ u159 : Value, ∃ u160 : Value, ∃ u161 : Value, ∃ u162 : Value, ∃ u163 : Value, ∃ u164 : Value, ∃ u165 : Value, ∃ u166 : Value, ∃ u167 : Value, ∃ u168 : Value, ∃ u169 : Value, ∃ u170 : Value, ∃ u171 : Value, ∃ u172 : Value, a = ⟨#[.pointer (some ⟨b, 0, none⟩), c1, c2, c3, c4, c5, c6, c7, c8, c9, .int .i64 (n : Nat), .slice A2 m cap2, .int .i64 (k : Int), u13, u14, u15, u16, c17, c18, c19, c20, c21, c22, c23, c24, c25, c26, c27, c28, c29, c30, c31, c32, c33, c34, c35, c36, c37, c38, c39, c40, c41, c42, c43, c44, c45, c46, c47, c48, c49, c50, c51, c52, c53, c54, c55, c56, c57, c58, c59, c60, c61, c62, c63, c64, c65, c66, c67, c68, c69, c70, c71, c72, c73, c74, c75, c76, c77, c78, c79, c80, c81, c82, c83, c84, c85, c86, c87, c88, c89, c90, u91, u92, u93, u94, u95, u96, u97, u98, u99, u100, u101, u102, u103, u104, u105, u106, u107, u108, u109, u110, u111, u112, u113, u114, u115, u116, u117, u118, u119, u120, u121, u122, u123, u124, u125, u126, u127, u128, u129, u130, u131, u132, u133, u134, u135, u136, u137, u138, u139, u140, u141, u142, u143, u144, u145, u146, u147, u148, u149, u150, u151, u152, u153, u154, u155, u156, u157, u158, u159, u160, u161, u162, u163, u164, u165, u166, u167, u168, u169, u170, u171, u172, c173], []⟩

def WIwo (c1 c2 c3 c4 c5 c6 c7 c8 c9 c17 c18 c19 c20 c21 c22 c23 c24 c25 c26 c27 c28 c29 c30 c31 c32 c33 c34 c35 c36 c37 c38 c39 c40 c41 c42 c43 c44 c45 c46 c47 c48 c49 c50 c51 c52 c53 c54 c55 c56 c57 c58 c59 c60 c61 c62 c63 c64 c65 c66 c67 c68 c69 c70 c71 c72 c73 c74 c75 c76 c77 c78 c79 c80 c81 c82 c83 c84 c85 c86 c87 c88 c89 c90 c173 : Value) (w0 : World) (L : List HP) (b g o cap gh oh ch gi oi ci : Nat) (n len : Nat) (p : Ent) (s0 : WS) (a : Act) (wr : World) : Prop := ∃ (k : Nat) (s : WS) (A2 : Option Addr) (cap2 : Nat), RelWO w0 L b g o cap gh oh ch gi oi ci n len p s0 k s A2 cap2 wr ∧ FRWO c1 c2 c3 c4 c5 c6 c7 c8 c9 c17 c18 c19 c20 c21 c22 c23 c24 c25 c26 c27 c28 c29 c30 c31 c32 c33 c34 c35 c36 c37 c38 c39 c40 c41 c42 c43 c44 c45 c46 c47 c48 c49 c50 c51 c52 c53 c54 c55 c56 c57 c58 c59 c60 c61 c62 c63 c64 c65 c66 c67 c68 c69 c70 c71 c72 c73 c74 c75 c76 c77 c78 c79 c80 c81 c82 c83 c84 c85 c86 c87 c88 c89 c90 c173 b n k s.out.length A2 cap2 a
def WXwo (c1 c2 c3 c4 c5 c6 c7 c8 c9 c17 c18 c19 c20 c21 c22 c23 c24 c25 c26 c27 c28 c29 c30 c31 c32 c33 c34 c35 c36 c37 c38 c39 c40 c41 c42 c43 c44 c45 c46 c47 c48 c49 c50 c51 c52 c53 c54 c55 c56 c57 c58 c59 c60 c61 c62 c63 c64 c65 c66 c67 c68 c69 c70 c71 c72 c73 c74 c75 c76 c77 c78 c79 c80 c81 c82 c83 c84 c85 c86 c87 c88 c89 c90 c173 : Value) (w0 : World) (L : List HP) (b g o cap gh oh ch gi oi ci : Nat) (n len : Nat) (p : Ent) (s0 : WS) (a : Act) (wr : World) : Prop := ∃ (s : WS) (A2 : Option Addr) (cap2 : Nat), RelWO w0 L b g o cap gh oh ch gi oi ci n len p s0 len s A2 cap2 wr ∧ FRWO c1 c2 c3 c4 c5 c6 c7 c8 c9 c17 c18 c19 c20 c21 c22 c23 c24 c25 c26 c27 c28 c29 c30 c31 c32 c33 c34 c35 c36 c37 c38 c39 c40 c41 c42 c43 c44 c45 c46 c47 c48 c49 c50 c51 c52 c53 c54 c55 c56 c57 c58 c59 c60 c61 c62 c63 c64 c65 c66 c67 c68 c69 c70 c71 c72 c73 c74 c75 c76 c77 c78 c79 c80 c81 c82 c83 c84 c85 c86 c87 c88 c89 c90 c173 b n len s.out.length A2 cap2 a
def WmuO_ (K : Nat) (a : Act) (_ : World) : Nat := K - (intOf (a.tmps.getD 12 undef)).toNat
variable {w0 : World} {L : List HP} {b : Nat} {g o cap gh oh ch gi oi ci : Nat} {n len : Nat} {p : Ent} {s0 : WS} {k : Nat} {s : WS} {x : Ent} {A2 : Option Addr} {cap2 : Nat} {wr : World}
set_option maxRecDepth 1000000 in
set_option maxHeartbeats 8000000 in
theorem stayWO (hcap : len ≤ cap) (hpc : 0 ≤ p.pc ∧ p.pc < 18446744073709551616) (hnl : n < len) (hR : RelWO w0 L b g o cap gh oh ch gi oi ci n len p s0 k s A2 cap2 wr) (hlt : k < len) (hx : s.l[k]? = some x) (hgo : (!x.store && x.read) = false) (Q0 : Exit → Act → World → Prop) (c1 c2 c3 c4 c5 c6 c7 c8 c9 c17 c18 c19 c20 c21 c22 c23 c24 c25 c26 c27 c28 c29 c30 c31 c32 c33 c34 c35 c36 c37 c38 c39 c40 c41 c42 c43 c44 c45 c46 c47 c48 c49 c50 c51 c52 c53 c54 c55 c56 c57 c58 c59 c60 c61 c62 c63 c64 c65 c66 c67 c68 c69 c70 c71 c72 c73 c74 c75 c76 c77 c78 c79 c80 c81 c82 c83 c84 c85 c86 c87 c88 c89 c90 c173 u13 u14 u15 u16 u91 u92 u93 u94 u95 u96 u97 u98 u99 u100 u101 u102 u103 u104 u105 u106 u107 u108 u109 u110 u111 u112 u113 u114 u115 u116 u117 u118 u119 u120 u121 u122 u123 u124 u125 u126 u127 u128 u129 u130 u131 u132 u133 u134 u135 u136 u137 u138 u139 u140 u141 u142 u143 u144 u145 u146 u147 u148 u149 u150 u151 u152 u153 u154 u155 u156 u157 u158 u159 u160 u161 u162 u163 u164 u165 u166 u167 u168 u169 u170 u171 u172 : Value) :
    Code.wp Try.prog bodyWO (Exit.then (fun a' w'' => WIwo c1 c2 c3 c4 c5 c6 c7 c8 c9 c17 c18 c19 c20 c21 c22 c23 c24 c25 c26 c27 c28 c29 c30 c31 c32 c33 c34 c35 c36 c37 c38 c39 c40 c41 c42 c43 c44 c45 c46 c47 c48 c49 c50 c51 c52 c53 c54 c55 c56 c57 c58 c59 c60 c61 c62 c63 c64 c65 c66 c67 c68 c69 c70 c71 c72 c73 c74 c75 c76 c77 c78 c79 c80 c81 c82 c83 c84 c85 c86 c87 c88 c89 c90 c173 w0 L b g o cap gh oh ch gi oi ci n len p s0 a' w'' ∧ WmuO_ len a' w'' < len - k) Q0) ⟨#[.pointer (some ⟨b, 0, none⟩), c1, c2, c3, c4, c5, c6, c7, c8, c9, .int .i64 (n : Nat), .slice A2 s.out.length cap2, .int .i64 (k : Int), u13, u14, u15, u16, c17, c18, c19, c20, c21, c22, c23, c24, c25, c26, c27, c28, c29, c30, c31, c32, c33, c34, c35, c36, c37, c38, c39, c40, c41, c42, c43, c44, c45, c46, c47, c48, c49, c50, c51, c52, c53, c54, c55, c56, c57, c58, c59, c60, c61, c62, c63, c64, c65, c66, c67, c68, c69, c70, c71, c72, c73, c74, c75, c76, c77, c78, c79, c80, c81, c82, c83, c84, c85, c86, c87, c88, c89, c90, u91, u92, u93, u94, u95, u96, u97, u98, u99, u100, u101, u102, u103, u104, u105, u106, u107, u108, u109, u110, u111, u112, u113, u114, u115, u116, u117, u118, u119, u120, u121, u122, u123, u124, u125, u126, u127, u128, u129, u130, u131, u132, u133, u134, u135, u136, u137, u138, u139, u140, u141, u142, u143, u144, u145, u146, u147, u148, u149, u150, u151, u152, u153, u154, u155, u156, u157, u158, u159, u160, u161, u162, u163, u164, u165, u166, u167, u168, u169, u170, u171, u172, c173], []⟩ wr := by
  conv => arg 2; whnf
  have HR := hide hR
  have HX := hide hx
  have hJ := hR.heap
  have hsl := hR.sl
  have hn16 := hR.qi.len
  dsimp only at hn16
  have hout := hR.out
  have hJ1 := hJ
  unfold OR at hJ1
  dsimp only at hJ1
  rw [hsl] at hJ1 hn16
  obtain ⟨m, hm⟩ : ∃ m, s.out.length = m := ⟨_, rfl⟩
  have Hm := hide hm
  rw [hm] at hJ1 hout
  have c0 : wr.cell? ⟨b, 0, none⟩ = some (.slice (some ⟨g, o, none⟩) len cap) := (cell_blk (Heap.heap hJ1.f2) 0).1
  have hbl := lt_of_heap' (Heap.heap hJ1.f2)
  obtain ⟨⟨d0, d1, d2, d3, d4, d5, d6, d7, d8⟩, hgl⟩ := ent_cells hJ1.f3.slw hx hlt
  have hst := hR.step
  obtain ⟨ky, hky⟩ : ∃ k, wr.heap.size = k := ⟨_, rfl⟩
  have hD2 := hJ.new #[.int .i64 x.tag, .int .u64 x.pc, .bool x.store, .bool x.placed, .bool x.data, .bool x.read, .int .u64 x.at_, .int .i64 x.size, .int .u64 x.v] 84
  rw [hky] at hD2
  have Hky := hide hky
  have HD2 := hide hD2
  have Hst := hide hst
  rw [hm]
  clear hR hJ hJ1 hx hky hD2 hst hsl hm
  go_upto_region 14 with fail
  rw [unhide Hky]
  generalize wr.alloc (.cells #[.int .i64 x.tag, .int .u64 x.pc, .bool x.store, .bool x.placed, .bool x.data, .bool x.read, .int .u64 x.at_, .int .i64 x.size, .int .u64 x.v] 84) = wd at HD2 ⊢
  generalize (Value.agg #[.int .i64 x.tag, .int .u64 x.pc, .bool x.store, .bool x.placed, .bool x.data, .bool x.read, .int .u64 x.at_, .int .i64 x.size, .int .u64 x.v]) = ag
  clear c0 hbl d0 d1 d2 d3 d4 d5 d6 d7 d8 hgl Hky
  obtain ⟨n0, n1, n2, n3, n4, n5, n6, n7, n8⟩ := cells9r (e := x) (Heap.heap (unhide HD2))
  have hyl := lt_of_heap' (Heap.heap (unhide HD2))
  clear n0 n1 n3 n4 n6 n8
  have HS2 := hide (show whStep n p.pc s k = s by
    unfold whStep
    rw [unhide HX]
    simp only [hgo, Bool.false_and]
    rfl)
  go_wp2
  go_loopw [14, 15] (fun v14 v15 wr2 => v14 = .bool false ∧ v15 = .int .i64 0 ∧ wr2 = wd) (fun _ _ _ => 0)
  case atStart => exact ⟨rfl, rfl, rfl⟩
  case round =>
    obtain ⟨rfl, rfl, hwr⟩ := hrel
    subst hwr
    obtain ⟨sx, hsx⟩ : ∃ z : Int, x.size = z := ⟨_, rfl⟩
    rw [hsx] at n7
    clear hsx
    go_upto_region 16 with fail
    go_cut [119] from 107 to 135 (fun s119 wx => s119 = .bool false ∧ Heap w0 wx (HP.blk ky #[.int .i64 x.tag, .int .u64 x.pc, .bool x.store, .bool x.placed, .bool x.data, .bool x.read, .int .u64 x.at_, .int .i64 x.size, .int .u64 x.v] 84 :: HP.slw (.slice A2 s.out.length cap2) 1 s.out.length (ints s.out) :: OR b (some ⟨g, o, none⟩) cap gh oh ch gi oi ci ⟨s.l, s.h⟩ L))
    case first =>
      cases hp0 : decide ((0 : Int) < sx) with
      | false =>
        go_wp2
        go_meet
        exact ⟨rfl, unhide HD2⟩
      | true =>
        cases hx1 : x.store with
        | true =>
          rw [hx1] at n2
          go_wp2
          go_meet
          exact ⟨rfl, unhide HD2⟩
        | false =>
          rw [hx1, Bool.not_false, Bool.true_and] at hgo
          rw [hx1] at n2
          rw [hgo] at n5
          go_wp2
          go_meet
          exact ⟨rfl, unhide HD2⟩
    case rest =>
      obtain ⟨rfl, hH⟩ := hcut
      have HH := hide hH.tail
      clear n2 n5 n7 hyl hgo hH HD2
      go_wp2
      have e12 : (k : Int) + 1 = ((k + 1 : Nat) : Int) := rfl
      try rw [e12]
      refine ⟨⟨k + 1, s, A2, cap2, ⟨by have := (unhide HR).k1; omega, by omega, by have := unhide Hm; omega, by rw [unhide Hst, unhide HS2], (unhide HR).sl, (unhide HR).sn, (unhide HR).qi, unhide HH⟩, ?_⟩, by simp [WmuO_, intOf]; omega⟩
      unfold FRWO
      rw [unhide Hm]
      refine ⟨_, _, _, _, _, _, _, _, _, _, _, _, _, _, _, _, _, _, _, _, _, _, _, _, _, _, _, _, _, _, _, _, _, _, _, _, _, _, _, _, _, _, _, _, _, _, _, _, _, _, _, _, _, _, _, _, _, _, _, _, _, _, _, _, _, _, _, _, _, _, _, _, _, _, _, _, _, _, _, _, _, _, _, _, _, _, rfl⟩
end Go.Proofs.Ytdmkgomcomcfhaa
