/- Layer 23: the reference: Where: the loop over the bytes. -/
import Derived.Test.YtdmkgomcomcfhaaR6
import Derived.Deep.CutRange
namespace Go.Proofs.Ytdmkgomcomcfhaa
open Go.RowKit

def loopsOfWO : Code → List Code
  | .loop c => [c]
  | .seq a b => loopsOfWO a ++ loopsOfWO b
  | .block _ c => loopsOfWO c
  | .scope c => loopsOfWO c
  | .cond _ a b => loopsOfWO a ++ loopsOfWO b
  | _ => []

noncomputable def bodyWO : Code := ((Try.f16.body.map loopsOfWO).getD []).getD 0 .skip
noncomputable def bodyWI : Code := (loopsOfWO bodyWO).getD 0 .skip
set_option maxRecDepth 1000000 in
def FRWI (c1 c2 c3 c4 c5 c6 c7 c8 c9 c11 c17 c18 c19 c20 c21 c22 c23 c24 c25 c26 c27 c28 c29 c30 c31 c32 c33 c34 c35 c36 c37 c38 c39 c40 c41 c42 c43 c44 c45 c46 c47 c48 c49 c50 c51 c52 c53 c54 c55 c56 c57 c58 c59 c60 c61 c62 c63 c64 c65 c66 c67 c68 c69 c70 c71 c72 c73 c74 c75 c76 c77 c78 c79 c80 c81 c82 c83 c84 c85 c86 c87 c88 c89 c90 c91 c92 c93 c94 c95 c96 c97 c98 c99 c100 c101 c102 c103 c104 c105 c106 c136 c137 c138 c139 c140 c141 c142 c143 c144 c145 c146 c147 c148 c149 c150 c151 c152 c153 c154 c155 c156 c157 c158 c159 c160 c161 c162 c163 c164 c165 c166 c167 c168 c169 c170 c171 c172 c173 : Value) (b n k ky : Nat) (E : Bool) (j : Nat) (a : Act) : Prop := ∃ u16 : Value, ∃ u107 : Value, ∃ u108 : Value, ∃ u109 : Value, ∃ u110 : Value, ∃ u111 : Value, ∃ u112 : Value, ∃ u113 : Value, ∃ u114 : Value, ∃ u115 : Value, ∃ u116 : Value, ∃ u117 : Value, ∃ u118 : Value, ∃ u119 : Value, ∃ u120 : Value, ∃ u121 : Value, ∃ u122 : Value, ∃ u123 : Value, ∃ u124 : Value, ∃ u125 : Value, ∃ u126 : Value, ∃ u127 : Value, ∃ u128 : Value, ∃ u129 : Value, ∃ u130 : Value, ∃ u131 : Value, ∃ u132 : Value, ∃ u133 : Value, ∃ u134 : Value, ∃ u135 : Value, a = ⟨#[.pointer (some ⟨b, 0, none⟩), c1, c2, c3, c4, c5, c6, c7, c8, c9, .int .i64 (n : Nat), c11, .int .i64 (k : Nat), .pointer (some ⟨ky, 0, none⟩), .bool E, .int .i64 (j : Int), u16, c17, c18, c19, c20, c21, c22, c23, c24, c25, c26, c27, c28, c29, c30, c31, c32, c33, c34, c35, c36, c37, c38, c39, c40, c41, c42, c43, c44, c45, c46, c47, c48, c49, c50, c51, c52, c53, c54, c55, c56, c57, c58, c59, c60, c61, c62, c63, c64, c65, c66, c67, c68, c69, c70, c71, c72, c73, c74, c75, c76, c77, c78, c79, c80, c81, c82, c83, c84, c85, c86, c87, c88, c89, c90, c91, c92, c93, c94, c95, c96, c97, c98, c99, c100, c101, c102, c103, c104, c105, c106, u107, u108, u109, u110, u111, u112, u113, u114, u115, u116, u117, u118, u119, u120, u121, u122, u123, u124, u125, u126, u127, u128, u129, u130, u131, u132, u133, u134, u135, c136, c137, c138, c139, c140, c141, c142, c143, c144, c145, c146, c147, c148, c149, c150, c151, c152, c153, c154, c155, c156, c157, c158, c159, c160, c161, c162, c163, c164, c165, c166, c167, c168, c169, c170, c171, c172, c173], []⟩

def WIwi (c1 c2 c3 c4 c5 c6 c7 c8 c9 c11 c17 c18 c19 c20 c21 c22 c23 c24 c25 c26 c27 c28 c29 c30 c31 c32 c33 c34 c35 c36 c37 c38 c39 c40 c41 c42 c43 c44 c45 c46 c47 c48 c49 c50 c51 c52 c53 c54 c55 c56 c57 c58 c59 c60 c61 c62 c63 c64 c65 c66 c67 c68 c69 c70 c71 c72 c73 c74 c75 c76 c77 c78 c79 c80 c81 c82 c83 c84 c85 c86 c87 c88 c89 c90 c91 c92 c93 c94 c95 c96 c97 c98 c99 c100 c101 c102 c103 c104 c105 c106 c136 c137 c138 c139 c140 c141 c142 c143 c144 c145 c146 c147 c148 c149 c150 c151 c152 c153 c154 c155 c156 c157 c158 c159 c160 c161 c162 c163 c164 c165 c166 c167 c168 c169 c170 c171 c172 c173 : Value) (w0 : World) (L : List HP) (b g o cap gh oh ch gi oi ci : Nat) (n k ky : Nat) (s : WS) (x : Ent) (A2 : Option Addr) (cap2 : Nat) (a : Act) (wr : World) : Prop := ∃ j : Nat, (j ≤ x.size.toNat ∧ Heap w0 wr (HP.blk ky #[.int .i64 x.tag, .int .u64 x.pc, .bool x.store, .bool x.placed, .bool x.data, .bool x.read, .int .u64 x.at_, .int .i64 x.size, .int .u64 x.v] 84 :: HP.slw (.slice A2 s.out.length cap2) 1 s.out.length (ints s.out) :: OR b (some ⟨g, o, none⟩) cap gh oh ch gi oi ci ⟨s.l, s.h⟩ L)) ∧ FRWI c1 c2 c3 c4 c5 c6 c7 c8 c9 c11 c17 c18 c19 c20 c21 c22 c23 c24 c25 c26 c27 c28 c29 c30 c31 c32 c33 c34 c35 c36 c37 c38 c39 c40 c41 c42 c43 c44 c45 c46 c47 c48 c49 c50 c51 c52 c53 c54 c55 c56 c57 c58 c59 c60 c61 c62 c63 c64 c65 c66 c67 c68 c69 c70 c71 c72 c73 c74 c75 c76 c77 c78 c79 c80 c81 c82 c83 c84 c85 c86 c87 c88 c89 c90 c91 c92 c93 c94 c95 c96 c97 c98 c99 c100 c101 c102 c103 c104 c105 c106 c136 c137 c138 c139 c140 c141 c142 c143 c144 c145 c146 c147 c148 c149 c150 c151 c152 c153 c154 c155 c156 c157 c158 c159 c160 c161 c162 c163 c164 c165 c166 c167 c168 c169 c170 c171 c172 c173 b n k ky (early s.l k n x.at_ j) j a
def WXwi (c1 c2 c3 c4 c5 c6 c7 c8 c9 c11 c17 c18 c19 c20 c21 c22 c23 c24 c25 c26 c27 c28 c29 c30 c31 c32 c33 c34 c35 c36 c37 c38 c39 c40 c41 c42 c43 c44 c45 c46 c47 c48 c49 c50 c51 c52 c53 c54 c55 c56 c57 c58 c59 c60 c61 c62 c63 c64 c65 c66 c67 c68 c69 c70 c71 c72 c73 c74 c75 c76 c77 c78 c79 c80 c81 c82 c83 c84 c85 c86 c87 c88 c89 c90 c91 c92 c93 c94 c95 c96 c97 c98 c99 c100 c101 c102 c103 c104 c105 c106 c136 c137 c138 c139 c140 c141 c142 c143 c144 c145 c146 c147 c148 c149 c150 c151 c152 c153 c154 c155 c156 c157 c158 c159 c160 c161 c162 c163 c164 c165 c166 c167 c168 c169 c170 c171 c172 c173 : Value) (w0 : World) (L : List HP) (b g o cap gh oh ch gi oi ci : Nat) (n k ky : Nat) (s : WS) (x : Ent) (A2 : Option Addr) (cap2 : Nat) (a : Act) (wr : World) : Prop := Heap w0 wr (HP.blk ky #[.int .i64 x.tag, .int .u64 x.pc, .bool x.store, .bool x.placed, .bool x.data, .bool x.read, .int .u64 x.at_, .int .i64 x.size, .int .u64 x.v] 84 :: HP.slw (.slice A2 s.out.length cap2) 1 s.out.length (ints s.out) :: OR b (some ⟨g, o, none⟩) cap gh oh ch gi oi ci ⟨s.l, s.h⟩ L) ∧ FRWI c1 c2 c3 c4 c5 c6 c7 c8 c9 c11 c17 c18 c19 c20 c21 c22 c23 c24 c25 c26 c27 c28 c29 c30 c31 c32 c33 c34 c35 c36 c37 c38 c39 c40 c41 c42 c43 c44 c45 c46 c47 c48 c49 c50 c51 c52 c53 c54 c55 c56 c57 c58 c59 c60 c61 c62 c63 c64 c65 c66 c67 c68 c69 c70 c71 c72 c73 c74 c75 c76 c77 c78 c79 c80 c81 c82 c83 c84 c85 c86 c87 c88 c89 c90 c91 c92 c93 c94 c95 c96 c97 c98 c99 c100 c101 c102 c103 c104 c105 c106 c136 c137 c138 c139 c140 c141 c142 c143 c144 c145 c146 c147 c148 c149 c150 c151 c152 c153 c154 c155 c156 c157 c158 c159 c160 c161 c162 c163 c164 c165 c166 c167 c168 c169 c170 c171 c172 c173 b n k ky (early s.l k n x.at_ x.size.toNat) x.size.toNat a
def WmuI (K : Nat) (a : Act) (_ : World) : Nat := K - (intOf (a.tmps.getD 15 undef)).toNat
variable {w0 : World} {L : List HP} {b : Nat} {g o cap gh oh ch gi oi ci : Nat} {n k ky : Nat} {s : WS} {x : Ent} {A2 : Option Addr} {cap2 : Nat}
set_option maxRecDepth 1000000 in
set_option maxHeartbeats 8000000 in
theorem oneWI (hsI : QI ⟨s.l, s.h⟩) (hcap : s.l.length ≤ cap) (hkl : k < s.l.length) (hx : s.l[k]? = some x) (hx1 : x.store = false) (hx2 : x.read = true) {j : Nat} {wr : World} (hK : Heap w0 wr (HP.blk ky #[.int .i64 x.tag, .int .u64 x.pc, .bool x.store, .bool x.placed, .bool x.data, .bool x.read, .int .u64 x.at_, .int .i64 x.size, .int .u64 x.v] 84 :: HP.slw (.slice A2 s.out.length cap2) 1 s.out.length (ints s.out) :: OR b (some ⟨g, o, none⟩) cap gh oh ch gi oi ci ⟨s.l, s.h⟩ L)) (hj : j < x.size.toNat) {E : Bool} (hE : early s.l k n x.at_ j = E) (Q0 : Exit → Act → World → Prop) (c1 c2 c3 c4 c5 c6 c7 c8 c9 c11 c17 c18 c19 c20 c21 c22 c23 c24 c25 c26 c27 c28 c29 c30 c31 c32 c33 c34 c35 c36 c37 c38 c39 c40 c41 c42 c43 c44 c45 c46 c47 c48 c49 c50 c51 c52 c53 c54 c55 c56 c57 c58 c59 c60 c61 c62 c63 c64 c65 c66 c67 c68 c69 c70 c71 c72 c73 c74 c75 c76 c77 c78 c79 c80 c81 c82 c83 c84 c85 c86 c87 c88 c89 c90 c91 c92 c93 c94 c95 c96 c97 c98 c99 c100 c101 c102 c103 c104 c105 c106 c136 c137 c138 c139 c140 c141 c142 c143 c144 c145 c146 c147 c148 c149 c150 c151 c152 c153 c154 c155 c156 c157 c158 c159 c160 c161 c162 c163 c164 c165 c166 c167 c168 c169 c170 c171 c172 c173 u16 u107 u108 u109 u110 u111 u112 u113 u114 u115 u116 u117 u118 u119 u120 u121 u122 u123 u124 u125 u126 u127 u128 u129 u130 u131 u132 u133 u134 u135 : Value) :
    Code.wp Try.prog bodyWI (Exit.then (fun a' w'' => WIwi c1 c2 c3 c4 c5 c6 c7 c8 c9 c11 c17 c18 c19 c20 c21 c22 c23 c24 c25 c26 c27 c28 c29 c30 c31 c32 c33 c34 c35 c36 c37 c38 c39 c40 c41 c42 c43 c44 c45 c46 c47 c48 c49 c50 c51 c52 c53 c54 c55 c56 c57 c58 c59 c60 c61 c62 c63 c64 c65 c66 c67 c68 c69 c70 c71 c72 c73 c74 c75 c76 c77 c78 c79 c80 c81 c82 c83 c84 c85 c86 c87 c88 c89 c90 c91 c92 c93 c94 c95 c96 c97 c98 c99 c100 c101 c102 c103 c104 c105 c106 c136 c137 c138 c139 c140 c141 c142 c143 c144 c145 c146 c147 c148 c149 c150 c151 c152 c153 c154 c155 c156 c157 c158 c159 c160 c161 c162 c163 c164 c165 c166 c167 c168 c169 c170 c171 c172 c173 w0 L b g o cap gh oh ch gi oi ci n k ky s x A2 cap2 a' w'' ∧ WmuI x.size.toNat a' w'' < x.size.toNat - j) Q0) ⟨#[.pointer (some ⟨b, 0, none⟩), c1, c2, c3, c4, c5, c6, c7, c8, c9, .int .i64 (n : Nat), c11, .int .i64 (k : Nat), .pointer (some ⟨ky, 0, none⟩), .bool E, .int .i64 (j : Int), u16, c17, c18, c19, c20, c21, c22, c23, c24, c25, c26, c27, c28, c29, c30, c31, c32, c33, c34, c35, c36, c37, c38, c39, c40, c41, c42, c43, c44, c45, c46, c47, c48, c49, c50, c51, c52, c53, c54, c55, c56, c57, c58, c59, c60, c61, c62, c63, c64, c65, c66, c67, c68, c69, c70, c71, c72, c73, c74, c75, c76, c77, c78, c79, c80, c81, c82, c83, c84, c85, c86, c87, c88, c89, c90, c91, c92, c93, c94, c95, c96, c97, c98, c99, c100, c101, c102, c103, c104, c105, c106, u107, u108, u109, u110, u111, u112, u113, u114, u115, u116, u117, u118, u119, u120, u121, u122, u123, u124, u125, u126, u127, u128, u129, u130, u131, u132, u133, u134, u135, c136, c137, c138, c139, c140, c141, c142, c143, c144, c145, c146, c147, c148, c149, c150, c151, c152, c153, c154, c155, c156, c157, c158, c159, c160, c161, c162, c163, c164, c165, c166, c167, c168, c169, c170, c171, c172, c173], []⟩ wr := by
  conv => arg 2; whnf
  have hxo := hsI.ok x (List.mem_of_getElem? hx)
  have hk16 := hsI.len
  dsimp only at hk16
  obtain ⟨sx, hsx⟩ : ∃ z : Nat, x.size = z := ⟨x.size.toNat, by have := (size_bd hxo).1; omega⟩
  have hsx8 : sx ≤ 8 := by have := (size_bd hxo).2; omega
  have Hsx := hide hsx
  rw [hsx, Int.toNat_natCast] at hj
  have HK := hide hK
  obtain ⟨n0, n1, n2, n3, n4, n5, n6, n7, n8⟩ := cells9r (e := x) (Heap.heap hK)
  have hyl := lt_of_heap' (Heap.heap hK)
  rw [hx1] at n2
  rw [hx2] at n5
  rw [hsx] at n7
  have HupE := hide (early_up s.l k n x.at_ j)
  have HE := hide hE
  have hRR := Heap.rrr (q := ⟨s.l, s.h⟩) hsI hcap hK.tail.tail
  have e1 : IntKind.u64.wrap (j : Int) = (j : Int) := by rw [IntKind.wrap_u64]; omega
  have e2 : IntKind.u64.wrap (x.at_ + (j : Int)) = wrapA x.at_ j := IntKind.wrap_u64 _
  have hwb := wrapA_bd x.at_ j
  obtain ⟨A3, hA3⟩ : ∃ y, wrapA x.at_ j = y := ⟨_, rfl⟩
  have HA3 := hide hA3
  rw [hA3] at hwb e2
  have hgv := hide (giverR hRR k (Nat.le_of_lt hkl) A3 hwb.1 hwb.2)
  clear hK hA3 hRR hE hsx hxo hsI hcap hx hx1 hx2
  go_wp2_with fail
  refine (unhide hgv).mono ?_
  rintro r w5 ⟨rfl, hg5⟩
  have HK2 := hide ((unhide HK).grown hg5)
  clear hgv hg5 HK n0 n1 n2 n3 n4 n5 n6 n7 n8 hyl
  have hq := optI_eq (giver (Qs.mk s.l s.h).l A3 k) n
  obtain ⟨gq, hgq⟩ : ∃ y, optI (giver (Qs.mk s.l s.h).l A3 k) = y := ⟨_, rfl⟩
  obtain ⟨dq, hdq⟩ : ∃ y, decide (giver (Qs.mk s.l s.h).l A3 k = some n) = y := ⟨_, rfl⟩
  have Hup2 := hide (show early s.l k n x.at_ (j + 1) = (E || dq) by rw [unhide HupE, unhide HE, unhide HA3]; exact congrArg _ hdq)
  rw [hgq, hdq] at hq
  rw [hgq]
  clear hgq hdq HupE HE
  cases E with
  | true =>
    go_wp2
    have e15 : (j : Int) + 1 = ((j + 1 : Nat) : Int) := rfl
    try rw [e15]
    refine ⟨⟨j + 1, ⟨by rw [unhide Hsx, Int.toNat_natCast]; omega, unhide HK2⟩, ?_⟩, by rw [unhide Hsx, Int.toNat_natCast]; simp [WmuI, intOf]; omega⟩
    unfold FRWI
    rw [unhide Hup2]
    refine ⟨_, _, _, _, _, _, _, _, _, _, _, _, _, _, _, _, _, _, _, _, _, _, _, _, _, _, _, _, _, _, rfl⟩
  | false =>
    go_wp2
    have e15 : (j : Int) + 1 = ((j + 1 : Nat) : Int) := rfl
    try rw [e15]
    refine ⟨⟨j + 1, ⟨by rw [unhide Hsx, Int.toNat_natCast]; omega, unhide HK2⟩, ?_⟩, by rw [unhide Hsx, Int.toNat_natCast]; simp [WmuI, intOf]; omega⟩
    unfold FRWI
    rw [unhide Hup2]
    refine ⟨_, _, _, _, _, _, _, _, _, _, _, _, _, _, _, _, _, _, _, _, _, _, _, _, _, _, _, _, _, _, rfl⟩
set_option maxRecDepth 1000000 in
set_option maxHeartbeats 8000000 in
theorem roundWI (hsI : QI ⟨s.l, s.h⟩) (hcap : s.l.length ≤ cap) (hkl : k < s.l.length) (hx : s.l[k]? = some x) (hx1 : x.store = false) (hx2 : x.read = true) (Q0 : Exit → Act → World → Prop) (c1 c2 c3 c4 c5 c6 c7 c8 c9 c11 c17 c18 c19 c20 c21 c22 c23 c24 c25 c26 c27 c28 c29 c30 c31 c32 c33 c34 c35 c36 c37 c38 c39 c40 c41 c42 c43 c44 c45 c46 c47 c48 c49 c50 c51 c52 c53 c54 c55 c56 c57 c58 c59 c60 c61 c62 c63 c64 c65 c66 c67 c68 c69 c70 c71 c72 c73 c74 c75 c76 c77 c78 c79 c80 c81 c82 c83 c84 c85 c86 c87 c88 c89 c90 c91 c92 c93 c94 c95 c96 c97 c98 c99 c100 c101 c102 c103 c104 c105 c106 c136 c137 c138 c139 c140 c141 c142 c143 c144 c145 c146 c147 c148 c149 c150 c151 c152 c153 c154 c155 c156 c157 c158 c159 c160 c161 c162 c163 c164 c165 c166 c167 c168 c169 c170 c171 c172 c173 : Value) (hexit : ∀ a' w'', WXwi c1 c2 c3 c4 c5 c6 c7 c8 c9 c11 c17 c18 c19 c20 c21 c22 c23 c24 c25 c26 c27 c28 c29 c30 c31 c32 c33 c34 c35 c36 c37 c38 c39 c40 c41 c42 c43 c44 c45 c46 c47 c48 c49 c50 c51 c52 c53 c54 c55 c56 c57 c58 c59 c60 c61 c62 c63 c64 c65 c66 c67 c68 c69 c70 c71 c72 c73 c74 c75 c76 c77 c78 c79 c80 c81 c82 c83 c84 c85 c86 c87 c88 c89 c90 c91 c92 c93 c94 c95 c96 c97 c98 c99 c100 c101 c102 c103 c104 c105 c106 c136 c137 c138 c139 c140 c141 c142 c143 c144 c145 c146 c147 c148 c149 c150 c151 c152 c153 c154 c155 c156 c157 c158 c159 c160 c161 c162 c163 c164 c165 c166 c167 c168 c169 c170 c171 c172 c173 w0 L b g o cap gh oh ch gi oi ci n k ky s x A2 cap2 a' w'' → Q0 (.exit 2) a' w'') {a : Act} {wr : World} (hI : WIwi c1 c2 c3 c4 c5 c6 c7 c8 c9 c11 c17 c18 c19 c20 c21 c22 c23 c24 c25 c26 c27 c28 c29 c30 c31 c32 c33 c34 c35 c36 c37 c38 c39 c40 c41 c42 c43 c44 c45 c46 c47 c48 c49 c50 c51 c52 c53 c54 c55 c56 c57 c58 c59 c60 c61 c62 c63 c64 c65 c66 c67 c68 c69 c70 c71 c72 c73 c74 c75 c76 c77 c78 c79 c80 c81 c82 c83 c84 c85 c86 c87 c88 c89 c90 c91 c92 c93 c94 c95 c96 c97 c98 c99 c100 c101 c102 c103 c104 c105 c106 c136 c137 c138 c139 c140 c141 c142 c143 c144 c145 c146 c147 c148 c149 c150 c151 c152 c153 c154 c155 c156 c157 c158 c159 c160 c161 c162 c163 c164 c165 c166 c167 c168 c169 c170 c171 c172 c173 w0 L b g o cap gh oh ch gi oi ci n k ky s x A2 cap2 a wr) :
    Code.wp Try.prog bodyWI (Exit.then (fun a' w'' => WIwi c1 c2 c3 c4 c5 c6 c7 c8 c9 c11 c17 c18 c19 c20 c21 c22 c23 c24 c25 c26 c27 c28 c29 c30 c31 c32 c33 c34 c35 c36 c37 c38 c39 c40 c41 c42 c43 c44 c45 c46 c47 c48 c49 c50 c51 c52 c53 c54 c55 c56 c57 c58 c59 c60 c61 c62 c63 c64 c65 c66 c67 c68 c69 c70 c71 c72 c73 c74 c75 c76 c77 c78 c79 c80 c81 c82 c83 c84 c85 c86 c87 c88 c89 c90 c91 c92 c93 c94 c95 c96 c97 c98 c99 c100 c101 c102 c103 c104 c105 c106 c136 c137 c138 c139 c140 c141 c142 c143 c144 c145 c146 c147 c148 c149 c150 c151 c152 c153 c154 c155 c156 c157 c158 c159 c160 c161 c162 c163 c164 c165 c166 c167 c168 c169 c170 c171 c172 c173 w0 L b g o cap gh oh ch gi oi ci n k ky s x A2 cap2 a' w'' ∧ WmuI x.size.toNat a' w'' < WmuI x.size.toNat a wr) Q0) a wr := by
  obtain ⟨j, ⟨hj, hK⟩, hF⟩ := hI
  obtain ⟨E, hE⟩ : ∃ E, early s.l k n x.at_ j = E := ⟨_, rfl⟩
  unfold FRWI at hF
  obtain ⟨u16, hF⟩ := hF
  obtain ⟨u107, hF⟩ := hF
  obtain ⟨u108, hF⟩ := hF
  obtain ⟨u109, hF⟩ := hF
  obtain ⟨u110, hF⟩ := hF
  obtain ⟨u111, hF⟩ := hF
  obtain ⟨u112, hF⟩ := hF
  obtain ⟨u113, hF⟩ := hF
  obtain ⟨u114, hF⟩ := hF
  obtain ⟨u115, hF⟩ := hF
  obtain ⟨u116, hF⟩ := hF
  obtain ⟨u117, hF⟩ := hF
  obtain ⟨u118, hF⟩ := hF
  obtain ⟨u119, hF⟩ := hF
  obtain ⟨u120, hF⟩ := hF
  obtain ⟨u121, hF⟩ := hF
  obtain ⟨u122, hF⟩ := hF
  obtain ⟨u123, hF⟩ := hF
  obtain ⟨u124, hF⟩ := hF
  obtain ⟨u125, hF⟩ := hF
  obtain ⟨u126, hF⟩ := hF
  obtain ⟨u127, hF⟩ := hF
  obtain ⟨u128, hF⟩ := hF
  obtain ⟨u129, hF⟩ := hF
  obtain ⟨u130, hF⟩ := hF
  obtain ⟨u131, hF⟩ := hF
  obtain ⟨u132, hF⟩ := hF
  obtain ⟨u133, hF⟩ := hF
  obtain ⟨u134, hF⟩ := hF
  obtain ⟨u135, hF⟩ := hF
  subst hF
  by_cases hlt : j < x.size.toNat
  · rw [hE]
    exact oneWI hsI hcap hkl hx hx1 hx2 hK hlt hE Q0 _ _ _ _ _ _ _ _ _ _ _ _ _ _ _ _ _ _ _ _ _ _ _ _ _ _ _ _ _ _ _ _ _ _ _ _ _ _ _ _ _ _ _ _ _ _ _ _ _ _ _ _ _ _ _ _ _ _ _ _ _ _ _ _ _ _ _ _ _ _ _ _ _ _ _ _ _ _ _ _ _ _ _ _ _ _ _ _ _ _ _ _ _ _ _ _ _ _ _ _ _ _ _ _ _ _ _ _ _ _ _ _ _ _ _ _ _ _ _ _ _ _ _ _ _ _ _ _ _ _ _ _ _ _ _ _ _ _ _ _ _ _ _ _ _ _ _ _ _ _ _ _ _ _ _ _ _ _ _ _ _ _ _ _ _ _ _ _
  · obtain hje : j = x.size.toNat := by omega
    have hxo := hsI.ok x (List.mem_of_getElem? hx)
    obtain ⟨sx, hsx⟩ : ∃ z : Nat, x.size = z := ⟨x.size.toNat, by have := (size_bd hxo).1; omega⟩
    have Hje := hide hje
    rw [hsx, Int.toNat_natCast] at hje
    have hsx8 : sx ≤ 8 := by have := (size_bd hxo).2; omega
    have HK := hide hK
    obtain ⟨n0, n1, n2, n3, n4, n5, n6, n7, n8⟩ := cells9r (e := x) (Heap.heap hK)
    have hyl := lt_of_heap' (Heap.heap hK)
    rw [hx1] at n2
    rw [hx2] at n5
    rw [hsx] at n7
    have hlt2 : ¬ (j < sx) := by omega
    rw [hE]
    have HE := hide hE
    clear hK hlt hj hsx hxo hsI hcap hx hx1 hx2 hje hE
    conv => arg 2; whnf
    go_wp2
    refine ⟨unhide HK, ?_⟩
    rw [← unhide Hje, unhide HE]
    unfold FRWI
    refine ⟨_, _, _, _, _, _, _, _, _, _, _, _, _, _, _, _, _, _, _, _, _, _, _, _, _, _, _, _, _, _, rfl⟩
set_option maxRecDepth 1000000 in
theorem loopWI (hsI : QI ⟨s.l, s.h⟩) (hcap : s.l.length ≤ cap) (hkl : k < s.l.length) (hx : s.l[k]? = some x) (hx1 : x.store = false) (hx2 : x.read = true) (Q0 : Exit → Act → World → Prop) (c1 c2 c3 c4 c5 c6 c7 c8 c9 c11 c17 c18 c19 c20 c21 c22 c23 c24 c25 c26 c27 c28 c29 c30 c31 c32 c33 c34 c35 c36 c37 c38 c39 c40 c41 c42 c43 c44 c45 c46 c47 c48 c49 c50 c51 c52 c53 c54 c55 c56 c57 c58 c59 c60 c61 c62 c63 c64 c65 c66 c67 c68 c69 c70 c71 c72 c73 c74 c75 c76 c77 c78 c79 c80 c81 c82 c83 c84 c85 c86 c87 c88 c89 c90 c91 c92 c93 c94 c95 c96 c97 c98 c99 c100 c101 c102 c103 c104 c105 c106 c136 c137 c138 c139 c140 c141 c142 c143 c144 c145 c146 c147 c148 c149 c150 c151 c152 c153 c154 c155 c156 c157 c158 c159 c160 c161 c162 c163 c164 c165 c166 c167 c168 c169 c170 c171 c172 c173 : Value) {wr : World} (hK : Heap w0 wr (HP.blk ky #[.int .i64 x.tag, .int .u64 x.pc, .bool x.store, .bool x.placed, .bool x.data, .bool x.read, .int .u64 x.at_, .int .i64 x.size, .int .u64 x.v] 84 :: HP.slw (.slice A2 s.out.length cap2) 1 s.out.length (ints s.out) :: OR b (some ⟨g, o, none⟩) cap gh oh ch gi oi ci ⟨s.l, s.h⟩ L)) (u16 u107 u108 u109 u110 u111 u112 u113 u114 u115 u116 u117 u118 u119 u120 u121 u122 u123 u124 u125 u126 u127 u128 u129 u130 u131 u132 u133 u134 u135 : Value) (hexit : ∀ a' w'', WXwi c1 c2 c3 c4 c5 c6 c7 c8 c9 c11 c17 c18 c19 c20 c21 c22 c23 c24 c25 c26 c27 c28 c29 c30 c31 c32 c33 c34 c35 c36 c37 c38 c39 c40 c41 c42 c43 c44 c45 c46 c47 c48 c49 c50 c51 c52 c53 c54 c55 c56 c57 c58 c59 c60 c61 c62 c63 c64 c65 c66 c67 c68 c69 c70 c71 c72 c73 c74 c75 c76 c77 c78 c79 c80 c81 c82 c83 c84 c85 c86 c87 c88 c89 c90 c91 c92 c93 c94 c95 c96 c97 c98 c99 c100 c101 c102 c103 c104 c105 c106 c136 c137 c138 c139 c140 c141 c142 c143 c144 c145 c146 c147 c148 c149 c150 c151 c152 c153 c154 c155 c156 c157 c158 c159 c160 c161 c162 c163 c164 c165 c166 c167 c168 c169 c170 c171 c172 c173 w0 L b g o cap gh oh ch gi oi ci n k ky s x A2 cap2 a' w'' → Q0 (.exit 2) a' w'') :
    Code.wp Try.prog (Code.loop bodyWI) Q0 ⟨#[.pointer (some ⟨b, 0, none⟩), c1, c2, c3, c4, c5, c6, c7, c8, c9, .int .i64 (n : Nat), c11, .int .i64 (k : Nat), .pointer (some ⟨ky, 0, none⟩), .bool false, .int .i64 ((0 : Nat) : Int), u16, c17, c18, c19, c20, c21, c22, c23, c24, c25, c26, c27, c28, c29, c30, c31, c32, c33, c34, c35, c36, c37, c38, c39, c40, c41, c42, c43, c44, c45, c46, c47, c48, c49, c50, c51, c52, c53, c54, c55, c56, c57, c58, c59, c60, c61, c62, c63, c64, c65, c66, c67, c68, c69, c70, c71, c72, c73, c74, c75, c76, c77, c78, c79, c80, c81, c82, c83, c84, c85, c86, c87, c88, c89, c90, c91, c92, c93, c94, c95, c96, c97, c98, c99, c100, c101, c102, c103, c104, c105, c106, u107, u108, u109, u110, u111, u112, u113, u114, u115, u116, u117, u118, u119, u120, u121, u122, u123, u124, u125, u126, u127, u128, u129, u130, u131, u132, u133, u134, u135, c136, c137, c138, c139, c140, c141, c142, c143, c144, c145, c146, c147, c148, c149, c150, c151, c152, c153, c154, c155, c156, c157, c158, c159, c160, c161, c162, c163, c164, c165, c166, c167, c168, c169, c170, c171, c172, c173], []⟩ wr := by
  refine wp_loop (WIwi c1 c2 c3 c4 c5 c6 c7 c8 c9 c11 c17 c18 c19 c20 c21 c22 c23 c24 c25 c26 c27 c28 c29 c30 c31 c32 c33 c34 c35 c36 c37 c38 c39 c40 c41 c42 c43 c44 c45 c46 c47 c48 c49 c50 c51 c52 c53 c54 c55 c56 c57 c58 c59 c60 c61 c62 c63 c64 c65 c66 c67 c68 c69 c70 c71 c72 c73 c74 c75 c76 c77 c78 c79 c80 c81 c82 c83 c84 c85 c86 c87 c88 c89 c90 c91 c92 c93 c94 c95 c96 c97 c98 c99 c100 c101 c102 c103 c104 c105 c106 c136 c137 c138 c139 c140 c141 c142 c143 c144 c145 c146 c147 c148 c149 c150 c151 c152 c153 c154 c155 c156 c157 c158 c159 c160 c161 c162 c163 c164 c165 c166 c167 c168 c169 c170 c171 c172 c173 w0 L b g o cap gh oh ch gi oi ci n k ky s x A2 cap2) (WmuI x.size.toNat) ⟨0, ⟨Nat.zero_le _, hK⟩, ?_⟩ (fun a w'' hI => roundWI hsI hcap hkl hx hx1 hx2 Q0 c1 c2 c3 c4 c5 c6 c7 c8 c9 c11 c17 c18 c19 c20 c21 c22 c23 c24 c25 c26 c27 c28 c29 c30 c31 c32 c33 c34 c35 c36 c37 c38 c39 c40 c41 c42 c43 c44 c45 c46 c47 c48 c49 c50 c51 c52 c53 c54 c55 c56 c57 c58 c59 c60 c61 c62 c63 c64 c65 c66 c67 c68 c69 c70 c71 c72 c73 c74 c75 c76 c77 c78 c79 c80 c81 c82 c83 c84 c85 c86 c87 c88 c89 c90 c91 c92 c93 c94 c95 c96 c97 c98 c99 c100 c101 c102 c103 c104 c105 c106 c136 c137 c138 c139 c140 c141 c142 c143 c144 c145 c146 c147 c148 c149 c150 c151 c152 c153 c154 c155 c156 c157 c158 c159 c160 c161 c162 c163 c164 c165 c166 c167 c168 c169 c170 c171 c172 c173 hexit hI)
  unfold FRWI
  exact ⟨u16, u107, u108, u109, u110, u111, u112, u113, u114, u115, u116, u117, u118, u119, u120, u121, u122, u123, u124, u125, u126, u127, u128, u129, u130, u131, u132, u133, u134, u135, rfl⟩
end Go.Proofs.Ytdmkgomcomcfhaa
