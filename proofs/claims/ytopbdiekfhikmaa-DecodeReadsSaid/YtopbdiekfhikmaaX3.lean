/- Layer 3, the document's side: float: the third loop. -/
import Derived.Test.YtopbdiekfhikmaaW7
import Derived.Deep.CutRange
namespace Go.Proofs.Ytopbdiekfhikmaa
open Go.RowKit
def flC (d k : Nat) : List RowS := if d = 0 then ([[⟨4261441663, 536870995, 64, ⟨#[100, 49, 50]⟩, 4, false, false⟩, ⟨4261441663, 2684362835, 69, ⟨#[100, 49, 50]⟩, 4, false, false⟩, ⟨4261441663, 671088723, 67, ⟨#[100, 49, 50]⟩, 4, false, false⟩], [⟨4261441663, 536875091, 65, ⟨#[100, 49, 50]⟩, 4, false, false⟩, ⟨4261441663, 2684358739, 70, ⟨#[100, 49, 50]⟩, 4, false, false⟩, ⟨4261441663, 671092819, 68, ⟨#[100, 49, 50]⟩, 4, false, false⟩], [⟨4261441663, 536879187, 66, ⟨#[100, 49, 50]⟩, 4, false, false⟩, ⟨4261441663, 2684354643, 71, ⟨#[100, 49, 50]⟩, 4, false, false⟩]][k]?).getD [] else ([[⟨4261441663, 570425427, 64, ⟨#[100, 49, 50]⟩, 8, false, false⟩, ⟨4261441663, 2717917267, 69, ⟨#[100, 49, 50]⟩, 8, false, false⟩, ⟨4261441663, 704643155, 67, ⟨#[100, 49, 50]⟩, 8, false, false⟩], [⟨4261441663, 570429523, 65, ⟨#[100, 49, 50]⟩, 8, false, false⟩, ⟨4261441663, 2717913171, 70, ⟨#[100, 49, 50]⟩, 8, false, false⟩, ⟨4261441663, 704647251, 68, ⟨#[100, 49, 50]⟩, 8, false, false⟩], [⟨4261441663, 570433619, 66, ⟨#[100, 49, 50]⟩, 8, false, false⟩, ⟨4261441663, 2717909075, 71, ⟨#[100, 49, 50]⟩, 8, false, false⟩]][k]?).getD []

def loopsOfX3 : Code → List Code
  | .loop c => [c]
  | .seq a b => loopsOfX3 a ++ loopsOfX3 b
  | .block _ c => loopsOfX3 c
  | .scope c => loopsOfX3 c
  | .cond _ a b => loopsOfX3 a ++ loopsOfX3 b
  | _ => []
noncomputable def bodyX3 : Code := ((Try.f43.body.map loopsOfX3).getD []).getD 2 .skip

set_option maxRecDepth 1000000 in
def FRX3 (c1 c2 c3 c5 c6 c8 c10 c11 c12 c13 c14 c15 c16 c17 c18 c19 c20 c21 c22 c23 c24 c25 c26 c27 c28 c29 c30 c31 c32 c33 c34 c35 c36 c37 c38 c39 c40 c41 c42 c43 c44 c45 c46 c47 c48 c49 c50 c51 c52 c53 c54 c55 c56 c57 c58 c59 c60 c61 c62 c63 c64 c65 c66 c67 c68 c69 c70 c71 c72 c73 c74 c75 c119 c120 c121 c122 c123 c124 c125 c126 c127 c128 c129 c130 c131 c132 c133 c134 c135 c136 c137 c138 c139 c140 c141 c142 c143 c144 c145 c146 c147 c148 c149 c150 c151 c152 c153 c154 c155 c156 c157 c158 c159 c160 c161 c162 c163 c164 c165 c166 c167 c168 c169 c170 c171 c172 c173 c174 c175 c176 c177 c178 c179 c180 c181 : Value) (A : Option Addr) (m cap : Nat) (ck : Int) (d : Nat) (sz fv : Int) (a : Act) : Prop := ∃ u76 : Value, ∃ u77 : Value, ∃ u78 : Value, ∃ u79 : Value, ∃ u80 : Value, ∃ u81 : Value, ∃ u82 : Value, ∃ u83 : Value, ∃ u84 : Value, ∃ u85 : Value, ∃ u86 : Value, ∃ u87 : Value, ∃ u88 : Value, ∃ u89 : Value, ∃ u90 : Value, ∃ u91 : Value, ∃ u92 : Value, ∃ u93 : Value, ∃ u94 : Value, ∃ u95 : Value, ∃ u96 : Value, ∃ u97 : Value, ∃ u98 : Value, ∃ u99 : Value, ∃ u100 : Value, ∃ u101 : Value, ∃ u102 : Value, ∃ u103 : Value, ∃ u104 : Value, ∃ u105 : Value, ∃ u106 : Value, ∃ u107 : Value, ∃ u108 : Value, ∃ u109 : Value, ∃ u110 : Value, ∃ u111 : Value, ∃ u112 : Value, ∃ u113 : Value, ∃ u114 : Value, ∃ u115 : Value, ∃ u116 : Value, ∃ u117 : Value, ∃ u118 : Value, a = ⟨#[.int .i64 sz, c1, c2, c3, .slice A m cap, c5, c6, .int .u32 fv, c8, .int .u32 ck, c10, c11, c12, c13, c14, c15, c16, c17, c18, c19, c20, c21, c22, c23, c24, c25, c26, c27, c28, c29, c30, c31, c32, c33, c34, c35, c36, c37, c38, c39, c40, c41, c42, c43, c44, c45, c46, c47, c48, c49, c50, c51, c52, c53, c54, c55, c56, c57, c58, c59, c60, c61, c62, c63, c64, c65, c66, c67, c68, c69, c70, c71, c72, c73, c74, c75, u76, u77, u78, u79, u80, u81, u82, u83, u84, u85, u86, u87, u88, u89, u90, u91, u92, u93, u94, u95, u96, u97, u98, u99, u100, u101, u102, u103, u104, u105, u106, u107, u108, u109, u110, u111, u112, u113, u114, u115, u116, u117, u118, c119, c120, c121, c122, c123, c124, c125, c126, c127, c128, c129, c130, c131, c132, c133, c134, c135, c136, c137, c138, c139, c140, c141, c142, c143, c144, c145, c146, c147, c148, c149, c150, c151, c152, c153, c154, c155, c156, c157, c158, c159, c160, c161, c162, c163, c164, c165, c166, c167, c168, c169, c170, c171, c172, c173, c174, c175, c176, c177, c178, c179, c180, c181], []⟩

def WIX3 (c1 c2 c3 c5 c6 c8 c10 c11 c12 c13 c14 c15 c16 c17 c18 c19 c20 c21 c22 c23 c24 c25 c26 c27 c28 c29 c30 c31 c32 c33 c34 c35 c36 c37 c38 c39 c40 c41 c42 c43 c44 c45 c46 c47 c48 c49 c50 c51 c52 c53 c54 c55 c56 c57 c58 c59 c60 c61 c62 c63 c64 c65 c66 c67 c68 c69 c70 c71 c72 c73 c74 c75 c119 c120 c121 c122 c123 c124 c125 c126 c127 c128 c129 c130 c131 c132 c133 c134 c135 c136 c137 c138 c139 c140 c141 c142 c143 c144 c145 c146 c147 c148 c149 c150 c151 c152 c153 c154 c155 c156 c157 c158 c159 c160 c161 c162 c163 c164 c165 c166 c167 c168 c169 c170 c171 c172 c173 c174 c175 c176 c177 c178 c179 c180 c181 : Value) (w0 : World) (L : List HP) (B : List RowS) (n0 : Nat) (d : Nat) (sz fv : Int) (a : Act) (wr : World) : Prop := ∃ (k : Nat) (ck : Int) (A : Option Addr) (m cap : Nat), (ck = (k : Int) ∧ k ≤ 3 ∧ m ≤ n0 + 3 * k ∧ Heap w0 wr (HP.slw (.slice A m cap) 7 m (rowsC (B ++ uptoL (flC d) (k))) :: L)) ∧ FRX3 c1 c2 c3 c5 c6 c8 c10 c11 c12 c13 c14 c15 c16 c17 c18 c19 c20 c21 c22 c23 c24 c25 c26 c27 c28 c29 c30 c31 c32 c33 c34 c35 c36 c37 c38 c39 c40 c41 c42 c43 c44 c45 c46 c47 c48 c49 c50 c51 c52 c53 c54 c55 c56 c57 c58 c59 c60 c61 c62 c63 c64 c65 c66 c67 c68 c69 c70 c71 c72 c73 c74 c75 c119 c120 c121 c122 c123 c124 c125 c126 c127 c128 c129 c130 c131 c132 c133 c134 c135 c136 c137 c138 c139 c140 c141 c142 c143 c144 c145 c146 c147 c148 c149 c150 c151 c152 c153 c154 c155 c156 c157 c158 c159 c160 c161 c162 c163 c164 c165 c166 c167 c168 c169 c170 c171 c172 c173 c174 c175 c176 c177 c178 c179 c180 c181 A m cap ck d sz fv a
def WXX3 (c1 c2 c3 c5 c6 c8 c10 c11 c12 c13 c14 c15 c16 c17 c18 c19 c20 c21 c22 c23 c24 c25 c26 c27 c28 c29 c30 c31 c32 c33 c34 c35 c36 c37 c38 c39 c40 c41 c42 c43 c44 c45 c46 c47 c48 c49 c50 c51 c52 c53 c54 c55 c56 c57 c58 c59 c60 c61 c62 c63 c64 c65 c66 c67 c68 c69 c70 c71 c72 c73 c74 c75 c119 c120 c121 c122 c123 c124 c125 c126 c127 c128 c129 c130 c131 c132 c133 c134 c135 c136 c137 c138 c139 c140 c141 c142 c143 c144 c145 c146 c147 c148 c149 c150 c151 c152 c153 c154 c155 c156 c157 c158 c159 c160 c161 c162 c163 c164 c165 c166 c167 c168 c169 c170 c171 c172 c173 c174 c175 c176 c177 c178 c179 c180 c181 : Value) (w0 : World) (L : List HP) (B : List RowS) (n0 : Nat) (d : Nat) (sz fv : Int) (a : Act) (wr : World) : Prop := ∃ (A : Option Addr) (m cap : Nat), (m ≤ n0 + 9 ∧ Heap w0 wr (HP.slw (.slice A m cap) 7 m (rowsC (B ++ uptoL (flC d) (3))) :: L)) ∧ FRX3 c1 c2 c3 c5 c6 c8 c10 c11 c12 c13 c14 c15 c16 c17 c18 c19 c20 c21 c22 c23 c24 c25 c26 c27 c28 c29 c30 c31 c32 c33 c34 c35 c36 c37 c38 c39 c40 c41 c42 c43 c44 c45 c46 c47 c48 c49 c50 c51 c52 c53 c54 c55 c56 c57 c58 c59 c60 c61 c62 c63 c64 c65 c66 c67 c68 c69 c70 c71 c72 c73 c74 c75 c119 c120 c121 c122 c123 c124 c125 c126 c127 c128 c129 c130 c131 c132 c133 c134 c135 c136 c137 c138 c139 c140 c141 c142 c143 c144 c145 c146 c147 c148 c149 c150 c151 c152 c153 c154 c155 c156 c157 c158 c159 c160 c161 c162 c163 c164 c165 c166 c167 c168 c169 c170 c171 c172 c173 c174 c175 c176 c177 c178 c179 c180 c181 A m cap 3 d sz fv a
def WmuX3 (K : Nat) (a : Act) (_ : World) : Nat := K - (intOf (a.tmps.getD 9 undef)).toNat
variable {w0 : World} {L : List HP} {B : List RowS} {n0 : Nat} {d : Nat} {sz fv : Int}
set_option maxRecDepth 1000000 in
set_option maxHeartbeats 8000000 in
theorem oneX3 (hn : n0 ≤ 200) (hs : (d = 0 ∧ sz = 4 ∧ fv = 83) ∨ (d = 1 ∧ sz = 8 ∧ fv = 33554515)) {A : Option Addr} {m cap k : Nat} {ck : Int} (hck : ck = (k : Int)) {wr : World} (hm : m ≤ n0 + 3 * k) (hJ : Heap w0 wr (HP.slw (.slice A m cap) 7 m (rowsC (B ++ uptoL (flC d) (k))) :: L)) (hlt : k < 3) (Q0 : Exit → Act → World → Prop) (c1 c2 c3 c5 c6 c8 c10 c11 c12 c13 c14 c15 c16 c17 c18 c19 c20 c21 c22 c23 c24 c25 c26 c27 c28 c29 c30 c31 c32 c33 c34 c35 c36 c37 c38 c39 c40 c41 c42 c43 c44 c45 c46 c47 c48 c49 c50 c51 c52 c53 c54 c55 c56 c57 c58 c59 c60 c61 c62 c63 c64 c65 c66 c67 c68 c69 c70 c71 c72 c73 c74 c75 c119 c120 c121 c122 c123 c124 c125 c126 c127 c128 c129 c130 c131 c132 c133 c134 c135 c136 c137 c138 c139 c140 c141 c142 c143 c144 c145 c146 c147 c148 c149 c150 c151 c152 c153 c154 c155 c156 c157 c158 c159 c160 c161 c162 c163 c164 c165 c166 c167 c168 c169 c170 c171 c172 c173 c174 c175 c176 c177 c178 c179 c180 c181 u76 u77 u78 u79 u80 u81 u82 u83 u84 u85 u86 u87 u88 u89 u90 u91 u92 u93 u94 u95 u96 u97 u98 u99 u100 u101 u102 u103 u104 u105 u106 u107 u108 u109 u110 u111 u112 u113 u114 u115 u116 u117 u118 : Value) :
    Code.wp Try.prog bodyX3 (Exit.then (fun a' w'' => WIX3 c1 c2 c3 c5 c6 c8 c10 c11 c12 c13 c14 c15 c16 c17 c18 c19 c20 c21 c22 c23 c24 c25 c26 c27 c28 c29 c30 c31 c32 c33 c34 c35 c36 c37 c38 c39 c40 c41 c42 c43 c44 c45 c46 c47 c48 c49 c50 c51 c52 c53 c54 c55 c56 c57 c58 c59 c60 c61 c62 c63 c64 c65 c66 c67 c68 c69 c70 c71 c72 c73 c74 c75 c119 c120 c121 c122 c123 c124 c125 c126 c127 c128 c129 c130 c131 c132 c133 c134 c135 c136 c137 c138 c139 c140 c141 c142 c143 c144 c145 c146 c147 c148 c149 c150 c151 c152 c153 c154 c155 c156 c157 c158 c159 c160 c161 c162 c163 c164 c165 c166 c167 c168 c169 c170 c171 c172 c173 c174 c175 c176 c177 c178 c179 c180 c181 w0 L B n0 d sz fv a' w'' ∧ WmuX3 3 a' w'' < 3 - ck.toNat) Q0) ⟨#[.int .i64 sz, c1, c2, c3, .slice A m cap, c5, c6, .int .u32 fv, c8, .int .u32 ck, c10, c11, c12, c13, c14, c15, c16, c17, c18, c19, c20, c21, c22, c23, c24, c25, c26, c27, c28, c29, c30, c31, c32, c33, c34, c35, c36, c37, c38, c39, c40, c41, c42, c43, c44, c45, c46, c47, c48, c49, c50, c51, c52, c53, c54, c55, c56, c57, c58, c59, c60, c61, c62, c63, c64, c65, c66, c67, c68, c69, c70, c71, c72, c73, c74, c75, u76, u77, u78, u79, u80, u81, u82, u83, u84, u85, u86, u87, u88, u89, u90, u91, u92, u93, u94, u95, u96, u97, u98, u99, u100, u101, u102, u103, u104, u105, u106, u107, u108, u109, u110, u111, u112, u113, u114, u115, u116, u117, u118, c119, c120, c121, c122, c123, c124, c125, c126, c127, c128, c129, c130, c131, c132, c133, c134, c135, c136, c137, c138, c139, c140, c141, c142, c143, c144, c145, c146, c147, c148, c149, c150, c151, c152, c153, c154, c155, c156, c157, c158, c159, c160, c161, c162, c163, c164, c165, c166, c167, c168, c169, c170, c171, c172, c173, c174, c175, c176, c177, c178, c179, c180, c181], []⟩ wr := by
  conv => arg 2; whnf
  have HJ := hide hJ
  clear hJ
  obtain ⟨i1, hi1, hz0, hz1, hz2⟩ := info_parts info49
  have hc : (k = 0 ∧ ck = 0) ∨ (k = 1 ∧ ck = 1) ∨ (k = 2 ∧ ck = 2) := by omega
  clear hlt hck
  rcases hs with ⟨rfl, rfl, rfl⟩ | ⟨rfl, rfl, rfl⟩
  · rcases hc with ⟨rfl, rfl⟩ | ⟨rfl, rfl⟩ | ⟨rfl, rfl⟩
    · go_wp2_with (at_builtin; refine wpList_append_sl (n := m) (m := 2) rfl _ _ 46 rfl 49 i1 _ 7 48 Try.underlying46 hi1 hz0 hz1 hz2 rfl rfl rfl ((unhide HJ).alloc _).slw (sl_blk (n := 2) (sz := 7) (xs := rowsC ([⟨4261441663, 536870995, 64, ⟨#[100, 49, 50]⟩, 4, false, false⟩, ⟨4261441663, 2684362835, 69, ⟨#[100, 49, 50]⟩, 4, false, false⟩])) (heap_new' wr _) rfl) (rowsC_cells _) (by omega) (by omega) ?_; intro v' w7 hsl hgr hblk hsp; obtain ⟨A', cap', rfl, _⟩ := hsl.parts; have hA := hide (((unhide HJ).alloc _).appendw hsl hgr hblk); clear hsl hgr hblk hsp; refine unhide ?_)
      refine hide ?_
      go_wp2_with (at_builtin; refine wpList_append_sl (n := m + 2) (m := 1) rfl _ _ 46 rfl 49 i1 _ 7 48 Try.underlying46 hi1 hz0 hz1 hz2 rfl rfl rfl ((unhide hA).alloc _).slw (sl_blk (n := 1) (sz := 7) (xs := rowsC ([⟨4261441663, 671088723, 67, ⟨#[100, 49, 50]⟩, 4, false, false⟩])) (heap_new' w7 _) rfl) (rowsC_cells _) (by omega) (by omega) ?_; intro v' w8 hsl hgr hblk hsp; obtain ⟨A', cap', rfl, _⟩ := hsl.parts; have hA := hide (((unhide hA).alloc _).appendw hsl hgr hblk); clear hsl hgr hblk hsp; refine unhide ?_)
      refine hide ?_
      go_wp2
      refine ⟨⟨0 + 1, 1, A', m + 3, cap', ⟨by omega, by omega, by omega, by rw [uptoL_succ, ← List.append_assoc, rowsC_app, show flC 0 0 = [⟨4261441663, 536870995, 64, ⟨#[100, 49, 50]⟩, 4, false, false⟩, ⟨4261441663, 2684362835, 69, ⟨#[100, 49, 50]⟩, 4, false, false⟩] ++ [⟨4261441663, 671088723, 67, ⟨#[100, 49, 50]⟩, 4, false, false⟩] from rfl, rowsC_app [⟨4261441663, 536870995, 64, ⟨#[100, 49, 50]⟩, 4, false, false⟩, ⟨4261441663, 2684362835, 69, ⟨#[100, 49, 50]⟩, 4, false, false⟩], ← List.append_assoc]; exact unhide hA⟩, ?_⟩, by simp [WmuX3, intOf]⟩
      unfold FRX3
      refine ⟨_, _, _, _, _, _, _, _, _, _, _, _, _, _, _, _, _, _, _, _, _, _, _, _, _, _, _, _, _, _, _, _, _, _, _, _, _, _, _, _, _, _, _, rfl⟩
    · go_wp2_with (at_builtin; refine wpList_append_sl (n := m) (m := 2) rfl _ _ 46 rfl 49 i1 _ 7 48 Try.underlying46 hi1 hz0 hz1 hz2 rfl rfl rfl ((unhide HJ).alloc _).slw (sl_blk (n := 2) (sz := 7) (xs := rowsC ([⟨4261441663, 536875091, 65, ⟨#[100, 49, 50]⟩, 4, false, false⟩, ⟨4261441663, 2684358739, 70, ⟨#[100, 49, 50]⟩, 4, false, false⟩])) (heap_new' wr _) rfl) (rowsC_cells _) (by omega) (by omega) ?_; intro v' w7 hsl hgr hblk hsp; obtain ⟨A', cap', rfl, _⟩ := hsl.parts; have hA := hide (((unhide HJ).alloc _).appendw hsl hgr hblk); clear hsl hgr hblk hsp; refine unhide ?_)
      refine hide ?_
      go_wp2_with (at_builtin; refine wpList_append_sl (n := m + 2) (m := 1) rfl _ _ 46 rfl 49 i1 _ 7 48 Try.underlying46 hi1 hz0 hz1 hz2 rfl rfl rfl ((unhide hA).alloc _).slw (sl_blk (n := 1) (sz := 7) (xs := rowsC ([⟨4261441663, 671092819, 68, ⟨#[100, 49, 50]⟩, 4, false, false⟩])) (heap_new' w7 _) rfl) (rowsC_cells _) (by omega) (by omega) ?_; intro v' w8 hsl hgr hblk hsp; obtain ⟨A', cap', rfl, _⟩ := hsl.parts; have hA := hide (((unhide hA).alloc _).appendw hsl hgr hblk); clear hsl hgr hblk hsp; refine unhide ?_)
      refine hide ?_
      go_wp2
      refine ⟨⟨1 + 1, 2, A', m + 3, cap', ⟨by omega, by omega, by omega, by rw [uptoL_succ, ← List.append_assoc, rowsC_app, show flC 0 1 = [⟨4261441663, 536875091, 65, ⟨#[100, 49, 50]⟩, 4, false, false⟩, ⟨4261441663, 2684358739, 70, ⟨#[100, 49, 50]⟩, 4, false, false⟩] ++ [⟨4261441663, 671092819, 68, ⟨#[100, 49, 50]⟩, 4, false, false⟩] from rfl, rowsC_app [⟨4261441663, 536875091, 65, ⟨#[100, 49, 50]⟩, 4, false, false⟩, ⟨4261441663, 2684358739, 70, ⟨#[100, 49, 50]⟩, 4, false, false⟩], ← List.append_assoc]; exact unhide hA⟩, ?_⟩, by simp [WmuX3, intOf]⟩
      unfold FRX3
      refine ⟨_, _, _, _, _, _, _, _, _, _, _, _, _, _, _, _, _, _, _, _, _, _, _, _, _, _, _, _, _, _, _, _, _, _, _, _, _, _, _, _, _, _, _, rfl⟩
    · go_wp2_with (at_builtin; refine wpList_append_sl (n := m) (m := 2) rfl _ _ 46 rfl 49 i1 _ 7 48 Try.underlying46 hi1 hz0 hz1 hz2 rfl rfl rfl ((unhide HJ).alloc _).slw (sl_blk (n := 2) (sz := 7) (xs := rowsC (flC 0 2)) (heap_new' wr _) rfl) (rowsC_cells _) (by omega) (by omega) ?_; intro v' w7 hsl hgr hblk hsp; obtain ⟨A', cap', rfl, _⟩ := hsl.parts; have hA := hide (((unhide HJ).alloc _).appendw hsl hgr hblk); clear hsl hgr hblk hsp; refine unhide ?_)
      refine hide ?_
      go_wp2
      refine ⟨⟨2 + 1, 3, A', m + 2, cap', ⟨by omega, by omega, by omega, by rw [uptoL_succ, ← List.append_assoc, rowsC_app]; exact unhide hA⟩, ?_⟩, by simp [WmuX3, intOf]⟩
      unfold FRX3
      refine ⟨_, _, _, _, _, _, _, _, _, _, _, _, _, _, _, _, _, _, _, _, _, _, _, _, _, _, _, _, _, _, _, _, _, _, _, _, _, _, _, _, _, _, _, rfl⟩
  · rcases hc with ⟨rfl, rfl⟩ | ⟨rfl, rfl⟩ | ⟨rfl, rfl⟩
    · go_wp2_with (at_builtin; refine wpList_append_sl (n := m) (m := 2) rfl _ _ 46 rfl 49 i1 _ 7 48 Try.underlying46 hi1 hz0 hz1 hz2 rfl rfl rfl ((unhide HJ).alloc _).slw (sl_blk (n := 2) (sz := 7) (xs := rowsC ([⟨4261441663, 570425427, 64, ⟨#[100, 49, 50]⟩, 8, false, false⟩, ⟨4261441663, 2717917267, 69, ⟨#[100, 49, 50]⟩, 8, false, false⟩])) (heap_new' wr _) rfl) (rowsC_cells _) (by omega) (by omega) ?_; intro v' w7 hsl hgr hblk hsp; obtain ⟨A', cap', rfl, _⟩ := hsl.parts; have hA := hide (((unhide HJ).alloc _).appendw hsl hgr hblk); clear hsl hgr hblk hsp; refine unhide ?_)
      refine hide ?_
      go_wp2_with (at_builtin; refine wpList_append_sl (n := m + 2) (m := 1) rfl _ _ 46 rfl 49 i1 _ 7 48 Try.underlying46 hi1 hz0 hz1 hz2 rfl rfl rfl ((unhide hA).alloc _).slw (sl_blk (n := 1) (sz := 7) (xs := rowsC ([⟨4261441663, 704643155, 67, ⟨#[100, 49, 50]⟩, 8, false, false⟩])) (heap_new' w7 _) rfl) (rowsC_cells _) (by omega) (by omega) ?_; intro v' w8 hsl hgr hblk hsp; obtain ⟨A', cap', rfl, _⟩ := hsl.parts; have hA := hide (((unhide hA).alloc _).appendw hsl hgr hblk); clear hsl hgr hblk hsp; refine unhide ?_)
      refine hide ?_
      go_wp2
      refine ⟨⟨0 + 1, 1, A', m + 3, cap', ⟨by omega, by omega, by omega, by rw [uptoL_succ, ← List.append_assoc, rowsC_app, show flC 1 0 = [⟨4261441663, 570425427, 64, ⟨#[100, 49, 50]⟩, 8, false, false⟩, ⟨4261441663, 2717917267, 69, ⟨#[100, 49, 50]⟩, 8, false, false⟩] ++ [⟨4261441663, 704643155, 67, ⟨#[100, 49, 50]⟩, 8, false, false⟩] from rfl, rowsC_app [⟨4261441663, 570425427, 64, ⟨#[100, 49, 50]⟩, 8, false, false⟩, ⟨4261441663, 2717917267, 69, ⟨#[100, 49, 50]⟩, 8, false, false⟩], ← List.append_assoc]; exact unhide hA⟩, ?_⟩, by simp [WmuX3, intOf]⟩
      unfold FRX3
      refine ⟨_, _, _, _, _, _, _, _, _, _, _, _, _, _, _, _, _, _, _, _, _, _, _, _, _, _, _, _, _, _, _, _, _, _, _, _, _, _, _, _, _, _, _, rfl⟩
    · go_wp2_with (at_builtin; refine wpList_append_sl (n := m) (m := 2) rfl _ _ 46 rfl 49 i1 _ 7 48 Try.underlying46 hi1 hz0 hz1 hz2 rfl rfl rfl ((unhide HJ).alloc _).slw (sl_blk (n := 2) (sz := 7) (xs := rowsC ([⟨4261441663, 570429523, 65, ⟨#[100, 49, 50]⟩, 8, false, false⟩, ⟨4261441663, 2717913171, 70, ⟨#[100, 49, 50]⟩, 8, false, false⟩])) (heap_new' wr _) rfl) (rowsC_cells _) (by omega) (by omega) ?_; intro v' w7 hsl hgr hblk hsp; obtain ⟨A', cap', rfl, _⟩ := hsl.parts; have hA := hide (((unhide HJ).alloc _).appendw hsl hgr hblk); clear hsl hgr hblk hsp; refine unhide ?_)
      refine hide ?_
      go_wp2_with (at_builtin; refine wpList_append_sl (n := m + 2) (m := 1) rfl _ _ 46 rfl 49 i1 _ 7 48 Try.underlying46 hi1 hz0 hz1 hz2 rfl rfl rfl ((unhide hA).alloc _).slw (sl_blk (n := 1) (sz := 7) (xs := rowsC ([⟨4261441663, 704647251, 68, ⟨#[100, 49, 50]⟩, 8, false, false⟩])) (heap_new' w7 _) rfl) (rowsC_cells _) (by omega) (by omega) ?_; intro v' w8 hsl hgr hblk hsp; obtain ⟨A', cap', rfl, _⟩ := hsl.parts; have hA := hide (((unhide hA).alloc _).appendw hsl hgr hblk); clear hsl hgr hblk hsp; refine unhide ?_)
      refine hide ?_
      go_wp2
      refine ⟨⟨1 + 1, 2, A', m + 3, cap', ⟨by omega, by omega, by omega, by rw [uptoL_succ, ← List.append_assoc, rowsC_app, show flC 1 1 = [⟨4261441663, 570429523, 65, ⟨#[100, 49, 50]⟩, 8, false, false⟩, ⟨4261441663, 2717913171, 70, ⟨#[100, 49, 50]⟩, 8, false, false⟩] ++ [⟨4261441663, 704647251, 68, ⟨#[100, 49, 50]⟩, 8, false, false⟩] from rfl, rowsC_app [⟨4261441663, 570429523, 65, ⟨#[100, 49, 50]⟩, 8, false, false⟩, ⟨4261441663, 2717913171, 70, ⟨#[100, 49, 50]⟩, 8, false, false⟩], ← List.append_assoc]; exact unhide hA⟩, ?_⟩, by simp [WmuX3, intOf]⟩
      unfold FRX3
      refine ⟨_, _, _, _, _, _, _, _, _, _, _, _, _, _, _, _, _, _, _, _, _, _, _, _, _, _, _, _, _, _, _, _, _, _, _, _, _, _, _, _, _, _, _, rfl⟩
    · go_wp2_with (at_builtin; refine wpList_append_sl (n := m) (m := 2) rfl _ _ 46 rfl 49 i1 _ 7 48 Try.underlying46 hi1 hz0 hz1 hz2 rfl rfl rfl ((unhide HJ).alloc _).slw (sl_blk (n := 2) (sz := 7) (xs := rowsC (flC 1 2)) (heap_new' wr _) rfl) (rowsC_cells _) (by omega) (by omega) ?_; intro v' w7 hsl hgr hblk hsp; obtain ⟨A', cap', rfl, _⟩ := hsl.parts; have hA := hide (((unhide HJ).alloc _).appendw hsl hgr hblk); clear hsl hgr hblk hsp; refine unhide ?_)
      refine hide ?_
      go_wp2
      refine ⟨⟨2 + 1, 3, A', m + 2, cap', ⟨by omega, by omega, by omega, by rw [uptoL_succ, ← List.append_assoc, rowsC_app]; exact unhide hA⟩, ?_⟩, by simp [WmuX3, intOf]⟩
      unfold FRX3
      refine ⟨_, _, _, _, _, _, _, _, _, _, _, _, _, _, _, _, _, _, _, _, _, _, _, _, _, _, _, _, _, _, _, _, _, _, _, _, _, _, _, _, _, _, _, rfl⟩
set_option maxRecDepth 1000000 in
set_option maxHeartbeats 8000000 in
theorem roundX3 (hn : n0 ≤ 200) (hs : (d = 0 ∧ sz = 4 ∧ fv = 83) ∨ (d = 1 ∧ sz = 8 ∧ fv = 33554515)) (Q0 : Exit → Act → World → Prop) (c1 c2 c3 c5 c6 c8 c10 c11 c12 c13 c14 c15 c16 c17 c18 c19 c20 c21 c22 c23 c24 c25 c26 c27 c28 c29 c30 c31 c32 c33 c34 c35 c36 c37 c38 c39 c40 c41 c42 c43 c44 c45 c46 c47 c48 c49 c50 c51 c52 c53 c54 c55 c56 c57 c58 c59 c60 c61 c62 c63 c64 c65 c66 c67 c68 c69 c70 c71 c72 c73 c74 c75 c119 c120 c121 c122 c123 c124 c125 c126 c127 c128 c129 c130 c131 c132 c133 c134 c135 c136 c137 c138 c139 c140 c141 c142 c143 c144 c145 c146 c147 c148 c149 c150 c151 c152 c153 c154 c155 c156 c157 c158 c159 c160 c161 c162 c163 c164 c165 c166 c167 c168 c169 c170 c171 c172 c173 c174 c175 c176 c177 c178 c179 c180 c181 : Value) (hexit : ∀ a' w'', WXX3 c1 c2 c3 c5 c6 c8 c10 c11 c12 c13 c14 c15 c16 c17 c18 c19 c20 c21 c22 c23 c24 c25 c26 c27 c28 c29 c30 c31 c32 c33 c34 c35 c36 c37 c38 c39 c40 c41 c42 c43 c44 c45 c46 c47 c48 c49 c50 c51 c52 c53 c54 c55 c56 c57 c58 c59 c60 c61 c62 c63 c64 c65 c66 c67 c68 c69 c70 c71 c72 c73 c74 c75 c119 c120 c121 c122 c123 c124 c125 c126 c127 c128 c129 c130 c131 c132 c133 c134 c135 c136 c137 c138 c139 c140 c141 c142 c143 c144 c145 c146 c147 c148 c149 c150 c151 c152 c153 c154 c155 c156 c157 c158 c159 c160 c161 c162 c163 c164 c165 c166 c167 c168 c169 c170 c171 c172 c173 c174 c175 c176 c177 c178 c179 c180 c181 w0 L B n0 d sz fv a' w'' → Q0 (.exit 4) a' w'') {a : Act} {wr : World} (hI : WIX3 c1 c2 c3 c5 c6 c8 c10 c11 c12 c13 c14 c15 c16 c17 c18 c19 c20 c21 c22 c23 c24 c25 c26 c27 c28 c29 c30 c31 c32 c33 c34 c35 c36 c37 c38 c39 c40 c41 c42 c43 c44 c45 c46 c47 c48 c49 c50 c51 c52 c53 c54 c55 c56 c57 c58 c59 c60 c61 c62 c63 c64 c65 c66 c67 c68 c69 c70 c71 c72 c73 c74 c75 c119 c120 c121 c122 c123 c124 c125 c126 c127 c128 c129 c130 c131 c132 c133 c134 c135 c136 c137 c138 c139 c140 c141 c142 c143 c144 c145 c146 c147 c148 c149 c150 c151 c152 c153 c154 c155 c156 c157 c158 c159 c160 c161 c162 c163 c164 c165 c166 c167 c168 c169 c170 c171 c172 c173 c174 c175 c176 c177 c178 c179 c180 c181 w0 L B n0 d sz fv a wr) :
    Code.wp Try.prog bodyX3 (Exit.then (fun a' w'' => WIX3 c1 c2 c3 c5 c6 c8 c10 c11 c12 c13 c14 c15 c16 c17 c18 c19 c20 c21 c22 c23 c24 c25 c26 c27 c28 c29 c30 c31 c32 c33 c34 c35 c36 c37 c38 c39 c40 c41 c42 c43 c44 c45 c46 c47 c48 c49 c50 c51 c52 c53 c54 c55 c56 c57 c58 c59 c60 c61 c62 c63 c64 c65 c66 c67 c68 c69 c70 c71 c72 c73 c74 c75 c119 c120 c121 c122 c123 c124 c125 c126 c127 c128 c129 c130 c131 c132 c133 c134 c135 c136 c137 c138 c139 c140 c141 c142 c143 c144 c145 c146 c147 c148 c149 c150 c151 c152 c153 c154 c155 c156 c157 c158 c159 c160 c161 c162 c163 c164 c165 c166 c167 c168 c169 c170 c171 c172 c173 c174 c175 c176 c177 c178 c179 c180 c181 w0 L B n0 d sz fv a' w'' ∧ WmuX3 3 a' w'' < WmuX3 3 a wr) Q0) a wr := by
  obtain ⟨k, ck, A, m, cap, ⟨hck, hk, hm, hJ⟩, hF⟩ := hI
  unfold FRX3 at hF
  obtain ⟨u76, hF⟩ := hF
  obtain ⟨u77, hF⟩ := hF
  obtain ⟨u78, hF⟩ := hF
  obtain ⟨u79, hF⟩ := hF
  obtain ⟨u80, hF⟩ := hF
  obtain ⟨u81, hF⟩ := hF
  obtain ⟨u82, hF⟩ := hF
  obtain ⟨u83, hF⟩ := hF
  obtain ⟨u84, hF⟩ := hF
  obtain ⟨u85, hF⟩ := hF
  obtain ⟨u86, hF⟩ := hF
  obtain ⟨u87, hF⟩ := hF
  obtain ⟨u88, hF⟩ := hF
  obtain ⟨u89, hF⟩ := hF
  obtain ⟨u90, hF⟩ := hF
  obtain ⟨u91, hF⟩ := hF
  obtain ⟨u92, hF⟩ := hF
  obtain ⟨u93, hF⟩ := hF
  obtain ⟨u94, hF⟩ := hF
  obtain ⟨u95, hF⟩ := hF
  obtain ⟨u96, hF⟩ := hF
  obtain ⟨u97, hF⟩ := hF
  obtain ⟨u98, hF⟩ := hF
  obtain ⟨u99, hF⟩ := hF
  obtain ⟨u100, hF⟩ := hF
  obtain ⟨u101, hF⟩ := hF
  obtain ⟨u102, hF⟩ := hF
  obtain ⟨u103, hF⟩ := hF
  obtain ⟨u104, hF⟩ := hF
  obtain ⟨u105, hF⟩ := hF
  obtain ⟨u106, hF⟩ := hF
  obtain ⟨u107, hF⟩ := hF
  obtain ⟨u108, hF⟩ := hF
  obtain ⟨u109, hF⟩ := hF
  obtain ⟨u110, hF⟩ := hF
  obtain ⟨u111, hF⟩ := hF
  obtain ⟨u112, hF⟩ := hF
  obtain ⟨u113, hF⟩ := hF
  obtain ⟨u114, hF⟩ := hF
  obtain ⟨u115, hF⟩ := hF
  obtain ⟨u116, hF⟩ := hF
  obtain ⟨u117, hF⟩ := hF
  obtain ⟨u118, hF⟩ := hF
  subst hF
  by_cases hlt : k < 3
  · exact oneX3 hn hs hck hm hJ hlt Q0 _ _ _ _ _ _ _ _ _ _ _ _ _ _ _ _ _ _ _ _ _ _ _ _ _ _ _ _ _ _ _ _ _ _ _ _ _ _ _ _ _ _ _ _ _ _ _ _ _ _ _ _ _ _ _ _ _ _ _ _ _ _ _ _ _ _ _ _ _ _ _ _ _ _ _ _ _ _ _ _ _ _ _ _ _ _ _ _ _ _ _ _ _ _ _ _ _ _ _ _ _ _ _ _ _ _ _ _ _ _ _ _ _ _ _ _ _ _ _ _ _ _ _ _ _ _ _ _ _ _ _ _ _ _ _ _ _ _ _ _ _ _ _ _ _ _ _ _ _ _ _ _ _ _ _ _ _ _ _ _ _ _ _ _ _ _ _ _ _ _ _ _ _ _ _ _ _ _
  · obtain rfl : k = 3 := by omega
    obtain rfl : ck = 3 := by omega
    have HJ := hide hJ
    clear hJ hck
    conv => arg 2; whnf
    go_wp2
    refine ⟨A, m, cap, ⟨by omega, unhide HJ⟩, ?_⟩
    unfold FRX3
    refine ⟨_, _, _, _, _, _, _, _, _, _, _, _, _, _, _, _, _, _, _, _, _, _, _, _, _, _, _, _, _, _, _, _, _, _, _, _, _, _, _, _, _, _, _, rfl⟩
set_option maxRecDepth 1000000 in
theorem loopX3 (hn : n0 ≤ 200) (hs : (d = 0 ∧ sz = 4 ∧ fv = 83) ∨ (d = 1 ∧ sz = 8 ∧ fv = 33554515)) (Q0 : Exit → Act → World → Prop) (c1 c2 c3 c5 c6 c8 c10 c11 c12 c13 c14 c15 c16 c17 c18 c19 c20 c21 c22 c23 c24 c25 c26 c27 c28 c29 c30 c31 c32 c33 c34 c35 c36 c37 c38 c39 c40 c41 c42 c43 c44 c45 c46 c47 c48 c49 c50 c51 c52 c53 c54 c55 c56 c57 c58 c59 c60 c61 c62 c63 c64 c65 c66 c67 c68 c69 c70 c71 c72 c73 c74 c75 c119 c120 c121 c122 c123 c124 c125 c126 c127 c128 c129 c130 c131 c132 c133 c134 c135 c136 c137 c138 c139 c140 c141 c142 c143 c144 c145 c146 c147 c148 c149 c150 c151 c152 c153 c154 c155 c156 c157 c158 c159 c160 c161 c162 c163 c164 c165 c166 c167 c168 c169 c170 c171 c172 c173 c174 c175 c176 c177 c178 c179 c180 c181 : Value) {A : Option Addr} {m cap : Nat} {wr : World} (hm : m ≤ n0) (hJ : Heap w0 wr (HP.slw (.slice A m cap) 7 m (rowsC B) :: L)) (u76 u77 u78 u79 u80 u81 u82 u83 u84 u85 u86 u87 u88 u89 u90 u91 u92 u93 u94 u95 u96 u97 u98 u99 u100 u101 u102 u103 u104 u105 u106 u107 u108 u109 u110 u111 u112 u113 u114 u115 u116 u117 u118 : Value) (hexit : ∀ a' w'', WXX3 c1 c2 c3 c5 c6 c8 c10 c11 c12 c13 c14 c15 c16 c17 c18 c19 c20 c21 c22 c23 c24 c25 c26 c27 c28 c29 c30 c31 c32 c33 c34 c35 c36 c37 c38 c39 c40 c41 c42 c43 c44 c45 c46 c47 c48 c49 c50 c51 c52 c53 c54 c55 c56 c57 c58 c59 c60 c61 c62 c63 c64 c65 c66 c67 c68 c69 c70 c71 c72 c73 c74 c75 c119 c120 c121 c122 c123 c124 c125 c126 c127 c128 c129 c130 c131 c132 c133 c134 c135 c136 c137 c138 c139 c140 c141 c142 c143 c144 c145 c146 c147 c148 c149 c150 c151 c152 c153 c154 c155 c156 c157 c158 c159 c160 c161 c162 c163 c164 c165 c166 c167 c168 c169 c170 c171 c172 c173 c174 c175 c176 c177 c178 c179 c180 c181 w0 L B n0 d sz fv a' w'' → Q0 (.exit 4) a' w'') :
    Code.wp Try.prog (Code.loop bodyX3) Q0 ⟨#[.int .i64 sz, c1, c2, c3, .slice A m cap, c5, c6, .int .u32 fv, c8, .int .u32 0, c10, c11, c12, c13, c14, c15, c16, c17, c18, c19, c20, c21, c22, c23, c24, c25, c26, c27, c28, c29, c30, c31, c32, c33, c34, c35, c36, c37, c38, c39, c40, c41, c42, c43, c44, c45, c46, c47, c48, c49, c50, c51, c52, c53, c54, c55, c56, c57, c58, c59, c60, c61, c62, c63, c64, c65, c66, c67, c68, c69, c70, c71, c72, c73, c74, c75, u76, u77, u78, u79, u80, u81, u82, u83, u84, u85, u86, u87, u88, u89, u90, u91, u92, u93, u94, u95, u96, u97, u98, u99, u100, u101, u102, u103, u104, u105, u106, u107, u108, u109, u110, u111, u112, u113, u114, u115, u116, u117, u118, c119, c120, c121, c122, c123, c124, c125, c126, c127, c128, c129, c130, c131, c132, c133, c134, c135, c136, c137, c138, c139, c140, c141, c142, c143, c144, c145, c146, c147, c148, c149, c150, c151, c152, c153, c154, c155, c156, c157, c158, c159, c160, c161, c162, c163, c164, c165, c166, c167, c168, c169, c170, c171, c172, c173, c174, c175, c176, c177, c178, c179, c180, c181], []⟩ wr := by
  refine wp_loop (WIX3 c1 c2 c3 c5 c6 c8 c10 c11 c12 c13 c14 c15 c16 c17 c18 c19 c20 c21 c22 c23 c24 c25 c26 c27 c28 c29 c30 c31 c32 c33 c34 c35 c36 c37 c38 c39 c40 c41 c42 c43 c44 c45 c46 c47 c48 c49 c50 c51 c52 c53 c54 c55 c56 c57 c58 c59 c60 c61 c62 c63 c64 c65 c66 c67 c68 c69 c70 c71 c72 c73 c74 c75 c119 c120 c121 c122 c123 c124 c125 c126 c127 c128 c129 c130 c131 c132 c133 c134 c135 c136 c137 c138 c139 c140 c141 c142 c143 c144 c145 c146 c147 c148 c149 c150 c151 c152 c153 c154 c155 c156 c157 c158 c159 c160 c161 c162 c163 c164 c165 c166 c167 c168 c169 c170 c171 c172 c173 c174 c175 c176 c177 c178 c179 c180 c181 w0 L B n0 d sz fv) (WmuX3 3) ⟨0, 0, A, m, cap, ⟨by omega, by omega, by omega, by rw [show uptoL (flC d) 0 = [] from rfl, List.append_nil]; exact hJ⟩, ?_⟩ (fun a w'' hI => roundX3 hn hs Q0 c1 c2 c3 c5 c6 c8 c10 c11 c12 c13 c14 c15 c16 c17 c18 c19 c20 c21 c22 c23 c24 c25 c26 c27 c28 c29 c30 c31 c32 c33 c34 c35 c36 c37 c38 c39 c40 c41 c42 c43 c44 c45 c46 c47 c48 c49 c50 c51 c52 c53 c54 c55 c56 c57 c58 c59 c60 c61 c62 c63 c64 c65 c66 c67 c68 c69 c70 c71 c72 c73 c74 c75 c119 c120 c121 c122 c123 c124 c125 c126 c127 c128 c129 c130 c131 c132 c133 c134 c135 c136 c137 c138 c139 c140 c141 c142 c143 c144 c145 c146 c147 c148 c149 c150 c151 c152 c153 c154 c155 c156 c157 c158 c159 c160 c161 c162 c163 c164 c165 c166 c167 c168 c169 c170 c171 c172 c173 c174 c175 c176 c177 c178 c179 c180 c181 hexit hI)
  unfold FRX3
  exact ⟨u76, u77, u78, u79, u80, u81, u82, u83, u84, u85, u86, u87, u88, u89, u90, u91, u92, u93, u94, u95, u96, u97, u98, u99, u100, u101, u102, u103, u104, u105, u106, u107, u108, u109, u110, u111, u112, u113, u114, u115, u116, u117, u118, rfl⟩
end Go.Proofs.Ytopbdiekfhikmaa
