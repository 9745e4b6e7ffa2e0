/- Layer 15: what is found was put: the loop behind a fence. -/
import Derived.Test.YtlkkmpfhhfaioaaT23
import Derived.Deep.CutRange
namespace Go.Proofs.Ytlkkmpfhhfaioaa
open Go.RowKit
def loopsOfKB : Code → List Code
  | .loop c => [c]
  | .seq a b => loopsOfKB a ++ loopsOfKB b
  | .block _ c => loopsOfKB c
  | .scope c => loopsOfKB c
  | .cond _ a b => loopsOfKB a ++ loopsOfKB b
  | _ => []
noncomputable def bodyB : Code := (loopsOfKB (((Try.f4.body.map loopsOfKB).getD []).getD 0 .skip)).getD 1 .skip

set_option maxRecDepth 1000000 in
def FRB (c0 c1 c2 c3 c4 c5 c7 c9 c10 c11 c12 c13 c14 c15 c16 c21 c22 c23 c24 c25 c26 c27 c28 c29 c30 c31 c32 c33 c34 c35 c36 c37 c38 c39 c40 c41 c42 c43 c44 c45 c46 c47 c48 c49 c50 c51 c52 c53 c54 c55 c56 c57 c58 c59 c60 c61 c62 c63 c64 c65 c66 c67 c68 c69 c70 c71 c72 c73 c74 c75 c76 c77 c78 c79 c80 c81 c82 c83 c84 c85 c86 c87 c88 c89 c90 c91 c92 c93 c94 c95 c96 c97 c98 c99 c100 c101 c102 c103 c104 c105 c106 c107 c108 c109 c110 c111 c112 c113 c114 c115 c116 c117 c118 c119 c120 c121 c122 c123 c124 c125 c126 c127 c128 c129 c130 c131 c132 c133 c134 c135 c136 c137 c138 c139 c140 c141 c142 c143 c144 c145 c146 c147 c148 c149 c150 c193 c194 c195 c196 c197 c198 c199 c200 c201 c202 c203 c204 c205 c206 c207 c208 c209 c210 c211 c212 c213 c214 c215 c216 c217 c218 c219 c220 c221 c222 c223 c224 c225 c226 c227 c228 c229 c230 c231 c232 c233 c234 c235 c236 c237 c238 c239 c240 c241 c242 c243 c244 c245 c246 c247 c248 c249 c250 c251 c252 c253 c254 c255 c256 c257 c258 c259 c260 c261 : Value) (j : Nat) (A11 : Option Addr) (cap11 : Nat) (P : List E) (P0 : E → Bool) (A6 : Option Addr) (cap6 xb be : Nat) (a : Act) : Prop := ∃ u19 : Value, ∃ u20 : Value, ∃ u151 : Value, ∃ u152 : Value, ∃ u153 : Value, ∃ u154 : Value, ∃ u155 : Value, ∃ u156 : Value, ∃ u157 : Value, ∃ u158 : Value, ∃ u159 : Value, ∃ u160 : Value, ∃ u161 : Value, ∃ u162 : Value, ∃ u163 : Value, ∃ u164 : Value, ∃ u165 : Value, ∃ u166 : Value, ∃ u167 : Value, ∃ u168 : Value, ∃ u169 : Value, ∃ u170 : Value, ∃ u171 : Value, ∃ u172 : Value, ∃ u173 : Value, ∃ u174 : Value, ∃ u175 : Value, ∃ u176 : Value, ∃ u177 : Value, ∃ u178 : Value, ∃ u179 : Value, ∃ u180 : Value, ∃ u181 : Value, ∃ u182 : Value, ∃ u183 : Value, ∃ u184 : Value, ∃ u185 : Value, ∃ u186 : Value, ∃ u187 : Value, ∃ u188 : Value, ∃ u189 : Value, ∃ u190 : Value, ∃ u191 : Value, ∃ u192 : Value, a = ⟨#[c0, c1, c2, c3, c4, c5, .slice A6 P.length cap6, c7, .pointer (some ⟨xb, 0, none⟩), c9, c10, c11, c12, c13, c14, c15, c16, .slice A11 ((P.take j).filter P0).length cap11, .int .i64 (j : Int), u19, u20, c21, c22, c23, c24, c25, c26, c27, c28, c29, c30, c31, c32, c33, c34, c35, c36, c37, c38, c39, c40, c41, c42, c43, c44, c45, c46, c47, c48, c49, c50, c51, c52, c53, c54, c55, c56, c57, c58, c59, c60, c61, c62, c63, c64, c65, c66, c67, c68, c69, c70, c71, c72, c73, c74, c75, c76, c77, c78, c79, c80, c81, c82, c83, c84, c85, c86, c87, c88, c89, c90, c91, c92, c93, c94, c95, c96, c97, c98, c99, c100, c101, c102, c103, c104, c105, c106, c107, c108, c109, c110, c111, c112, c113, c114, c115, c116, c117, c118, c119, c120, c121, c122, c123, c124, c125, c126, c127, c128, c129, c130, c131, c132, c133, c134, c135, c136, c137, c138, c139, c140, c141, c142, c143, c144, c145, c146, c147, c148, c149, c150, u151, u152, u153, u154, u155, u156, u157, u158, u159, u160, u161, u162, u163, u164, u165, u166, u167, u168, u169, u170, u171, u172, u173, u174, u175, u176, u177, u178, u179, u180, u181, u182, u183, u184, u185, u186, u187, u188, u189, u190, u191, u192, c193, c194, c195, c196, c197, c198, c199, c200, c201, c202, c203, c204, c205, c206, c207, c208, c209, c210, c211, c212, c213, c214, c215, c216, c217, c218, c219, c220, c221, c222, c223, c224, c225, c226, c227, c228, c229, c230, c231, c232, c233, c234, c235, c236, c237, c238, c239, c240, c241, c242, c243, c244, c245, c246, c247, c248, c249, c250, c251, c252, c253, c254, c255, c256, c257, c258, c259, c260, c261], []⟩

def WIB (c0 c1 c2 c3 c4 c5 c7 c9 c10 c11 c12 c13 c14 c15 c16 c21 c22 c23 c24 c25 c26 c27 c28 c29 c30 c31 c32 c33 c34 c35 c36 c37 c38 c39 c40 c41 c42 c43 c44 c45 c46 c47 c48 c49 c50 c51 c52 c53 c54 c55 c56 c57 c58 c59 c60 c61 c62 c63 c64 c65 c66 c67 c68 c69 c70 c71 c72 c73 c74 c75 c76 c77 c78 c79 c80 c81 c82 c83 c84 c85 c86 c87 c88 c89 c90 c91 c92 c93 c94 c95 c96 c97 c98 c99 c100 c101 c102 c103 c104 c105 c106 c107 c108 c109 c110 c111 c112 c113 c114 c115 c116 c117 c118 c119 c120 c121 c122 c123 c124 c125 c126 c127 c128 c129 c130 c131 c132 c133 c134 c135 c136 c137 c138 c139 c140 c141 c142 c143 c144 c145 c146 c147 c148 c149 c150 c193 c194 c195 c196 c197 c198 c199 c200 c201 c202 c203 c204 c205 c206 c207 c208 c209 c210 c211 c212 c213 c214 c215 c216 c217 c218 c219 c220 c221 c222 c223 c224 c225 c226 c227 c228 c229 c230 c231 c232 c233 c234 c235 c236 c237 c238 c239 c240 c241 c242 c243 c244 c245 c246 c247 c248 c249 c250 c251 c252 c253 c254 c255 c256 c257 c258 c259 c260 c261 : Value) (w : World) (P : List E) (P0 : E → Bool) (A6 : Option Addr) (cap6 b xb : Nat) (sd : Int) (S : Slots) (at_ lv sp : Int) (gl : Bool) (lf : Int) (a : Act) (wr : World) : Prop := ∃ (j : Nat) (A11 : Option Addr) (cap11 : Nat), (j ≤ P.length ∧ Heap w wr (HP.slw (.slice A11 ((P.take j).filter P0).length cap11) 5 ((P.take j).filter P0).length (ecs ((P.take j).filter P0)) :: [HP.slw (.slice A6 P.length cap6) 5 P.length (ecs P), HP.tl b sd S, HP.blk xb #[.int .i64 2, .int .u64 at_, .int .i64 lv, .int .u64 sp, .bool gl, .int .u64 lf] 30])) ∧ FRB c0 c1 c2 c3 c4 c5 c7 c9 c10 c11 c12 c13 c14 c15 c16 c21 c22 c23 c24 c25 c26 c27 c28 c29 c30 c31 c32 c33 c34 c35 c36 c37 c38 c39 c40 c41 c42 c43 c44 c45 c46 c47 c48 c49 c50 c51 c52 c53 c54 c55 c56 c57 c58 c59 c60 c61 c62 c63 c64 c65 c66 c67 c68 c69 c70 c71 c72 c73 c74 c75 c76 c77 c78 c79 c80 c81 c82 c83 c84 c85 c86 c87 c88 c89 c90 c91 c92 c93 c94 c95 c96 c97 c98 c99 c100 c101 c102 c103 c104 c105 c106 c107 c108 c109 c110 c111 c112 c113 c114 c115 c116 c117 c118 c119 c120 c121 c122 c123 c124 c125 c126 c127 c128 c129 c130 c131 c132 c133 c134 c135 c136 c137 c138 c139 c140 c141 c142 c143 c144 c145 c146 c147 c148 c149 c150 c193 c194 c195 c196 c197 c198 c199 c200 c201 c202 c203 c204 c205 c206 c207 c208 c209 c210 c211 c212 c213 c214 c215 c216 c217 c218 c219 c220 c221 c222 c223 c224 c225 c226 c227 c228 c229 c230 c231 c232 c233 c234 c235 c236 c237 c238 c239 c240 c241 c242 c243 c244 c245 c246 c247 c248 c249 c250 c251 c252 c253 c254 c255 c256 c257 c258 c259 c260 c261 j A11 cap11 P P0 A6 cap6 xb 0 a
def WXB (c0 c1 c2 c3 c4 c5 c7 c9 c10 c11 c12 c13 c14 c15 c16 c21 c22 c23 c24 c25 c26 c27 c28 c29 c30 c31 c32 c33 c34 c35 c36 c37 c38 c39 c40 c41 c42 c43 c44 c45 c46 c47 c48 c49 c50 c51 c52 c53 c54 c55 c56 c57 c58 c59 c60 c61 c62 c63 c64 c65 c66 c67 c68 c69 c70 c71 c72 c73 c74 c75 c76 c77 c78 c79 c80 c81 c82 c83 c84 c85 c86 c87 c88 c89 c90 c91 c92 c93 c94 c95 c96 c97 c98 c99 c100 c101 c102 c103 c104 c105 c106 c107 c108 c109 c110 c111 c112 c113 c114 c115 c116 c117 c118 c119 c120 c121 c122 c123 c124 c125 c126 c127 c128 c129 c130 c131 c132 c133 c134 c135 c136 c137 c138 c139 c140 c141 c142 c143 c144 c145 c146 c147 c148 c149 c150 c193 c194 c195 c196 c197 c198 c199 c200 c201 c202 c203 c204 c205 c206 c207 c208 c209 c210 c211 c212 c213 c214 c215 c216 c217 c218 c219 c220 c221 c222 c223 c224 c225 c226 c227 c228 c229 c230 c231 c232 c233 c234 c235 c236 c237 c238 c239 c240 c241 c242 c243 c244 c245 c246 c247 c248 c249 c250 c251 c252 c253 c254 c255 c256 c257 c258 c259 c260 c261 : Value) (w : World) (P : List E) (P0 : E → Bool) (A6 : Option Addr) (cap6 b xb : Nat) (sd : Int) (S : Slots) (at_ lv sp : Int) (gl : Bool) (lf : Int) (a : Act) (wr : World) : Prop := ∃ (A11 : Option Addr) (cap11 : Nat), Heap w wr (HP.slw (.slice A11 (P.filter P0).length cap11) 5 (P.filter P0).length (ecs (P.filter P0)) :: [HP.slw (.slice A6 P.length cap6) 5 P.length (ecs P), HP.tl b sd S, HP.blk xb #[.int .i64 2, .int .u64 at_, .int .i64 lv, .int .u64 sp, .bool gl, .int .u64 lf] 30]) ∧ FRB c0 c1 c2 c3 c4 c5 c7 c9 c10 c11 c12 c13 c14 c15 c16 c21 c22 c23 c24 c25 c26 c27 c28 c29 c30 c31 c32 c33 c34 c35 c36 c37 c38 c39 c40 c41 c42 c43 c44 c45 c46 c47 c48 c49 c50 c51 c52 c53 c54 c55 c56 c57 c58 c59 c60 c61 c62 c63 c64 c65 c66 c67 c68 c69 c70 c71 c72 c73 c74 c75 c76 c77 c78 c79 c80 c81 c82 c83 c84 c85 c86 c87 c88 c89 c90 c91 c92 c93 c94 c95 c96 c97 c98 c99 c100 c101 c102 c103 c104 c105 c106 c107 c108 c109 c110 c111 c112 c113 c114 c115 c116 c117 c118 c119 c120 c121 c122 c123 c124 c125 c126 c127 c128 c129 c130 c131 c132 c133 c134 c135 c136 c137 c138 c139 c140 c141 c142 c143 c144 c145 c146 c147 c148 c149 c150 c193 c194 c195 c196 c197 c198 c199 c200 c201 c202 c203 c204 c205 c206 c207 c208 c209 c210 c211 c212 c213 c214 c215 c216 c217 c218 c219 c220 c221 c222 c223 c224 c225 c226 c227 c228 c229 c230 c231 c232 c233 c234 c235 c236 c237 c238 c239 c240 c241 c242 c243 c244 c245 c246 c247 c248 c249 c250 c251 c252 c253 c254 c255 c256 c257 c258 c259 c260 c261 P.length A11 cap11 P P0 A6 cap6 xb 0 a
def WmuB (K : Nat) (a : Act) (_ : World) : Nat := K - (intOf (a.tmps.getD 18 undef)).toNat
variable {w : World} {P : List E} {P0 : E → Bool} {A6 : Option Addr} {cap6 b xb be : Nat} {sd : Int} {S : Slots} {at_ lv sp : Int} {gl : Bool} {lf : Int}

set_option maxRecDepth 1000000 in
set_option maxHeartbeats 8000000 in
theorem oneB (hP0 : P0 = fun y => !goes ⟨lv.tmod 2 != 0, at_, decide (1 < lv), sp⟩ y) (hPn : P.length ≤ 2932031007402) (hPok : ∀ y ∈ P, y.ok) (ha0 : 0 ≤ at_) (ha1 : at_ < 18446744073709551616) {j : Nat} {A11 : Option Addr} {cap11 : Nat} {wr : World} (hj : j ≤ P.length) (hK : Heap w wr (HP.slw (.slice A11 ((P.take j).filter P0).length cap11) 5 ((P.take j).filter P0).length (ecs ((P.take j).filter P0)) :: [HP.slw (.slice A6 P.length cap6) 5 P.length (ecs P), HP.tl b sd S, HP.blk xb #[.int .i64 2, .int .u64 at_, .int .i64 lv, .int .u64 sp, .bool gl, .int .u64 lf] 30])) (hjl : j < P.length) (Q0 : Exit → Act → World → Prop) (c0 c1 c2 c3 c4 c5 c7 c9 c10 c11 c12 c13 c14 c15 c16 c21 c22 c23 c24 c25 c26 c27 c28 c29 c30 c31 c32 c33 c34 c35 c36 c37 c38 c39 c40 c41 c42 c43 c44 c45 c46 c47 c48 c49 c50 c51 c52 c53 c54 c55 c56 c57 c58 c59 c60 c61 c62 c63 c64 c65 c66 c67 c68 c69 c70 c71 c72 c73 c74 c75 c76 c77 c78 c79 c80 c81 c82 c83 c84 c85 c86 c87 c88 c89 c90 c91 c92 c93 c94 c95 c96 c97 c98 c99 c100 c101 c102 c103 c104 c105 c106 c107 c108 c109 c110 c111 c112 c113 c114 c115 c116 c117 c118 c119 c120 c121 c122 c123 c124 c125 c126 c127 c128 c129 c130 c131 c132 c133 c134 c135 c136 c137 c138 c139 c140 c141 c142 c143 c144 c145 c146 c147 c148 c149 c150 c193 c194 c195 c196 c197 c198 c199 c200 c201 c202 c203 c204 c205 c206 c207 c208 c209 c210 c211 c212 c213 c214 c215 c216 c217 c218 c219 c220 c221 c222 c223 c224 c225 c226 c227 c228 c229 c230 c231 c232 c233 c234 c235 c236 c237 c238 c239 c240 c241 c242 c243 c244 c245 c246 c247 c248 c249 c250 c251 c252 c253 c254 c255 c256 c257 c258 c259 c260 c261 u19 u20 u151 u152 u153 u154 u155 u156 u157 u158 u159 u160 u161 u162 u163 u164 u165 u166 u167 u168 u169 u170 u171 u172 u173 u174 u175 u176 u177 u178 u179 u180 u181 u182 u183 u184 u185 u186 u187 u188 u189 u190 u191 u192 : Value) :
    Code.wp Try.prog bodyB (Exit.then (fun a' w'' => WIB c0 c1 c2 c3 c4 c5 c7 c9 c10 c11 c12 c13 c14 c15 c16 c21 c22 c23 c24 c25 c26 c27 c28 c29 c30 c31 c32 c33 c34 c35 c36 c37 c38 c39 c40 c41 c42 c43 c44 c45 c46 c47 c48 c49 c50 c51 c52 c53 c54 c55 c56 c57 c58 c59 c60 c61 c62 c63 c64 c65 c66 c67 c68 c69 c70 c71 c72 c73 c74 c75 c76 c77 c78 c79 c80 c81 c82 c83 c84 c85 c86 c87 c88 c89 c90 c91 c92 c93 c94 c95 c96 c97 c98 c99 c100 c101 c102 c103 c104 c105 c106 c107 c108 c109 c110 c111 c112 c113 c114 c115 c116 c117 c118 c119 c120 c121 c122 c123 c124 c125 c126 c127 c128 c129 c130 c131 c132 c133 c134 c135 c136 c137 c138 c139 c140 c141 c142 c143 c144 c145 c146 c147 c148 c149 c150 c193 c194 c195 c196 c197 c198 c199 c200 c201 c202 c203 c204 c205 c206 c207 c208 c209 c210 c211 c212 c213 c214 c215 c216 c217 c218 c219 c220 c221 c222 c223 c224 c225 c226 c227 c228 c229 c230 c231 c232 c233 c234 c235 c236 c237 c238 c239 c240 c241 c242 c243 c244 c245 c246 c247 c248 c249 c250 c251 c252 c253 c254 c255 c256 c257 c258 c259 c260 c261 w P P0 A6 cap6 b xb sd S at_ lv sp gl lf a' w'' ∧ WmuB P.length a' w'' < P.length - j) Q0) ⟨#[c0, c1, c2, c3, c4, c5, .slice A6 P.length cap6, c7, .pointer (some ⟨xb, 0, none⟩), c9, c10, c11, c12, c13, c14, c15, c16, .slice A11 ((P.take j).filter P0).length cap11, .int .i64 (j : Int), u19, u20, c21, c22, c23, c24, c25, c26, c27, c28, c29, c30, c31, c32, c33, c34, c35, c36, c37, c38, c39, c40, c41, c42, c43, c44, c45, c46, c47, c48, c49, c50, c51, c52, c53, c54, c55, c56, c57, c58, c59, c60, c61, c62, c63, c64, c65, c66, c67, c68, c69, c70, c71, c72, c73, c74, c75, c76, c77, c78, c79, c80, c81, c82, c83, c84, c85, c86, c87, c88, c89, c90, c91, c92, c93, c94, c95, c96, c97, c98, c99, c100, c101, c102, c103, c104, c105, c106, c107, c108, c109, c110, c111, c112, c113, c114, c115, c116, c117, c118, c119, c120, c121, c122, c123, c124, c125, c126, c127, c128, c129, c130, c131, c132, c133, c134, c135, c136, c137, c138, c139, c140, c141, c142, c143, c144, c145, c146, c147, c148, c149, c150, u151, u152, u153, u154, u155, u156, u157, u158, u159, u160, u161, u162, u163, u164, u165, u166, u167, u168, u169, u170, u171, u172, u173, u174, u175, u176, u177, u178, u179, u180, u181, u182, u183, u184, u185, u186, u187, u188, u189, u190, u191, u192, c193, c194, c195, c196, c197, c198, c199, c200, c201, c202, c203, c204, c205, c206, c207, c208, c209, c210, c211, c212, c213, c214, c215, c216, c217, c218, c219, c220, c221, c222, c223, c224, c225, c226, c227, c228, c229, c230, c231, c232, c233, c234, c235, c236, c237, c238, c239, c240, c241, c242, c243, c244, c245, c246, c247, c248, c249, c250, c251, c252, c253, c254, c255, c256, c257, c258, c259, c260, c261], []⟩ wr := by
  conv => arg 2; whnf
  have HP0 := hide hP0
  obtain ⟨y, hy⟩ : ∃ y, P[j]? = some y := ⟨_, List.getElem?_eq_getElem hjl⟩
  have HE := hide hy
  have hyo := hPok y (List.mem_of_getElem? hy)
  have hfl : ((P.take j).filter P0).length ≤ P.length := Nat.le_trans (List.length_filter_le _ _) (by rw [List.length_take]; omega)
  obtain ⟨g, o, _, h1, hgl, _, d0, d1, d2, d3, d4⟩ := cellsE hK.f2.slw hy
  injection h1 with hA1 _ hA2
  subst hA1 hA2
  obtain ⟨yat, ylv, ysp, ygl, ylf⟩ := y
  simp only at d0 d1 d2 d3 d4
  obtain ⟨i0, hi, hz0, hz1, hz2⟩ := info_parts info36
  have hone := cs_one ⟨yat, ylv, ysp, ygl, ylf⟩
  have K1 := hK.new #[.int .u64 yat, .int .i64 ylv, .int .u64 ysp, .bool ygl, .int .u64 ylf] 36
  obtain ⟨yb, hyb⟩ : ∃ yb, wr.heap.size = yb := ⟨_, rfl⟩
  rw [hyb] at K1
  have Hyb := hide hyb
  have c5 := cells5 K1.heap
  have c6 := cells6 K1.f5.heap
  have hyl := lt_of_heap' K1.heap
  have hxl := lt_of_heap' K1.f5.heap
  clear hy hK hP0 hPok
  clear hyb
  go_wp2_with fail
  rw [unhide Hyb]
  refine (hasR_any ⟨yat, ylv, ysp, ygl, ylf⟩ hyo at_ ha0 ha1 _).mono ?_
  rintro r w8 ⟨rfl, hg8⟩
  obtain ⟨hb8, hhb8⟩ : ∃ x, hasB (⟨yat, ylv, ysp, ygl, ylf⟩ : E) at_ = x := ⟨_, rfl⟩
  rw [hhb8]
  have HB8 := hide hhb8
  clear hhb8
  have K1 := K1.grown hg8
  clear hg8 c5 c6
  have c5 := cells5 K1.heap
  have c6 := cells6 K1.f5.heap
  have hyl := lt_of_heap' K1.heap
  have hxl := lt_of_heap' K1.f5.heap
  go_upto_region 33 with fail
  go_cut [188] from 151 to 192 (fun s wx => s = .bool (P0 (⟨yat, ylv, ysp, ygl, ylf⟩ : E)) ∧ Heap w wx (HP.blk yb #[.int .u64 yat, .int .i64 ylv, .int .u64 ysp, .bool ygl, .int .u64 ylf] 36 :: HP.slw (.slice A11 ((P.take j).filter P0).length cap11) 5 ((P.take j).filter P0).length (ecs ((P.take j).filter P0)) :: [HP.slw (.slice (some ⟨g, o, none⟩) P.length cap6) 5 P.length (ecs P), HP.tl b sd S, HP.blk xb #[.int .i64 2, .int .u64 at_, .int .i64 lv, .int .u64 sp, .bool gl, .int .u64 lf] 30]))
  case first =>
    as_aux_lemma =>
      obtain ⟨pv, hpv⟩ : ∃ b, P0 (⟨yat, ylv, ysp, ygl, ylf⟩ : E) = b := ⟨_, rfl⟩
      have Hpv := hide hpv
      clear hpv
      cases hb1 : (lv.tmod 2 != 0) with
      | true =>
        cases hb8 with
        | false =>
          have hv : pv = true := by
            rw [← unhide Hpv]
            have hhb := unhide HB8; rw [unhide HP0]; first | (simp [goes, *]; done) | (subst q3; simp [goes, *]; done)
          have Hv := hide hv
          clear hv
          go_wp2
          go_meet
          exact ⟨by rw [unhide Hpv, unhide Hv], K1⟩
        | true =>
          cases hb2 : decide (1 < lv) with
          | false =>
            have hv : pv = false := by
              rw [← unhide Hpv]
              have hhb := unhide HB8; rw [unhide HP0]; first | (simp [goes, *]; done) | (subst q3; simp [goes, *]; done)
            have Hv := hide hv
            clear hv
            go_wp2
            go_meet
            exact ⟨by rw [unhide Hpv, unhide Hv], K1⟩
          | true =>
            cases ygl with
            | true =>
              have hv : pv = true := by
                rw [← unhide Hpv]
                have hhb := unhide HB8; rw [unhide HP0]; first | (simp [goes, *]; done) | (subst q3; simp [goes, *]; done)
              have Hv := hide hv
              clear hv
              go_wp2
              go_meet
              exact ⟨by rw [unhide Hpv, unhide Hv], K1⟩
            | false =>
              by_cases q3 : ysp = sp
              · have z3 : (ysp != sp) = false := by simp [q3]
                have y3 : (ysp == sp) = true := by simp [q3]
                have hv : pv = false := by
                  rw [← unhide Hpv]
                  have hhb := unhide HB8; rw [unhide HP0]; first | (simp [goes, *]; done) | (subst q3; simp [goes, *]; done)
                have Hv := hide hv
                clear hv q3 y3
                go_wp2
                go_meet
                exact ⟨by rw [unhide Hpv, unhide Hv], K1⟩
              · have z3 : (ysp != sp) = true := by simp [q3]
                have y3 : (ysp == sp) = false := by simp [q3]
                have hv : pv = true := by
                  rw [← unhide Hpv]
                  have hhb := unhide HB8; rw [unhide HP0]; first | (simp [goes, *]; done) | (subst q3; simp [goes, *]; done)
                have Hv := hide hv
                clear hv q3 y3
                go_wp2
                go_meet
                exact ⟨by rw [unhide Hpv, unhide Hv], K1⟩
      | false =>
        cases hb2 : decide (1 < lv) with
        | false =>
          have hv : pv = false := by
            rw [← unhide Hpv]
            have hhb := unhide HB8; rw [unhide HP0]; first | (simp [goes, *]; done) | (subst q3; simp [goes, *]; done)
          have Hv := hide hv
          clear hv
          go_wp2
          go_meet
          exact ⟨by rw [unhide Hpv, unhide Hv], K1⟩
        | true =>
          cases ygl with
          | true =>
            have hv : pv = true := by
              rw [← unhide Hpv]
              have hhb := unhide HB8; rw [unhide HP0]; first | (simp [goes, *]; done) | (subst q3; simp [goes, *]; done)
            have Hv := hide hv
            clear hv
            go_wp2
            go_meet
            exact ⟨by rw [unhide Hpv, unhide Hv], K1⟩
          | false =>
            by_cases q3 : ysp = sp
            · have z3 : (ysp != sp) = false := by simp [q3]
              have y3 : (ysp == sp) = true := by simp [q3]
              have hv : pv = false := by
                rw [← unhide Hpv]
                have hhb := unhide HB8; rw [unhide HP0]; first | (simp [goes, *]; done) | (subst q3; simp [goes, *]; done)
              have Hv := hide hv
              clear hv q3 y3
              go_wp2
              go_meet
              exact ⟨by rw [unhide Hpv, unhide Hv], K1⟩
            · have z3 : (ysp != sp) = true := by simp [q3]
              have y3 : (ysp == sp) = false := by simp [q3]
              have hv : pv = true := by
                rw [← unhide Hpv]
                have hhb := unhide HB8; rw [unhide HP0]; first | (simp [goes, *]; done) | (subst q3; simp [goes, *]; done)
              have Hv := hide hv
              clear hv q3 y3
              go_wp2
              go_meet
              exact ⟨by rw [unhide Hpv, unhide Hv], K1⟩
  case rest =>
    obtain ⟨rfl, K1⟩ := hcut
    have c5 := cells5 K1.heap
    have hyl := lt_of_heap' K1.heap
    cases hpk : P0 (⟨yat, ylv, ysp, ygl, ylf⟩ : E) with
    | true =>
      have Hpk := hide hpk
      clear hpk
      go_wp2_with (at_builtin; refine wpList_append_sl rfl _ _ 46 rfl 36 i0 _ 5 40 Try.underlying46 hi hz0 hz1 hz2 rfl rfl rfl (K1.f2.slw.alloc _) (Sl.five _ 36 (⟨yat, ylv, ysp, ygl, ylf⟩ : E) (by simp)) hone (by omega) (by omega) ?_; intro v' w' hsl hgr hblk hsp)
      obtain ⟨A', cap', rfl, _⟩ := hsl.parts
      have K2 : Heap w w' (HP.slw (.slice A' (((P.take j).filter P0).length + 1) cap') 5 ((P.take (j + 1)).filter P0).length (ecs ((P.take (j + 1)).filter P0)) :: [HP.slw (.slice (some ⟨g, o, none⟩) P.length cap6) 5 P.length (ecs P), HP.tl b sd S, HP.blk xb #[.int .i64 2, .int .u64 at_, .int .i64 lv, .int .u64 sp, .bool gl, .int .u64 lf] 30]) := by
        rw [take_keep (unhide HE) (unhide Hpk), ecs_snoc, List.length_append]
        exact (K1.tail.alloc _).appendw hsl hgr hblk
      go_wp2
      have HL1 := hide (len_keep (unhide HE) (unhide Hpk))
      have e12 : (j : Int) + 1 = ((j + 1 : Nat) : Int) := rfl
      try rw [e12]
      refine ⟨⟨j + 1, A', cap', ⟨by omega, by rw [unhide HL1] at K2 ⊢; exact K2⟩, ?_⟩, by simp [WmuB, intOf]; omega⟩
      unfold FRB
      rw [unhide HL1]
      refine ⟨_, _, _, _, _, _, _, _, _, _, _, _, _, _, _, _, _, _, _, _, _, _, _, _, _, _, _, _, _, _, _, _, _, _, _, _, _, _, _, _, _, _, _, _, rfl⟩
    | false =>
      have Hpk := hide hpk
      clear hpk
      go_wp2
      have e12 : (j : Int) + 1 = ((j + 1 : Nat) : Int) := rfl
      try rw [e12]
      refine ⟨⟨j + 1, A11, cap11, ⟨by omega, by rw [take_drop (unhide HE) (unhide Hpk)]; exact K1.tail⟩, ?_⟩, by simp [WmuB, intOf]; omega⟩
      unfold FRB
      rw [take_drop (unhide HE) (unhide Hpk)]
      refine ⟨_, _, _, _, _, _, _, _, _, _, _, _, _, _, _, _, _, _, _, _, _, _, _, _, _, _, _, _, _, _, _, _, _, _, _, _, _, _, _, _, _, _, _, _, rfl⟩
set_option maxRecDepth 1000000 in
set_option maxHeartbeats 8000000 in
theorem roundB (hP0 : P0 = fun y => !goes ⟨lv.tmod 2 != 0, at_, decide (1 < lv), sp⟩ y) (hPn : P.length ≤ 2932031007402) (hPok : ∀ y ∈ P, y.ok) (ha0 : 0 ≤ at_) (ha1 : at_ < 18446744073709551616) (Q0 : Exit → Act → World → Prop) (c0 c1 c2 c3 c4 c5 c7 c9 c10 c11 c12 c13 c14 c15 c16 c21 c22 c23 c24 c25 c26 c27 c28 c29 c30 c31 c32 c33 c34 c35 c36 c37 c38 c39 c40 c41 c42 c43 c44 c45 c46 c47 c48 c49 c50 c51 c52 c53 c54 c55 c56 c57 c58 c59 c60 c61 c62 c63 c64 c65 c66 c67 c68 c69 c70 c71 c72 c73 c74 c75 c76 c77 c78 c79 c80 c81 c82 c83 c84 c85 c86 c87 c88 c89 c90 c91 c92 c93 c94 c95 c96 c97 c98 c99 c100 c101 c102 c103 c104 c105 c106 c107 c108 c109 c110 c111 c112 c113 c114 c115 c116 c117 c118 c119 c120 c121 c122 c123 c124 c125 c126 c127 c128 c129 c130 c131 c132 c133 c134 c135 c136 c137 c138 c139 c140 c141 c142 c143 c144 c145 c146 c147 c148 c149 c150 c193 c194 c195 c196 c197 c198 c199 c200 c201 c202 c203 c204 c205 c206 c207 c208 c209 c210 c211 c212 c213 c214 c215 c216 c217 c218 c219 c220 c221 c222 c223 c224 c225 c226 c227 c228 c229 c230 c231 c232 c233 c234 c235 c236 c237 c238 c239 c240 c241 c242 c243 c244 c245 c246 c247 c248 c249 c250 c251 c252 c253 c254 c255 c256 c257 c258 c259 c260 c261 : Value) (hexit : ∀ a' w'', WXB c0 c1 c2 c3 c4 c5 c7 c9 c10 c11 c12 c13 c14 c15 c16 c21 c22 c23 c24 c25 c26 c27 c28 c29 c30 c31 c32 c33 c34 c35 c36 c37 c38 c39 c40 c41 c42 c43 c44 c45 c46 c47 c48 c49 c50 c51 c52 c53 c54 c55 c56 c57 c58 c59 c60 c61 c62 c63 c64 c65 c66 c67 c68 c69 c70 c71 c72 c73 c74 c75 c76 c77 c78 c79 c80 c81 c82 c83 c84 c85 c86 c87 c88 c89 c90 c91 c92 c93 c94 c95 c96 c97 c98 c99 c100 c101 c102 c103 c104 c105 c106 c107 c108 c109 c110 c111 c112 c113 c114 c115 c116 c117 c118 c119 c120 c121 c122 c123 c124 c125 c126 c127 c128 c129 c130 c131 c132 c133 c134 c135 c136 c137 c138 c139 c140 c141 c142 c143 c144 c145 c146 c147 c148 c149 c150 c193 c194 c195 c196 c197 c198 c199 c200 c201 c202 c203 c204 c205 c206 c207 c208 c209 c210 c211 c212 c213 c214 c215 c216 c217 c218 c219 c220 c221 c222 c223 c224 c225 c226 c227 c228 c229 c230 c231 c232 c233 c234 c235 c236 c237 c238 c239 c240 c241 c242 c243 c244 c245 c246 c247 c248 c249 c250 c251 c252 c253 c254 c255 c256 c257 c258 c259 c260 c261 w P P0 A6 cap6 b xb sd S at_ lv sp gl lf a' w'' → Q0 (.exit 4) a' w'') {a : Act} {wr : World} (hI : WIB c0 c1 c2 c3 c4 c5 c7 c9 c10 c11 c12 c13 c14 c15 c16 c21 c22 c23 c24 c25 c26 c27 c28 c29 c30 c31 c32 c33 c34 c35 c36 c37 c38 c39 c40 c41 c42 c43 c44 c45 c46 c47 c48 c49 c50 c51 c52 c53 c54 c55 c56 c57 c58 c59 c60 c61 c62 c63 c64 c65 c66 c67 c68 c69 c70 c71 c72 c73 c74 c75 c76 c77 c78 c79 c80 c81 c82 c83 c84 c85 c86 c87 c88 c89 c90 c91 c92 c93 c94 c95 c96 c97 c98 c99 c100 c101 c102 c103 c104 c105 c106 c107 c108 c109 c110 c111 c112 c113 c114 c115 c116 c117 c118 c119 c120 c121 c122 c123 c124 c125 c126 c127 c128 c129 c130 c131 c132 c133 c134 c135 c136 c137 c138 c139 c140 c141 c142 c143 c144 c145 c146 c147 c148 c149 c150 c193 c194 c195 c196 c197 c198 c199 c200 c201 c202 c203 c204 c205 c206 c207 c208 c209 c210 c211 c212 c213 c214 c215 c216 c217 c218 c219 c220 c221 c222 c223 c224 c225 c226 c227 c228 c229 c230 c231 c232 c233 c234 c235 c236 c237 c238 c239 c240 c241 c242 c243 c244 c245 c246 c247 c248 c249 c250 c251 c252 c253 c254 c255 c256 c257 c258 c259 c260 c261 w P P0 A6 cap6 b xb sd S at_ lv sp gl lf a wr) :
    Code.wp Try.prog bodyB (Exit.then (fun a' w'' => WIB c0 c1 c2 c3 c4 c5 c7 c9 c10 c11 c12 c13 c14 c15 c16 c21 c22 c23 c24 c25 c26 c27 c28 c29 c30 c31 c32 c33 c34 c35 c36 c37 c38 c39 c40 c41 c42 c43 c44 c45 c46 c47 c48 c49 c50 c51 c52 c53 c54 c55 c56 c57 c58 c59 c60 c61 c62 c63 c64 c65 c66 c67 c68 c69 c70 c71 c72 c73 c74 c75 c76 c77 c78 c79 c80 c81 c82 c83 c84 c85 c86 c87 c88 c89 c90 c91 c92 c93 c94 c95 c96 c97 c98 c99 c100 c101 c102 c103 c104 c105 c106 c107 c108 c109 c110 c111 c112 c113 c114 c115 c116 c117 c118 c119 c120 c121 c122 c123 c124 c125 c126 c127 c128 c129 c130 c131 c132 c133 c134 c135 c136 c137 c138 c139 c140 c141 c142 c143 c144 c145 c146 c147 c148 c149 c150 c193 c194 c195 c196 c197 c198 c199 c200 c201 c202 c203 c204 c205 c206 c207 c208 c209 c210 c211 c212 c213 c214 c215 c216 c217 c218 c219 c220 c221 c222 c223 c224 c225 c226 c227 c228 c229 c230 c231 c232 c233 c234 c235 c236 c237 c238 c239 c240 c241 c242 c243 c244 c245 c246 c247 c248 c249 c250 c251 c252 c253 c254 c255 c256 c257 c258 c259 c260 c261 w P P0 A6 cap6 b xb sd S at_ lv sp gl lf a' w'' ∧ WmuB P.length a' w'' < WmuB P.length a wr) Q0) a wr := by
  obtain ⟨j, A11, cap11, ⟨hj, hK⟩, hF⟩ := hI
  unfold FRB at hF
  obtain ⟨u19, hF⟩ := hF
  obtain ⟨u20, hF⟩ := hF
  obtain ⟨u151, hF⟩ := hF
  obtain ⟨u152, hF⟩ := hF
  obtain ⟨u153, hF⟩ := hF
  obtain ⟨u154, hF⟩ := hF
  obtain ⟨u155, hF⟩ := hF
  obtain ⟨u156, hF⟩ := hF
  obtain ⟨u157, hF⟩ := hF
  obtain ⟨u158, hF⟩ := hF
  obtain ⟨u159, hF⟩ := hF
  obtain ⟨u160, hF⟩ := hF
  obtain ⟨u161, hF⟩ := hF
  obtain ⟨u162, hF⟩ := hF
  obtain ⟨u163, hF⟩ := hF
  obtain ⟨u164, hF⟩ := hF
  obtain ⟨u165, hF⟩ := hF
  obtain ⟨u166, hF⟩ := hF
  obtain ⟨u167, hF⟩ := hF
  obtain ⟨u168, hF⟩ := hF
  obtain ⟨u169, hF⟩ := hF
  obtain ⟨u170, hF⟩ := hF
  obtain ⟨u171, hF⟩ := hF
  obtain ⟨u172, hF⟩ := hF
  obtain ⟨u173, hF⟩ := hF
  obtain ⟨u174, hF⟩ := hF
  obtain ⟨u175, hF⟩ := hF
  obtain ⟨u176, hF⟩ := hF
  obtain ⟨u177, hF⟩ := hF
  obtain ⟨u178, hF⟩ := hF
  obtain ⟨u179, hF⟩ := hF
  obtain ⟨u180, hF⟩ := hF
  obtain ⟨u181, hF⟩ := hF
  obtain ⟨u182, hF⟩ := hF
  obtain ⟨u183, hF⟩ := hF
  obtain ⟨u184, hF⟩ := hF
  obtain ⟨u185, hF⟩ := hF
  obtain ⟨u186, hF⟩ := hF
  obtain ⟨u187, hF⟩ := hF
  obtain ⟨u188, hF⟩ := hF
  obtain ⟨u189, hF⟩ := hF
  obtain ⟨u190, hF⟩ := hF
  obtain ⟨u191, hF⟩ := hF
  obtain ⟨u192, hF⟩ := hF
  subst hF
  by_cases hjl : j < P.length
  · exact oneB hP0 hPn hPok ha0 ha1 hj hK hjl Q0 _ _ _ _ _ _ _ _ _ _ _ _ _ _ _ _ _ _ _ _ _ _ _ _ _ _ _ _ _ _ _ _ _ _ _ _ _ _ _ _ _ _ _ _ _ _ _ _ _ _ _ _ _ _ _ _ _ _ _ _ _ _ _ _ _ _ _ _ _ _ _ _ _ _ _ _ _ _ _ _ _ _ _ _ _ _ _ _ _ _ _ _ _ _ _ _ _ _ _ _ _ _ _ _ _ _ _ _ _ _ _ _ _ _ _ _ _ _ _ _ _ _ _ _ _ _ _ _ _ _ _ _ _ _ _ _ _ _ _ _ _ _ _ _ _ _ _ _ _ _ _ _ _ _ _ _ _ _ _ _ _ _ _ _ _ _ _ _ _ _ _ _ _ _ _ _ _ _ _ _ _ _ _ _ _ _ _ _ _ _ _ _ _ _ _ _ _ _ _ _ _ _ _ _ _ _ _ _ _ _ _ _ _ _ _ _ _ _ _ _ _ _ _ _ _ _ _ _ _ _ _ _ _ _ _ _ _ _ _ _ _ _ _ _ _ _ _ _ _ _ _ _ _ _ _ _ _ _
  · obtain rfl : j = P.length := by omega
    have HK := hide hK
    clear hK hP0 hPok
    conv => arg 2; whnf
    go_wp2
    refine ⟨A11, cap11, ?_, ?_⟩
    · have := unhide HK
      rw [List.take_length] at this
      exact this
    · unfold FRB
      try rw [List.take_length]
      refine ⟨_, _, _, _, _, _, _, _, _, _, _, _, _, _, _, _, _, _, _, _, _, _, _, _, _, _, _, _, _, _, _, _, _, _, _, _, _, _, _, _, _, _, _, _, rfl⟩
set_option maxRecDepth 1000000 in
theorem loopB (hP0 : P0 = fun y => !goes ⟨lv.tmod 2 != 0, at_, decide (1 < lv), sp⟩ y) (hPn : P.length ≤ 2932031007402) (hPok : ∀ y ∈ P, y.ok) (ha0 : 0 ≤ at_) (ha1 : at_ < 18446744073709551616) (Q0 : Exit → Act → World → Prop) (c0 c1 c2 c3 c4 c5 c7 c9 c10 c11 c12 c13 c14 c15 c16 c21 c22 c23 c24 c25 c26 c27 c28 c29 c30 c31 c32 c33 c34 c35 c36 c37 c38 c39 c40 c41 c42 c43 c44 c45 c46 c47 c48 c49 c50 c51 c52 c53 c54 c55 c56 c57 c58 c59 c60 c61 c62 c63 c64 c65 c66 c67 c68 c69 c70 c71 c72 c73 c74 c75 c76 c77 c78 c79 c80 c81 c82 c83 c84 c85 c86 c87 c88 c89 c90 c91 c92 c93 c94 c95 c96 c97 c98 c99 c100 c101 c102 c103 c104 c105 c106 c107 c108 c109 c110 c111 c112 c113 c114 c115 c116 c117 c118 c119 c120 c121 c122 c123 c124 c125 c126 c127 c128 c129 c130 c131 c132 c133 c134 c135 c136 c137 c138 c139 c140 c141 c142 c143 c144 c145 c146 c147 c148 c149 c150 c193 c194 c195 c196 c197 c198 c199 c200 c201 c202 c203 c204 c205 c206 c207 c208 c209 c210 c211 c212 c213 c214 c215 c216 c217 c218 c219 c220 c221 c222 c223 c224 c225 c226 c227 c228 c229 c230 c231 c232 c233 c234 c235 c236 c237 c238 c239 c240 c241 c242 c243 c244 c245 c246 c247 c248 c249 c250 c251 c252 c253 c254 c255 c256 c257 c258 c259 c260 c261 : Value) {A11 : Option Addr} {cap11 : Nat} {wr : World} (hK : Heap w wr (HP.slw (.slice A11 0 cap11) 5 0 [] :: [HP.slw (.slice A6 P.length cap6) 5 P.length (ecs P), HP.tl b sd S, HP.blk xb #[.int .i64 2, .int .u64 at_, .int .i64 lv, .int .u64 sp, .bool gl, .int .u64 lf] 30])) (u19 u20 u151 u152 u153 u154 u155 u156 u157 u158 u159 u160 u161 u162 u163 u164 u165 u166 u167 u168 u169 u170 u171 u172 u173 u174 u175 u176 u177 u178 u179 u180 u181 u182 u183 u184 u185 u186 u187 u188 u189 u190 u191 u192 : Value) (hexit : ∀ a' w'', WXB c0 c1 c2 c3 c4 c5 c7 c9 c10 c11 c12 c13 c14 c15 c16 c21 c22 c23 c24 c25 c26 c27 c28 c29 c30 c31 c32 c33 c34 c35 c36 c37 c38 c39 c40 c41 c42 c43 c44 c45 c46 c47 c48 c49 c50 c51 c52 c53 c54 c55 c56 c57 c58 c59 c60 c61 c62 c63 c64 c65 c66 c67 c68 c69 c70 c71 c72 c73 c74 c75 c76 c77 c78 c79 c80 c81 c82 c83 c84 c85 c86 c87 c88 c89 c90 c91 c92 c93 c94 c95 c96 c97 c98 c99 c100 c101 c102 c103 c104 c105 c106 c107 c108 c109 c110 c111 c112 c113 c114 c115 c116 c117 c118 c119 c120 c121 c122 c123 c124 c125 c126 c127 c128 c129 c130 c131 c132 c133 c134 c135 c136 c137 c138 c139 c140 c141 c142 c143 c144 c145 c146 c147 c148 c149 c150 c193 c194 c195 c196 c197 c198 c199 c200 c201 c202 c203 c204 c205 c206 c207 c208 c209 c210 c211 c212 c213 c214 c215 c216 c217 c218 c219 c220 c221 c222 c223 c224 c225 c226 c227 c228 c229 c230 c231 c232 c233 c234 c235 c236 c237 c238 c239 c240 c241 c242 c243 c244 c245 c246 c247 c248 c249 c250 c251 c252 c253 c254 c255 c256 c257 c258 c259 c260 c261 w P P0 A6 cap6 b xb sd S at_ lv sp gl lf a' w'' → Q0 (.exit 4) a' w'') :
    Code.wp Try.prog (Code.loop bodyB) Q0 ⟨#[c0, c1, c2, c3, c4, c5, .slice A6 P.length cap6, c7, .pointer (some ⟨xb, 0, none⟩), c9, c10, c11, c12, c13, c14, c15, c16, .slice A11 0 cap11, .int .i64 ((0 : Nat) : Int), u19, u20, c21, c22, c23, c24, c25, c26, c27, c28, c29, c30, c31, c32, c33, c34, c35, c36, c37, c38, c39, c40, c41, c42, c43, c44, c45, c46, c47, c48, c49, c50, c51, c52, c53, c54, c55, c56, c57, c58, c59, c60, c61, c62, c63, c64, c65, c66, c67, c68, c69, c70, c71, c72, c73, c74, c75, c76, c77, c78, c79, c80, c81, c82, c83, c84, c85, c86, c87, c88, c89, c90, c91, c92, c93, c94, c95, c96, c97, c98, c99, c100, c101, c102, c103, c104, c105, c106, c107, c108, c109, c110, c111, c112, c113, c114, c115, c116, c117, c118, c119, c120, c121, c122, c123, c124, c125, c126, c127, c128, c129, c130, c131, c132, c133, c134, c135, c136, c137, c138, c139, c140, c141, c142, c143, c144, c145, c146, c147, c148, c149, c150, u151, u152, u153, u154, u155, u156, u157, u158, u159, u160, u161, u162, u163, u164, u165, u166, u167, u168, u169, u170, u171, u172, u173, u174, u175, u176, u177, u178, u179, u180, u181, u182, u183, u184, u185, u186, u187, u188, u189, u190, u191, u192, c193, c194, c195, c196, c197, c198, c199, c200, c201, c202, c203, c204, c205, c206, c207, c208, c209, c210, c211, c212, c213, c214, c215, c216, c217, c218, c219, c220, c221, c222, c223, c224, c225, c226, c227, c228, c229, c230, c231, c232, c233, c234, c235, c236, c237, c238, c239, c240, c241, c242, c243, c244, c245, c246, c247, c248, c249, c250, c251, c252, c253, c254, c255, c256, c257, c258, c259, c260, c261], []⟩ wr := by
  refine wp_loop (WIB c0 c1 c2 c3 c4 c5 c7 c9 c10 c11 c12 c13 c14 c15 c16 c21 c22 c23 c24 c25 c26 c27 c28 c29 c30 c31 c32 c33 c34 c35 c36 c37 c38 c39 c40 c41 c42 c43 c44 c45 c46 c47 c48 c49 c50 c51 c52 c53 c54 c55 c56 c57 c58 c59 c60 c61 c62 c63 c64 c65 c66 c67 c68 c69 c70 c71 c72 c73 c74 c75 c76 c77 c78 c79 c80 c81 c82 c83 c84 c85 c86 c87 c88 c89 c90 c91 c92 c93 c94 c95 c96 c97 c98 c99 c100 c101 c102 c103 c104 c105 c106 c107 c108 c109 c110 c111 c112 c113 c114 c115 c116 c117 c118 c119 c120 c121 c122 c123 c124 c125 c126 c127 c128 c129 c130 c131 c132 c133 c134 c135 c136 c137 c138 c139 c140 c141 c142 c143 c144 c145 c146 c147 c148 c149 c150 c193 c194 c195 c196 c197 c198 c199 c200 c201 c202 c203 c204 c205 c206 c207 c208 c209 c210 c211 c212 c213 c214 c215 c216 c217 c218 c219 c220 c221 c222 c223 c224 c225 c226 c227 c228 c229 c230 c231 c232 c233 c234 c235 c236 c237 c238 c239 c240 c241 c242 c243 c244 c245 c246 c247 c248 c249 c250 c251 c252 c253 c254 c255 c256 c257 c258 c259 c260 c261 w P P0 A6 cap6 b xb sd S at_ lv sp gl lf) (WmuB P.length) ⟨0, A11, cap11, ⟨Nat.zero_le _, hK⟩, ?_⟩ (fun a w'' hI => roundB hP0 hPn hPok ha0 ha1 Q0 c0 c1 c2 c3 c4 c5 c7 c9 c10 c11 c12 c13 c14 c15 c16 c21 c22 c23 c24 c25 c26 c27 c28 c29 c30 c31 c32 c33 c34 c35 c36 c37 c38 c39 c40 c41 c42 c43 c44 c45 c46 c47 c48 c49 c50 c51 c52 c53 c54 c55 c56 c57 c58 c59 c60 c61 c62 c63 c64 c65 c66 c67 c68 c69 c70 c71 c72 c73 c74 c75 c76 c77 c78 c79 c80 c81 c82 c83 c84 c85 c86 c87 c88 c89 c90 c91 c92 c93 c94 c95 c96 c97 c98 c99 c100 c101 c102 c103 c104 c105 c106 c107 c108 c109 c110 c111 c112 c113 c114 c115 c116 c117 c118 c119 c120 c121 c122 c123 c124 c125 c126 c127 c128 c129 c130 c131 c132 c133 c134 c135 c136 c137 c138 c139 c140 c141 c142 c143 c144 c145 c146 c147 c148 c149 c150 c193 c194 c195 c196 c197 c198 c199 c200 c201 c202 c203 c204 c205 c206 c207 c208 c209 c210 c211 c212 c213 c214 c215 c216 c217 c218 c219 c220 c221 c222 c223 c224 c225 c226 c227 c228 c229 c230 c231 c232 c233 c234 c235 c236 c237 c238 c239 c240 c241 c242 c243 c244 c245 c246 c247 c248 c249 c250 c251 c252 c253 c254 c255 c256 c257 c258 c259 c260 c261 hexit hI)
  unfold FRB
  exact ⟨u19, u20, u151, u152, u153, u154, u155, u156, u157, u158, u159, u160, u161, u162, u163, u164, u165, u166, u167, u168, u169, u170, u171, u172, u173, u174, u175, u176, u177, u178, u179, u180, u181, u182, u183, u184, u185, u186, u187, u188, u189, u190, u191, u192, rfl⟩
end Go.Proofs.Ytlkkmpfhhfaioaa
