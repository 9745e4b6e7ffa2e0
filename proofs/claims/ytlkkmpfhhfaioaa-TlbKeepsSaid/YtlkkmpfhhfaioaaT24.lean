/- Layer 15: what is found was put: the loop behind a put. -/
import Derived.Test.YtlkkmpfhhfaioaaT23
import Derived.Deep.CutRange
namespace Go.Proofs.Ytlkkmpfhhfaioaa
open Go.RowKit
def loopsOfKA : Code → List Code
  | .loop c => [c]
  | .seq a b => loopsOfKA a ++ loopsOfKA b
  | .block _ c => loopsOfKA c
  | .scope c => loopsOfKA c
  | .cond _ a b => loopsOfKA a ++ loopsOfKA b
  | _ => []
noncomputable def bodyA : Code := (loopsOfKA (((Try.f4.body.map loopsOfKA).getD []).getD 0 .skip)).getD 0 .skip

set_option maxRecDepth 1000000 in
def FRA (c0 c1 c2 c3 c4 c5 c7 c10 c14 c15 c16 c17 c18 c19 c20 c21 c22 c23 c24 c25 c26 c27 c28 c29 c30 c31 c32 c33 c34 c35 c36 c37 c38 c39 c40 c41 c42 c43 c44 c45 c46 c47 c48 c49 c50 c51 c52 c53 c99 c100 c101 c102 c103 c104 c105 c106 c107 c108 c109 c110 c111 c112 c113 c114 c115 c116 c117 c118 c119 c120 c121 c122 c123 c124 c125 c126 c127 c128 c129 c130 c131 c132 c133 c134 c135 c136 c137 c138 c139 c140 c141 c142 c143 c144 c145 c146 c147 c148 c149 c150 c151 c152 c153 c154 c155 c156 c157 c158 c159 c160 c161 c162 c163 c164 c165 c166 c167 c168 c169 c170 c171 c172 c173 c174 c175 c176 c177 c178 c179 c180 c181 c182 c183 c184 c185 c186 c187 c188 c189 c190 c191 c192 c193 c194 c195 c196 c197 c198 c199 c200 c201 c202 c203 c204 c205 c206 c207 c208 c209 c210 c211 c212 c213 c214 c215 c216 c217 c218 c219 c220 c221 c222 c223 c224 c225 c226 c227 c228 c229 c230 c231 c232 c233 c234 c235 c236 c237 c238 c239 c240 c241 c242 c243 c244 c245 c246 c247 c248 c249 c250 c251 c252 c253 c254 c255 c256 c257 c258 c259 c260 c261 : Value) (j : Nat) (A11 : Option Addr) (cap11 : Nat) (P : List E) (P0 : E → Bool) (A6 : Option Addr) (cap6 xb be : Nat) (a : Act) : Prop := ∃ u13 : Value, ∃ u54 : Value, ∃ u55 : Value, ∃ u56 : Value, ∃ u57 : Value, ∃ u58 : Value, ∃ u59 : Value, ∃ u60 : Value, ∃ u61 : Value, ∃ u62 : Value, ∃ u63 : Value, ∃ u64 : Value, ∃ u65 : Value, ∃ u66 : Value, ∃ u67 : Value, ∃ u68 : Value, ∃ u69 : Value, ∃ u70 : Value, ∃ u71 : Value, ∃ u72 : Value, ∃ u73 : Value, ∃ u74 : Value, ∃ u75 : Value, ∃ u76 : Value, ∃ u77 : Value, ∃ u78 : Value, ∃ u79 : Value, ∃ u80 : Value, ∃ u81 : Value, ∃ u82 : Value, ∃ u83 : Value, ∃ u84 : Value, ∃ u85 : Value, ∃ u86 : Value, ∃ u87 : Value, ∃ u88 : Value, ∃ u89 : Value, ∃ u90 : Value, ∃ u91 : Value, ∃ u92 : Value, ∃ u93 : Value, ∃ u94 : Value, ∃ u95 : Value, ∃ u96 : Value, ∃ u97 : Value, ∃ u98 : Value, a = ⟨#[c0, c1, c2, c3, c4, c5, .slice A6 P.length cap6, c7, .pointer (some ⟨xb, 0, none⟩), .pointer (some ⟨be, 0, none⟩), c10, .slice A11 ((P.take j).filter P0).length cap11, .int .i64 (j : Int), u13, c14, c15, c16, c17, c18, c19, c20, c21, c22, c23, c24, c25, c26, c27, c28, c29, c30, c31, c32, c33, c34, c35, c36, c37, c38, c39, c40, c41, c42, c43, c44, c45, c46, c47, c48, c49, c50, c51, c52, c53, u54, u55, u56, u57, u58, u59, u60, u61, u62, u63, u64, u65, u66, u67, u68, u69, u70, u71, u72, u73, u74, u75, u76, u77, u78, u79, u80, u81, u82, u83, u84, u85, u86, u87, u88, u89, u90, u91, u92, u93, u94, u95, u96, u97, u98, c99, c100, c101, c102, c103, c104, c105, c106, c107, c108, c109, c110, c111, c112, c113, c114, c115, c116, c117, c118, c119, c120, c121, c122, c123, c124, c125, c126, c127, c128, c129, c130, c131, c132, c133, c134, c135, c136, c137, c138, c139, c140, c141, c142, c143, c144, c145, c146, c147, c148, c149, c150, c151, c152, c153, c154, c155, c156, c157, c158, c159, c160, c161, c162, c163, c164, c165, c166, c167, c168, c169, c170, c171, c172, c173, c174, c175, c176, c177, c178, c179, c180, c181, c182, c183, c184, c185, c186, c187, c188, c189, c190, c191, c192, c193, c194, c195, c196, c197, c198, c199, c200, c201, c202, c203, c204, c205, c206, c207, c208, c209, c210, c211, c212, c213, c214, c215, c216, c217, c218, c219, c220, c221, c222, c223, c224, c225, c226, c227, c228, c229, c230, c231, c232, c233, c234, c235, c236, c237, c238, c239, c240, c241, c242, c243, c244, c245, c246, c247, c248, c249, c250, c251, c252, c253, c254, c255, c256, c257, c258, c259, c260, c261], []⟩

def WIA (c0 c1 c2 c3 c4 c5 c7 c10 c14 c15 c16 c17 c18 c19 c20 c21 c22 c23 c24 c25 c26 c27 c28 c29 c30 c31 c32 c33 c34 c35 c36 c37 c38 c39 c40 c41 c42 c43 c44 c45 c46 c47 c48 c49 c50 c51 c52 c53 c99 c100 c101 c102 c103 c104 c105 c106 c107 c108 c109 c110 c111 c112 c113 c114 c115 c116 c117 c118 c119 c120 c121 c122 c123 c124 c125 c126 c127 c128 c129 c130 c131 c132 c133 c134 c135 c136 c137 c138 c139 c140 c141 c142 c143 c144 c145 c146 c147 c148 c149 c150 c151 c152 c153 c154 c155 c156 c157 c158 c159 c160 c161 c162 c163 c164 c165 c166 c167 c168 c169 c170 c171 c172 c173 c174 c175 c176 c177 c178 c179 c180 c181 c182 c183 c184 c185 c186 c187 c188 c189 c190 c191 c192 c193 c194 c195 c196 c197 c198 c199 c200 c201 c202 c203 c204 c205 c206 c207 c208 c209 c210 c211 c212 c213 c214 c215 c216 c217 c218 c219 c220 c221 c222 c223 c224 c225 c226 c227 c228 c229 c230 c231 c232 c233 c234 c235 c236 c237 c238 c239 c240 c241 c242 c243 c244 c245 c246 c247 c248 c249 c250 c251 c252 c253 c254 c255 c256 c257 c258 c259 c260 c261 : Value) (w : World) (P : List E) (P0 : E → Bool) (A6 : Option Addr) (cap6 b xb : Nat) (be : Nat) (sd : Int) (S : Slots) (at_ lv sp : Int) (gl : Bool) (lf : Int) (a : Act) (wr : World) : Prop := ∃ (j : Nat) (A11 : Option Addr) (cap11 : Nat), (j ≤ P.length ∧ Heap w wr (HP.slw (.slice A11 ((P.take j).filter P0).length cap11) 5 ((P.take j).filter P0).length (ecs ((P.take j).filter P0)) :: [HP.slw (.slice A6 P.length cap6) 5 P.length (ecs P), HP.tl b sd S, HP.blk be #[.int .u64 at_, .int .i64 lv, .int .u64 sp, .bool gl, .int .u64 lf] 36, HP.blk xb #[.int .i64 0, .int .u64 at_, .int .i64 lv, .int .u64 sp, .bool gl, .int .u64 lf] 30])) ∧ FRA c0 c1 c2 c3 c4 c5 c7 c10 c14 c15 c16 c17 c18 c19 c20 c21 c22 c23 c24 c25 c26 c27 c28 c29 c30 c31 c32 c33 c34 c35 c36 c37 c38 c39 c40 c41 c42 c43 c44 c45 c46 c47 c48 c49 c50 c51 c52 c53 c99 c100 c101 c102 c103 c104 c105 c106 c107 c108 c109 c110 c111 c112 c113 c114 c115 c116 c117 c118 c119 c120 c121 c122 c123 c124 c125 c126 c127 c128 c129 c130 c131 c132 c133 c134 c135 c136 c137 c138 c139 c140 c141 c142 c143 c144 c145 c146 c147 c148 c149 c150 c151 c152 c153 c154 c155 c156 c157 c158 c159 c160 c161 c162 c163 c164 c165 c166 c167 c168 c169 c170 c171 c172 c173 c174 c175 c176 c177 c178 c179 c180 c181 c182 c183 c184 c185 c186 c187 c188 c189 c190 c191 c192 c193 c194 c195 c196 c197 c198 c199 c200 c201 c202 c203 c204 c205 c206 c207 c208 c209 c210 c211 c212 c213 c214 c215 c216 c217 c218 c219 c220 c221 c222 c223 c224 c225 c226 c227 c228 c229 c230 c231 c232 c233 c234 c235 c236 c237 c238 c239 c240 c241 c242 c243 c244 c245 c246 c247 c248 c249 c250 c251 c252 c253 c254 c255 c256 c257 c258 c259 c260 c261 j A11 cap11 P P0 A6 cap6 xb be a
def WXA (c0 c1 c2 c3 c4 c5 c7 c10 c14 c15 c16 c17 c18 c19 c20 c21 c22 c23 c24 c25 c26 c27 c28 c29 c30 c31 c32 c33 c34 c35 c36 c37 c38 c39 c40 c41 c42 c43 c44 c45 c46 c47 c48 c49 c50 c51 c52 c53 c99 c100 c101 c102 c103 c104 c105 c106 c107 c108 c109 c110 c111 c112 c113 c114 c115 c116 c117 c118 c119 c120 c121 c122 c123 c124 c125 c126 c127 c128 c129 c130 c131 c132 c133 c134 c135 c136 c137 c138 c139 c140 c141 c142 c143 c144 c145 c146 c147 c148 c149 c150 c151 c152 c153 c154 c155 c156 c157 c158 c159 c160 c161 c162 c163 c164 c165 c166 c167 c168 c169 c170 c171 c172 c173 c174 c175 c176 c177 c178 c179 c180 c181 c182 c183 c184 c185 c186 c187 c188 c189 c190 c191 c192 c193 c194 c195 c196 c197 c198 c199 c200 c201 c202 c203 c204 c205 c206 c207 c208 c209 c210 c211 c212 c213 c214 c215 c216 c217 c218 c219 c220 c221 c222 c223 c224 c225 c226 c227 c228 c229 c230 c231 c232 c233 c234 c235 c236 c237 c238 c239 c240 c241 c242 c243 c244 c245 c246 c247 c248 c249 c250 c251 c252 c253 c254 c255 c256 c257 c258 c259 c260 c261 : Value) (w : World) (P : List E) (P0 : E → Bool) (A6 : Option Addr) (cap6 b xb : Nat) (be : Nat) (sd : Int) (S : Slots) (at_ lv sp : Int) (gl : Bool) (lf : Int) (a : Act) (wr : World) : Prop := ∃ (A11 : Option Addr) (cap11 : Nat), Heap w wr (HP.slw (.slice A11 (P.filter P0).length cap11) 5 (P.filter P0).length (ecs (P.filter P0)) :: [HP.slw (.slice A6 P.length cap6) 5 P.length (ecs P), HP.tl b sd S, HP.blk be #[.int .u64 at_, .int .i64 lv, .int .u64 sp, .bool gl, .int .u64 lf] 36, HP.blk xb #[.int .i64 0, .int .u64 at_, .int .i64 lv, .int .u64 sp, .bool gl, .int .u64 lf] 30]) ∧ FRA c0 c1 c2 c3 c4 c5 c7 c10 c14 c15 c16 c17 c18 c19 c20 c21 c22 c23 c24 c25 c26 c27 c28 c29 c30 c31 c32 c33 c34 c35 c36 c37 c38 c39 c40 c41 c42 c43 c44 c45 c46 c47 c48 c49 c50 c51 c52 c53 c99 c100 c101 c102 c103 c104 c105 c106 c107 c108 c109 c110 c111 c112 c113 c114 c115 c116 c117 c118 c119 c120 c121 c122 c123 c124 c125 c126 c127 c128 c129 c130 c131 c132 c133 c134 c135 c136 c137 c138 c139 c140 c141 c142 c143 c144 c145 c146 c147 c148 c149 c150 c151 c152 c153 c154 c155 c156 c157 c158 c159 c160 c161 c162 c163 c164 c165 c166 c167 c168 c169 c170 c171 c172 c173 c174 c175 c176 c177 c178 c179 c180 c181 c182 c183 c184 c185 c186 c187 c188 c189 c190 c191 c192 c193 c194 c195 c196 c197 c198 c199 c200 c201 c202 c203 c204 c205 c206 c207 c208 c209 c210 c211 c212 c213 c214 c215 c216 c217 c218 c219 c220 c221 c222 c223 c224 c225 c226 c227 c228 c229 c230 c231 c232 c233 c234 c235 c236 c237 c238 c239 c240 c241 c242 c243 c244 c245 c246 c247 c248 c249 c250 c251 c252 c253 c254 c255 c256 c257 c258 c259 c260 c261 P.length A11 cap11 P P0 A6 cap6 xb be a
def WmuA (K : Nat) (a : Act) (_ : World) : Nat := K - (intOf (a.tmps.getD 12 undef)).toNat
variable {w : World} {P : List E} {P0 : E → Bool} {A6 : Option Addr} {cap6 b xb be : Nat} {sd : Int} {S : Slots} {at_ lv sp : Int} {gl : Bool} {lf : Int}

set_option maxRecDepth 1000000 in
set_option maxHeartbeats 8000000 in
theorem oneA (hP0 : P0 = fun y => !eqk y (⟨at_, lv, sp, gl, lf⟩ : E)) (hPn : P.length ≤ 2932031007402) {j : Nat} {A11 : Option Addr} {cap11 : Nat} {wr : World} (hj : j ≤ P.length) (hK : Heap w wr (HP.slw (.slice A11 ((P.take j).filter P0).length cap11) 5 ((P.take j).filter P0).length (ecs ((P.take j).filter P0)) :: [HP.slw (.slice A6 P.length cap6) 5 P.length (ecs P), HP.tl b sd S, HP.blk be #[.int .u64 at_, .int .i64 lv, .int .u64 sp, .bool gl, .int .u64 lf] 36, HP.blk xb #[.int .i64 0, .int .u64 at_, .int .i64 lv, .int .u64 sp, .bool gl, .int .u64 lf] 30])) (hjl : j < P.length) (Q0 : Exit → Act → World → Prop) (c0 c1 c2 c3 c4 c5 c7 c10 c14 c15 c16 c17 c18 c19 c20 c21 c22 c23 c24 c25 c26 c27 c28 c29 c30 c31 c32 c33 c34 c35 c36 c37 c38 c39 c40 c41 c42 c43 c44 c45 c46 c47 c48 c49 c50 c51 c52 c53 c99 c100 c101 c102 c103 c104 c105 c106 c107 c108 c109 c110 c111 c112 c113 c114 c115 c116 c117 c118 c119 c120 c121 c122 c123 c124 c125 c126 c127 c128 c129 c130 c131 c132 c133 c134 c135 c136 c137 c138 c139 c140 c141 c142 c143 c144 c145 c146 c147 c148 c149 c150 c151 c152 c153 c154 c155 c156 c157 c158 c159 c160 c161 c162 c163 c164 c165 c166 c167 c168 c169 c170 c171 c172 c173 c174 c175 c176 c177 c178 c179 c180 c181 c182 c183 c184 c185 c186 c187 c188 c189 c190 c191 c192 c193 c194 c195 c196 c197 c198 c199 c200 c201 c202 c203 c204 c205 c206 c207 c208 c209 c210 c211 c212 c213 c214 c215 c216 c217 c218 c219 c220 c221 c222 c223 c224 c225 c226 c227 c228 c229 c230 c231 c232 c233 c234 c235 c236 c237 c238 c239 c240 c241 c242 c243 c244 c245 c246 c247 c248 c249 c250 c251 c252 c253 c254 c255 c256 c257 c258 c259 c260 c261 u13 u54 u55 u56 u57 u58 u59 u60 u61 u62 u63 u64 u65 u66 u67 u68 u69 u70 u71 u72 u73 u74 u75 u76 u77 u78 u79 u80 u81 u82 u83 u84 u85 u86 u87 u88 u89 u90 u91 u92 u93 u94 u95 u96 u97 u98 : Value) :
    Code.wp Try.prog bodyA (Exit.then (fun a' w'' => WIA c0 c1 c2 c3 c4 c5 c7 c10 c14 c15 c16 c17 c18 c19 c20 c21 c22 c23 c24 c25 c26 c27 c28 c29 c30 c31 c32 c33 c34 c35 c36 c37 c38 c39 c40 c41 c42 c43 c44 c45 c46 c47 c48 c49 c50 c51 c52 c53 c99 c100 c101 c102 c103 c104 c105 c106 c107 c108 c109 c110 c111 c112 c113 c114 c115 c116 c117 c118 c119 c120 c121 c122 c123 c124 c125 c126 c127 c128 c129 c130 c131 c132 c133 c134 c135 c136 c137 c138 c139 c140 c141 c142 c143 c144 c145 c146 c147 c148 c149 c150 c151 c152 c153 c154 c155 c156 c157 c158 c159 c160 c161 c162 c163 c164 c165 c166 c167 c168 c169 c170 c171 c172 c173 c174 c175 c176 c177 c178 c179 c180 c181 c182 c183 c184 c185 c186 c187 c188 c189 c190 c191 c192 c193 c194 c195 c196 c197 c198 c199 c200 c201 c202 c203 c204 c205 c206 c207 c208 c209 c210 c211 c212 c213 c214 c215 c216 c217 c218 c219 c220 c221 c222 c223 c224 c225 c226 c227 c228 c229 c230 c231 c232 c233 c234 c235 c236 c237 c238 c239 c240 c241 c242 c243 c244 c245 c246 c247 c248 c249 c250 c251 c252 c253 c254 c255 c256 c257 c258 c259 c260 c261 w P P0 A6 cap6 b xb be sd S at_ lv sp gl lf a' w'' ∧ WmuA P.length a' w'' < P.length - j) Q0) ⟨#[c0, c1, c2, c3, c4, c5, .slice A6 P.length cap6, c7, .pointer (some ⟨xb, 0, none⟩), .pointer (some ⟨be, 0, none⟩), c10, .slice A11 ((P.take j).filter P0).length cap11, .int .i64 (j : Int), u13, c14, c15, c16, c17, c18, c19, c20, c21, c22, c23, c24, c25, c26, c27, c28, c29, c30, c31, c32, c33, c34, c35, c36, c37, c38, c39, c40, c41, c42, c43, c44, c45, c46, c47, c48, c49, c50, c51, c52, c53, u54, u55, u56, u57, u58, u59, u60, u61, u62, u63, u64, u65, u66, u67, u68, u69, u70, u71, u72, u73, u74, u75, u76, u77, u78, u79, u80, u81, u82, u83, u84, u85, u86, u87, u88, u89, u90, u91, u92, u93, u94, u95, u96, u97, u98, c99, c100, c101, c102, c103, c104, c105, c106, c107, c108, c109, c110, c111, c112, c113, c114, c115, c116, c117, c118, c119, c120, c121, c122, c123, c124, c125, c126, c127, c128, c129, c130, c131, c132, c133, c134, c135, c136, c137, c138, c139, c140, c141, c142, c143, c144, c145, c146, c147, c148, c149, c150, c151, c152, c153, c154, c155, c156, c157, c158, c159, c160, c161, c162, c163, c164, c165, c166, c167, c168, c169, c170, c171, c172, c173, c174, c175, c176, c177, c178, c179, c180, c181, c182, c183, c184, c185, c186, c187, c188, c189, c190, c191, c192, c193, c194, c195, c196, c197, c198, c199, c200, c201, c202, c203, c204, c205, c206, c207, c208, c209, c210, c211, c212, c213, c214, c215, c216, c217, c218, c219, c220, c221, c222, c223, c224, c225, c226, c227, c228, c229, c230, c231, c232, c233, c234, c235, c236, c237, c238, c239, c240, c241, c242, c243, c244, c245, c246, c247, c248, c249, c250, c251, c252, c253, c254, c255, c256, c257, c258, c259, c260, c261], []⟩ wr := by
  conv => arg 2; whnf
  have HP0 := hide hP0
  obtain ⟨y, hy⟩ : ∃ y, P[j]? = some y := ⟨_, List.getElem?_eq_getElem hjl⟩
  have HE := hide hy

  have hfl : ((P.take j).filter P0).length ≤ P.length := Nat.le_trans (List.length_filter_le _ _) (by rw [List.length_take]; omega)
  obtain ⟨g, o, _, h1, hgl, _, d0, d1, d2, d3, d4⟩ := cellsE hK.f2.slw hy
  injection h1 with hA1 _ hA2
  subst hA1 hA2
  obtain ⟨yat, ylv, ysp, ygl, ylf⟩ := y
  simp only at d0 d1 d2 d3 d4
  obtain ⟨i0, hi, hz0, hz1, hz2⟩ := info_parts info36
  have hone := cs_one ⟨yat, ylv, ysp, ygl, ylf⟩
  have K1 := hK.new #[.int .u64 yat, .int .i64 ylv, .int .u64 ysp, .bool ygl, .int .u64 ylf] 36
  have c5 := cells5 K1.heap
  have e5 := cells5 K1.f5.heap
  have hyl := lt_of_heap' K1.heap
  have hel := lt_of_heap' K1.f5.heap
  clear hy hK hP0
  obtain ⟨yb, hyb⟩ : ∃ yb, wr.heap.size = yb := ⟨_, rfl⟩
  rw [hyb] at K1 hyl c5
  go_upto_region 18 with fail
  go_cut [94] from 54 to 98 (fun s wx => s = .bool (P0 (⟨yat, ylv, ysp, ygl, ylf⟩ : E)) ∧ Heap w wx (HP.blk yb #[.int .u64 yat, .int .i64 ylv, .int .u64 ysp, .bool ygl, .int .u64 ylf] 36 :: HP.slw (.slice A11 ((P.take j).filter P0).length cap11) 5 ((P.take j).filter P0).length (ecs ((P.take j).filter P0)) :: [HP.slw (.slice (some ⟨g, o, none⟩) P.length cap6) 5 P.length (ecs P), HP.tl b sd S, HP.blk be #[.int .u64 at_, .int .i64 lv, .int .u64 sp, .bool gl, .int .u64 lf] 36, HP.blk xb #[.int .i64 0, .int .u64 at_, .int .i64 lv, .int .u64 sp, .bool gl, .int .u64 lf] 30]))
  case first =>
    as_aux_lemma =>
      obtain ⟨pv, hpv⟩ : ∃ b, P0 (⟨yat, ylv, ysp, ygl, ylf⟩ : E) = b := ⟨_, rfl⟩
      have Hpv := hide hpv
      clear hpv
      by_cases q1 : yat = at_
      · have z1 : (yat != at_) = false := by simp [q1]
        have y1 : (yat == at_) = true := by simp [q1]
        by_cases q2 : ylv = lv
        · have z2 : (ylv != lv) = false := by simp [q2]
          have y2 : (ylv == lv) = true := by simp [q2]
          cases ygl with
          | true =>
            cases gl with
            | true =>
              have hv : pv = false := by
                rw [← unhide Hpv]
                rw [unhide HP0]; simp [eqk, *]
              have Hv := hide hv
              clear hv q1 q2 y1 y2
              go_wp2
              go_meet
              exact ⟨by rw [unhide Hpv, unhide Hv], K1⟩
            | false =>
              have hv : pv = true := by
                rw [← unhide Hpv]
                rw [unhide HP0]; simp [eqk, *]
              have Hv := hide hv
              clear hv q1 q2 y1 y2
              go_wp2
              go_meet
              exact ⟨by rw [unhide Hpv, unhide Hv], K1⟩
          | false =>
            cases gl with
            | true =>
              have hv : pv = true := by
                rw [← unhide Hpv]
                rw [unhide HP0]; simp [eqk, *]
              have Hv := hide hv
              clear hv q1 q2 y1 y2
              go_wp2
              go_meet
              exact ⟨by rw [unhide Hpv, unhide Hv], K1⟩
            | false =>
              by_cases q3 : ysp = sp
              · have z3 : (ysp != sp) = false := by simp [q3]
                have y3 : (ysp == sp) = true := by simp [q3]
                have hv : pv = false := by
                  rw [← unhide Hpv]
                  rw [unhide HP0]; simp [eqk, *]
                have Hv := hide hv
                clear hv q1 q2 q3 y1 y2 y3
                go_wp2
                go_meet
                exact ⟨by rw [unhide Hpv, unhide Hv], K1⟩
              · have z3 : (ysp != sp) = true := by simp [q3]
                have y3 : (ysp == sp) = false := by simp [q3]
                have hv : pv = true := by
                  rw [← unhide Hpv]
                  rw [unhide HP0]; simp [eqk, *]
                have Hv := hide hv
                clear hv q1 q2 q3 y1 y2 y3
                go_wp2
                go_meet
                exact ⟨by rw [unhide Hpv, unhide Hv], K1⟩
        · have z2 : (ylv != lv) = true := by simp [q2]
          have y2 : (ylv == lv) = false := by simp [q2]
          have hv : pv = true := by
            rw [← unhide Hpv]
            rw [unhide HP0]; simp [eqk, *]
          have Hv := hide hv
          clear hv q1 q2 y1 y2
          go_wp2
          go_meet
          exact ⟨by rw [unhide Hpv, unhide Hv], K1⟩
      · have z1 : (yat != at_) = true := by simp [q1]
        have y1 : (yat == at_) = false := by simp [q1]
        have hv : pv = true := by
          rw [← unhide Hpv]
          rw [unhide HP0]; simp [eqk, *]
        have Hv := hide hv
        clear hv q1 y1
        go_wp2
        go_meet
        exact ⟨by rw [unhide Hpv, unhide Hv], K1⟩
  case rest =>
    obtain ⟨rfl, K1⟩ := hcut
    have c5 := cells5 K1.heap
    have hyl := lt_of_heap' K1.heap
    cases hpk : P0 (⟨yat, ylv, ysp, ygl, ylf⟩ : E) with
    | true =>
      have Hpk := hide hpk
      clear hpk
      go_wp2_with (at_builtin; refine wpList_append_sl rfl _ _ 46 rfl 36 i0 _ 5 40 Try.underlying46 hi hz0 hz1 hz2 rfl rfl rfl (K1.f2.slw.alloc _) (Sl.five _ 36 (⟨yat, ylv, ysp, ygl, ylf⟩ : E) (by simp)) hone (by omega) (by omega) ?_; intro v' w' hsl hgr hblk hsp)
      obtain ⟨A', cap', rfl, _⟩ := hsl.parts
      have K2 : Heap w w' (HP.slw (.slice A' (((P.take j).filter P0).length + 1) cap') 5 ((P.take (j + 1)).filter P0).length (ecs ((P.take (j + 1)).filter P0)) :: [HP.slw (.slice (some ⟨g, o, none⟩) P.length cap6) 5 P.length (ecs P), HP.tl b sd S, HP.blk be #[.int .u64 at_, .int .i64 lv, .int .u64 sp, .bool gl, .int .u64 lf] 36, HP.blk xb #[.int .i64 0, .int .u64 at_, .int .i64 lv, .int .u64 sp, .bool gl, .int .u64 lf] 30]) := by
        rw [take_keep (unhide HE) (unhide Hpk), ecs_snoc, List.length_append]
        exact (K1.tail.alloc _).appendw hsl hgr hblk
      go_wp2
      have HL1 := hide (len_keep (unhide HE) (unhide Hpk))
      have e12 : (j : Int) + 1 = ((j + 1 : Nat) : Int) := rfl
      try rw [e12]
      refine ⟨⟨j + 1, A', cap', ⟨by omega, by rw [unhide HL1] at K2 ⊢; exact K2⟩, ?_⟩, by simp [WmuA, intOf]; omega⟩
      unfold FRA
      rw [unhide HL1]
      refine ⟨_, _, _, _, _, _, _, _, _, _, _, _, _, _, _, _, _, _, _, _, _, _, _, _, _, _, _, _, _, _, _, _, _, _, _, _, _, _, _, _, _, _, _, _, _, _, rfl⟩
    | false =>
      have Hpk := hide hpk
      clear hpk
      go_wp2
      have e12 : (j : Int) + 1 = ((j + 1 : Nat) : Int) := rfl
      try rw [e12]
      refine ⟨⟨j + 1, A11, cap11, ⟨by omega, by rw [take_drop (unhide HE) (unhide Hpk)]; exact K1.tail⟩, ?_⟩, by simp [WmuA, intOf]; omega⟩
      unfold FRA
      rw [take_drop (unhide HE) (unhide Hpk)]
      refine ⟨_, _, _, _, _, _, _, _, _, _, _, _, _, _, _, _, _, _, _, _, _, _, _, _, _, _, _, _, _, _, _, _, _, _, _, _, _, _, _, _, _, _, _, _, _, _, rfl⟩
set_option maxRecDepth 1000000 in
set_option maxHeartbeats 8000000 in
theorem roundA (hP0 : P0 = fun y => !eqk y (⟨at_, lv, sp, gl, lf⟩ : E)) (hPn : P.length ≤ 2932031007402) (Q0 : Exit → Act → World → Prop) (c0 c1 c2 c3 c4 c5 c7 c10 c14 c15 c16 c17 c18 c19 c20 c21 c22 c23 c24 c25 c26 c27 c28 c29 c30 c31 c32 c33 c34 c35 c36 c37 c38 c39 c40 c41 c42 c43 c44 c45 c46 c47 c48 c49 c50 c51 c52 c53 c99 c100 c101 c102 c103 c104 c105 c106 c107 c108 c109 c110 c111 c112 c113 c114 c115 c116 c117 c118 c119 c120 c121 c122 c123 c124 c125 c126 c127 c128 c129 c130 c131 c132 c133 c134 c135 c136 c137 c138 c139 c140 c141 c142 c143 c144 c145 c146 c147 c148 c149 c150 c151 c152 c153 c154 c155 c156 c157 c158 c159 c160 c161 c162 c163 c164 c165 c166 c167 c168 c169 c170 c171 c172 c173 c174 c175 c176 c177 c178 c179 c180 c181 c182 c183 c184 c185 c186 c187 c188 c189 c190 c191 c192 c193 c194 c195 c196 c197 c198 c199 c200 c201 c202 c203 c204 c205 c206 c207 c208 c209 c210 c211 c212 c213 c214 c215 c216 c217 c218 c219 c220 c221 c222 c223 c224 c225 c226 c227 c228 c229 c230 c231 c232 c233 c234 c235 c236 c237 c238 c239 c240 c241 c242 c243 c244 c245 c246 c247 c248 c249 c250 c251 c252 c253 c254 c255 c256 c257 c258 c259 c260 c261 : Value) (hexit : ∀ a' w'', WXA c0 c1 c2 c3 c4 c5 c7 c10 c14 c15 c16 c17 c18 c19 c20 c21 c22 c23 c24 c25 c26 c27 c28 c29 c30 c31 c32 c33 c34 c35 c36 c37 c38 c39 c40 c41 c42 c43 c44 c45 c46 c47 c48 c49 c50 c51 c52 c53 c99 c100 c101 c102 c103 c104 c105 c106 c107 c108 c109 c110 c111 c112 c113 c114 c115 c116 c117 c118 c119 c120 c121 c122 c123 c124 c125 c126 c127 c128 c129 c130 c131 c132 c133 c134 c135 c136 c137 c138 c139 c140 c141 c142 c143 c144 c145 c146 c147 c148 c149 c150 c151 c152 c153 c154 c155 c156 c157 c158 c159 c160 c161 c162 c163 c164 c165 c166 c167 c168 c169 c170 c171 c172 c173 c174 c175 c176 c177 c178 c179 c180 c181 c182 c183 c184 c185 c186 c187 c188 c189 c190 c191 c192 c193 c194 c195 c196 c197 c198 c199 c200 c201 c202 c203 c204 c205 c206 c207 c208 c209 c210 c211 c212 c213 c214 c215 c216 c217 c218 c219 c220 c221 c222 c223 c224 c225 c226 c227 c228 c229 c230 c231 c232 c233 c234 c235 c236 c237 c238 c239 c240 c241 c242 c243 c244 c245 c246 c247 c248 c249 c250 c251 c252 c253 c254 c255 c256 c257 c258 c259 c260 c261 w P P0 A6 cap6 b xb be sd S at_ lv sp gl lf a' w'' → Q0 (.exit 2) a' w'') {a : Act} {wr : World} (hI : WIA c0 c1 c2 c3 c4 c5 c7 c10 c14 c15 c16 c17 c18 c19 c20 c21 c22 c23 c24 c25 c26 c27 c28 c29 c30 c31 c32 c33 c34 c35 c36 c37 c38 c39 c40 c41 c42 c43 c44 c45 c46 c47 c48 c49 c50 c51 c52 c53 c99 c100 c101 c102 c103 c104 c105 c106 c107 c108 c109 c110 c111 c112 c113 c114 c115 c116 c117 c118 c119 c120 c121 c122 c123 c124 c125 c126 c127 c128 c129 c130 c131 c132 c133 c134 c135 c136 c137 c138 c139 c140 c141 c142 c143 c144 c145 c146 c147 c148 c149 c150 c151 c152 c153 c154 c155 c156 c157 c158 c159 c160 c161 c162 c163 c164 c165 c166 c167 c168 c169 c170 c171 c172 c173 c174 c175 c176 c177 c178 c179 c180 c181 c182 c183 c184 c185 c186 c187 c188 c189 c190 c191 c192 c193 c194 c195 c196 c197 c198 c199 c200 c201 c202 c203 c204 c205 c206 c207 c208 c209 c210 c211 c212 c213 c214 c215 c216 c217 c218 c219 c220 c221 c222 c223 c224 c225 c226 c227 c228 c229 c230 c231 c232 c233 c234 c235 c236 c237 c238 c239 c240 c241 c242 c243 c244 c245 c246 c247 c248 c249 c250 c251 c252 c253 c254 c255 c256 c257 c258 c259 c260 c261 w P P0 A6 cap6 b xb be sd S at_ lv sp gl lf a wr) :
    Code.wp Try.prog bodyA (Exit.then (fun a' w'' => WIA c0 c1 c2 c3 c4 c5 c7 c10 c14 c15 c16 c17 c18 c19 c20 c21 c22 c23 c24 c25 c26 c27 c28 c29 c30 c31 c32 c33 c34 c35 c36 c37 c38 c39 c40 c41 c42 c43 c44 c45 c46 c47 c48 c49 c50 c51 c52 c53 c99 c100 c101 c102 c103 c104 c105 c106 c107 c108 c109 c110 c111 c112 c113 c114 c115 c116 c117 c118 c119 c120 c121 c122 c123 c124 c125 c126 c127 c128 c129 c130 c131 c132 c133 c134 c135 c136 c137 c138 c139 c140 c141 c142 c143 c144 c145 c146 c147 c148 c149 c150 c151 c152 c153 c154 c155 c156 c157 c158 c159 c160 c161 c162 c163 c164 c165 c166 c167 c168 c169 c170 c171 c172 c173 c174 c175 c176 c177 c178 c179 c180 c181 c182 c183 c184 c185 c186 c187 c188 c189 c190 c191 c192 c193 c194 c195 c196 c197 c198 c199 c200 c201 c202 c203 c204 c205 c206 c207 c208 c209 c210 c211 c212 c213 c214 c215 c216 c217 c218 c219 c220 c221 c222 c223 c224 c225 c226 c227 c228 c229 c230 c231 c232 c233 c234 c235 c236 c237 c238 c239 c240 c241 c242 c243 c244 c245 c246 c247 c248 c249 c250 c251 c252 c253 c254 c255 c256 c257 c258 c259 c260 c261 w P P0 A6 cap6 b xb be sd S at_ lv sp gl lf a' w'' ∧ WmuA P.length a' w'' < WmuA P.length a wr) Q0) a wr := by
  obtain ⟨j, A11, cap11, ⟨hj, hK⟩, hF⟩ := hI
  unfold FRA at hF
  obtain ⟨u13, hF⟩ := hF
  obtain ⟨u54, hF⟩ := hF
  obtain ⟨u55, hF⟩ := hF
  obtain ⟨u56, hF⟩ := hF
  obtain ⟨u57, hF⟩ := hF
  obtain ⟨u58, hF⟩ := hF
  obtain ⟨u59, hF⟩ := hF
  obtain ⟨u60, hF⟩ := hF
  obtain ⟨u61, hF⟩ := hF
  obtain ⟨u62, hF⟩ := hF
  obtain ⟨u63, hF⟩ := hF
  obtain ⟨u64, hF⟩ := hF
  obtain ⟨u65, hF⟩ := hF
  obtain ⟨u66, hF⟩ := hF
  obtain ⟨u67, hF⟩ := hF
  obtain ⟨u68, hF⟩ := hF
  obtain ⟨u69, hF⟩ := hF
  obtain ⟨u70, hF⟩ := hF
  obtain ⟨u71, hF⟩ := hF
  obtain ⟨u72, hF⟩ := hF
  obtain ⟨u73, hF⟩ := hF
  obtain ⟨u74, hF⟩ := hF
  obtain ⟨u75, hF⟩ := hF
  obtain ⟨u76, hF⟩ := hF
  obtain ⟨u77, hF⟩ := hF
  obtain ⟨u78, hF⟩ := hF
  obtain ⟨u79, hF⟩ := hF
  obtain ⟨u80, hF⟩ := hF
  obtain ⟨u81, hF⟩ := hF
  obtain ⟨u82, hF⟩ := hF
  obtain ⟨u83, hF⟩ := hF
  obtain ⟨u84, hF⟩ := hF
  obtain ⟨u85, hF⟩ := hF
  obtain ⟨u86, hF⟩ := hF
  obtain ⟨u87, hF⟩ := hF
  obtain ⟨u88, hF⟩ := hF
  obtain ⟨u89, hF⟩ := hF
  obtain ⟨u90, hF⟩ := hF
  obtain ⟨u91, hF⟩ := hF
  obtain ⟨u92, hF⟩ := hF
  obtain ⟨u93, hF⟩ := hF
  obtain ⟨u94, hF⟩ := hF
  obtain ⟨u95, hF⟩ := hF
  obtain ⟨u96, hF⟩ := hF
  obtain ⟨u97, hF⟩ := hF
  obtain ⟨u98, hF⟩ := hF
  subst hF
  by_cases hjl : j < P.length
  · exact oneA hP0 hPn hj hK hjl Q0 _ _ _ _ _ _ _ _ _ _ _ _ _ _ _ _ _ _ _ _ _ _ _ _ _ _ _ _ _ _ _ _ _ _ _ _ _ _ _ _ _ _ _ _ _ _ _ _ _ _ _ _ _ _ _ _ _ _ _ _ _ _ _ _ _ _ _ _ _ _ _ _ _ _ _ _ _ _ _ _ _ _ _ _ _ _ _ _ _ _ _ _ _ _ _ _ _ _ _ _ _ _ _ _ _ _ _ _ _ _ _ _ _ _ _ _ _ _ _ _ _ _ _ _ _ _ _ _ _ _ _ _ _ _ _ _ _ _ _ _ _ _ _ _ _ _ _ _ _ _ _ _ _ _ _ _ _ _ _ _ _ _ _ _ _ _ _ _ _ _ _ _ _ _ _ _ _ _ _ _ _ _ _ _ _ _ _ _ _ _ _ _ _ _ _ _ _ _ _ _ _ _ _ _ _ _ _ _ _ _ _ _ _ _ _ _ _ _ _ _ _ _ _ _ _ _ _ _ _ _ _ _ _ _ _ _ _ _ _ _ _ _ _ _ _ _ _ _ _ _ _ _ _ _ _ _ _
  · obtain rfl : j = P.length := by omega
    have HK := hide hK
    clear hK hP0 
    conv => arg 2; whnf
    go_wp2
    refine ⟨A11, cap11, ?_, ?_⟩
    · have := unhide HK
      rw [List.take_length] at this
      exact this
    · unfold FRA
      try rw [List.take_length]
      refine ⟨_, _, _, _, _, _, _, _, _, _, _, _, _, _, _, _, _, _, _, _, _, _, _, _, _, _, _, _, _, _, _, _, _, _, _, _, _, _, _, _, _, _, _, _, _, _, rfl⟩
set_option maxRecDepth 1000000 in
theorem loopA (hP0 : P0 = fun y => !eqk y (⟨at_, lv, sp, gl, lf⟩ : E)) (hPn : P.length ≤ 2932031007402) (Q0 : Exit → Act → World → Prop) (c0 c1 c2 c3 c4 c5 c7 c10 c14 c15 c16 c17 c18 c19 c20 c21 c22 c23 c24 c25 c26 c27 c28 c29 c30 c31 c32 c33 c34 c35 c36 c37 c38 c39 c40 c41 c42 c43 c44 c45 c46 c47 c48 c49 c50 c51 c52 c53 c99 c100 c101 c102 c103 c104 c105 c106 c107 c108 c109 c110 c111 c112 c113 c114 c115 c116 c117 c118 c119 c120 c121 c122 c123 c124 c125 c126 c127 c128 c129 c130 c131 c132 c133 c134 c135 c136 c137 c138 c139 c140 c141 c142 c143 c144 c145 c146 c147 c148 c149 c150 c151 c152 c153 c154 c155 c156 c157 c158 c159 c160 c161 c162 c163 c164 c165 c166 c167 c168 c169 c170 c171 c172 c173 c174 c175 c176 c177 c178 c179 c180 c181 c182 c183 c184 c185 c186 c187 c188 c189 c190 c191 c192 c193 c194 c195 c196 c197 c198 c199 c200 c201 c202 c203 c204 c205 c206 c207 c208 c209 c210 c211 c212 c213 c214 c215 c216 c217 c218 c219 c220 c221 c222 c223 c224 c225 c226 c227 c228 c229 c230 c231 c232 c233 c234 c235 c236 c237 c238 c239 c240 c241 c242 c243 c244 c245 c246 c247 c248 c249 c250 c251 c252 c253 c254 c255 c256 c257 c258 c259 c260 c261 : Value) {A11 : Option Addr} {cap11 : Nat} {wr : World} (hK : Heap w wr (HP.slw (.slice A11 0 cap11) 5 0 [] :: [HP.slw (.slice A6 P.length cap6) 5 P.length (ecs P), HP.tl b sd S, HP.blk be #[.int .u64 at_, .int .i64 lv, .int .u64 sp, .bool gl, .int .u64 lf] 36, HP.blk xb #[.int .i64 0, .int .u64 at_, .int .i64 lv, .int .u64 sp, .bool gl, .int .u64 lf] 30])) (u13 u54 u55 u56 u57 u58 u59 u60 u61 u62 u63 u64 u65 u66 u67 u68 u69 u70 u71 u72 u73 u74 u75 u76 u77 u78 u79 u80 u81 u82 u83 u84 u85 u86 u87 u88 u89 u90 u91 u92 u93 u94 u95 u96 u97 u98 : Value) (hexit : ∀ a' w'', WXA c0 c1 c2 c3 c4 c5 c7 c10 c14 c15 c16 c17 c18 c19 c20 c21 c22 c23 c24 c25 c26 c27 c28 c29 c30 c31 c32 c33 c34 c35 c36 c37 c38 c39 c40 c41 c42 c43 c44 c45 c46 c47 c48 c49 c50 c51 c52 c53 c99 c100 c101 c102 c103 c104 c105 c106 c107 c108 c109 c110 c111 c112 c113 c114 c115 c116 c117 c118 c119 c120 c121 c122 c123 c124 c125 c126 c127 c128 c129 c130 c131 c132 c133 c134 c135 c136 c137 c138 c139 c140 c141 c142 c143 c144 c145 c146 c147 c148 c149 c150 c151 c152 c153 c154 c155 c156 c157 c158 c159 c160 c161 c162 c163 c164 c165 c166 c167 c168 c169 c170 c171 c172 c173 c174 c175 c176 c177 c178 c179 c180 c181 c182 c183 c184 c185 c186 c187 c188 c189 c190 c191 c192 c193 c194 c195 c196 c197 c198 c199 c200 c201 c202 c203 c204 c205 c206 c207 c208 c209 c210 c211 c212 c213 c214 c215 c216 c217 c218 c219 c220 c221 c222 c223 c224 c225 c226 c227 c228 c229 c230 c231 c232 c233 c234 c235 c236 c237 c238 c239 c240 c241 c242 c243 c244 c245 c246 c247 c248 c249 c250 c251 c252 c253 c254 c255 c256 c257 c258 c259 c260 c261 w P P0 A6 cap6 b xb be sd S at_ lv sp gl lf a' w'' → Q0 (.exit 2) a' w'') :
    Code.wp Try.prog (Code.loop bodyA) Q0 ⟨#[c0, c1, c2, c3, c4, c5, .slice A6 P.length cap6, c7, .pointer (some ⟨xb, 0, none⟩), .pointer (some ⟨be, 0, none⟩), c10, .slice A11 0 cap11, .int .i64 ((0 : Nat) : Int), u13, c14, c15, c16, c17, c18, c19, c20, c21, c22, c23, c24, c25, c26, c27, c28, c29, c30, c31, c32, c33, c34, c35, c36, c37, c38, c39, c40, c41, c42, c43, c44, c45, c46, c47, c48, c49, c50, c51, c52, c53, u54, u55, u56, u57, u58, u59, u60, u61, u62, u63, u64, u65, u66, u67, u68, u69, u70, u71, u72, u73, u74, u75, u76, u77, u78, u79, u80, u81, u82, u83, u84, u85, u86, u87, u88, u89, u90, u91, u92, u93, u94, u95, u96, u97, u98, c99, c100, c101, c102, c103, c104, c105, c106, c107, c108, c109, c110, c111, c112, c113, c114, c115, c116, c117, c118, c119, c120, c121, c122, c123, c124, c125, c126, c127, c128, c129, c130, c131, c132, c133, c134, c135, c136, c137, c138, c139, c140, c141, c142, c143, c144, c145, c146, c147, c148, c149, c150, c151, c152, c153, c154, c155, c156, c157, c158, c159, c160, c161, c162, c163, c164, c165, c166, c167, c168, c169, c170, c171, c172, c173, c174, c175, c176, c177, c178, c179, c180, c181, c182, c183, c184, c185, c186, c187, c188, c189, c190, c191, c192, c193, c194, c195, c196, c197, c198, c199, c200, c201, c202, c203, c204, c205, c206, c207, c208, c209, c210, c211, c212, c213, c214, c215, c216, c217, c218, c219, c220, c221, c222, c223, c224, c225, c226, c227, c228, c229, c230, c231, c232, c233, c234, c235, c236, c237, c238, c239, c240, c241, c242, c243, c244, c245, c246, c247, c248, c249, c250, c251, c252, c253, c254, c255, c256, c257, c258, c259, c260, c261], []⟩ wr := by
  refine wp_loop (WIA c0 c1 c2 c3 c4 c5 c7 c10 c14 c15 c16 c17 c18 c19 c20 c21 c22 c23 c24 c25 c26 c27 c28 c29 c30 c31 c32 c33 c34 c35 c36 c37 c38 c39 c40 c41 c42 c43 c44 c45 c46 c47 c48 c49 c50 c51 c52 c53 c99 c100 c101 c102 c103 c104 c105 c106 c107 c108 c109 c110 c111 c112 c113 c114 c115 c116 c117 c118 c119 c120 c121 c122 c123 c124 c125 c126 c127 c128 c129 c130 c131 c132 c133 c134 c135 c136 c137 c138 c139 c140 c141 c142 c143 c144 c145 c146 c147 c148 c149 c150 c151 c152 c153 c154 c155 c156 c157 c158 c159 c160 c161 c162 c163 c164 c165 c166 c167 c168 c169 c170 c171 c172 c173 c174 c175 c176 c177 c178 c179 c180 c181 c182 c183 c184 c185 c186 c187 c188 c189 c190 c191 c192 c193 c194 c195 c196 c197 c198 c199 c200 c201 c202 c203 c204 c205 c206 c207 c208 c209 c210 c211 c212 c213 c214 c215 c216 c217 c218 c219 c220 c221 c222 c223 c224 c225 c226 c227 c228 c229 c230 c231 c232 c233 c234 c235 c236 c237 c238 c239 c240 c241 c242 c243 c244 c245 c246 c247 c248 c249 c250 c251 c252 c253 c254 c255 c256 c257 c258 c259 c260 c261 w P P0 A6 cap6 b xb be sd S at_ lv sp gl lf) (WmuA P.length) ⟨0, A11, cap11, ⟨Nat.zero_le _, hK⟩, ?_⟩ (fun a w'' hI => roundA hP0 hPn Q0 c0 c1 c2 c3 c4 c5 c7 c10 c14 c15 c16 c17 c18 c19 c20 c21 c22 c23 c24 c25 c26 c27 c28 c29 c30 c31 c32 c33 c34 c35 c36 c37 c38 c39 c40 c41 c42 c43 c44 c45 c46 c47 c48 c49 c50 c51 c52 c53 c99 c100 c101 c102 c103 c104 c105 c106 c107 c108 c109 c110 c111 c112 c113 c114 c115 c116 c117 c118 c119 c120 c121 c122 c123 c124 c125 c126 c127 c128 c129 c130 c131 c132 c133 c134 c135 c136 c137 c138 c139 c140 c141 c142 c143 c144 c145 c146 c147 c148 c149 c150 c151 c152 c153 c154 c155 c156 c157 c158 c159 c160 c161 c162 c163 c164 c165 c166 c167 c168 c169 c170 c171 c172 c173 c174 c175 c176 c177 c178 c179 c180 c181 c182 c183 c184 c185 c186 c187 c188 c189 c190 c191 c192 c193 c194 c195 c196 c197 c198 c199 c200 c201 c202 c203 c204 c205 c206 c207 c208 c209 c210 c211 c212 c213 c214 c215 c216 c217 c218 c219 c220 c221 c222 c223 c224 c225 c226 c227 c228 c229 c230 c231 c232 c233 c234 c235 c236 c237 c238 c239 c240 c241 c242 c243 c244 c245 c246 c247 c248 c249 c250 c251 c252 c253 c254 c255 c256 c257 c258 c259 c260 c261 hexit hI)
  unfold FRA
  exact ⟨u13, u54, u55, u56, u57, u58, u59, u60, u61, u62, u63, u64, u65, u66, u67, u68, u69, u70, u71, u72, u73, u74, u75, u76, u77, u78, u79, u80, u81, u82, u83, u84, u85, u86, u87, u88, u89, u90, u91, u92, u93, u94, u95, u96, u97, u98, rfl⟩
end Go.Proofs.Ytlkkmpfhhfaioaa
