/- Layer 3: Encode. -/
import Derived.Test.YtopbdiekfhikmaaE5F
import Derived.Test.YtopbdiekfhikmaaD10F
namespace Go.Proofs.Ytopbdiekfhikmaa
open Go.RowKit
theorem or32_lt (a b : Nat) : or32 a b < 4294967296 := Nat.mod_lt _ (by decide)
theorem ite_lt {c : Prop} [Decidable c] {a b : Nat × Bool} (ha : a.1 < 4294967296) (hb : b.1 < 4294967296) : (if c then a else b).1 < 4294967296 := by
  split
  · exact ha
  · exact hb
theorem sumN_lt (k rd r1 r2 i : Int) (ui wd : Bool) : (sumN k rd r1 r2 i ui wd).1 < 4294967296 := by
  unfold sumN
  repeat' (first | exact or32_lt _ _ | decide | apply ite_lt)
theorem floN_lt (k rd r1 r2 r3 rm sz : Int) (us wd : Bool) : (floN k rd r1 r2 r3 rm sz us wd).1 < 4294967296 := by
  unfold floN
  repeat' (first | exact or32_lt _ _ | decide | apply ite_lt)
theorem formN_lt (k rd r1 r2 r3 rm c sz i : Int) (ui us wd : Bool) : (formN k rd r1 r2 r3 rm c sz i ui us wd).1 < 4294967296 := by
  unfold formN
  repeat' (first | exact or32_lt _ _ | exact sumN_lt _ _ _ _ _ _ _ | exact floN_lt _ _ _ _ _ _ _ _ _ | decide | apply ite_lt)
def formI (x : Ins) : Nat × Bool := formN x.kind x.rd x.rs1 x.rs2 x.rs3 x.rm x.csr x.size x.imm x.ui x.us x.wd
def encN (x : Ins) : Nat × Bool := if (formI x).2 = true ∧ decN (formI x).1 = x then ((formI x).1, true) else (0, false)
structure WFI (x : Ins) : Prop where
  kind : (Lit.int .i64 x.kind).wf = true
  rd : (Lit.int .i64 x.rd).wf = true
  rs1 : (Lit.int .i64 x.rs1).wf = true
  rs2 : (Lit.int .i64 x.rs2).wf = true
  rs3 : (Lit.int .i64 x.rs3).wf = true
  rm : (Lit.int .i64 x.rm).wf = true
  csr : (Lit.int .i64 x.csr).wf = true
  size : (Lit.int .i64 x.size).wf = true
  imm : (Lit.int .i64 x.imm).wf = true
theorem fits_ins {x : Ins} (h : WFI x) : Fits [.some .i64, .some .i64, .some .i64, .some .i64, .some .i64, .some .i64, .some .i64, .some .i64, .some .i64, .none, .none, .none] [.int .i64 x.kind, .int .i64 x.rd, .int .i64 x.rs1, .int .i64 x.rs2, .int .i64 x.rs3, .int .i64 x.rm, .int .i64 x.csr, .int .i64 x.size, .int .i64 x.imm, .bool x.ui, .bool x.us, .bool x.wd] :=
  ⟨⟨_, rfl, h.kind⟩, ⟨_, rfl, h.rd⟩, ⟨_, rfl, h.rs1⟩, ⟨_, rfl, h.rs2⟩, ⟨_, rfl, h.rs3⟩, ⟨_, rfl, h.rm⟩, ⟨_, rfl, h.csr⟩, ⟨_, rfl, h.size⟩, ⟨_, rfl, h.imm⟩, ⟨_, rfl⟩, ⟨_, rfl⟩, ⟨_, rfl⟩, trivial⟩
theorem flat25 : flat Try.prog 8 25 = .some [.some .i64, .some .i64, .some .i64, .some .i64, .some .i64, .some .i64, .some .i64, .some .i64, .some .i64, .none, .none, .none] := by kernel_rfl
theorem named25 : named Try.prog 8 25 = true := by kernel_rfl
theorem kt25 : Try.prog.keyTypeAt 8 25 = true := by kernel_rfl
theorem formed25 (k rd r1 r2 r3 rm c sz i : Int) (ui us wd : Bool) : (Value.agg #[.int .i64 k, .int .i64 rd, .int .i64 r1, .int .i64 r2, .int .i64 r3, .int .i64 rm, .int .i64 c, .int .i64 sz, .int .i64 i, .bool ui, .bool us, .bool wd]).formed Try.prog 25 = true := by kernel_rfl
def insA (x : Ins) : Array Value := #[.int .i64 x.kind, .int .i64 x.rd, .int .i64 x.rs1, .int .i64 x.rs2, .int .i64 x.rs3, .int .i64 x.rm, .int .i64 x.csr, .int .i64 x.size, .int .i64 x.imm, .bool x.ui, .bool x.us, .bool x.wd]
theorem insA_inj {x y : Ins} (h : insA x = insA y) : x = y := by
  cases x; cases y
  unfold insA at h
  simp only [Array.mk.injEq, List.cons.injEq, Value.int.injEq, Value.bool.injEq, true_and, and_true] at h
  obtain ⟨rfl, rfl, rfl, rfl, rfl, rfl, rfl, rfl, rfl, rfl, rfl, rfl⟩ := h
  rfl
theorem eqg25 {op : BinOp} {x y : Operand} {A B : Array Value} {v : Value} {w : World} (h : (binOp op 25 (.agg A) (.agg B)).run Try.prog w = .ok v w) : (do eqGuard op 25 x y (.agg A) (.agg B); binOp op 25 (.agg A) (.agg B) : Sem Value).run Try.prog w = .ok v w := by
  simp only [Sem.run_bind, run_eqGuard_agg (P := Try.prog) w op 25 x y A B (by kernel_rfl), Result.andThen_ok, h]
theorem neq25 {x y : Ins} (hx : WFI x) (hy : WFI y) (w : World) : (binOp .neq 25 (.agg (insA x)) (.agg (insA y))).run Try.prog w = .ok (.bool (!decide (x = y))) w := by
  by_cases h : x = y
  · subst h
    simp only [decide_true, Bool.not_true]
    exact run_neq_same flat25 named25 kt25 (formed25 ..) (fits_ins hx)
  · simp only [h, decide_false, Bool.not_false]
    exact run_neq_diff flat25 named25 kt25 (formed25 ..) (formed25 ..) (fits_ins hx) (fits_ins hy) (fun e => h (insA_inj e))
theorem eql25 {x y : Ins} (hx : WFI x) (hy : WFI y) (w : World) : (binOp .eql 25 (.agg (insA x)) (.agg (insA y))).run Try.prog w = .ok (.bool (decide (x = y))) w := by
  by_cases h : x = y
  · subst h
    simp only [decide_true]
    exact run_eql_same flat25 named25 kt25 (formed25 ..) (fits_ins hx)
  · simp only [h, decide_false]
    exact run_eql_diff flat25 named25 kt25 (formed25 ..) (formed25 ..) (fits_ins hx) (fits_ins hy) (fun e => h (insA_inj e))
end Go.Proofs.Ytopbdiekfhikmaa
