/- Layer 3: operations on numbers. -/
import Derived.Test.YtopbdiekfhikmaaL1
namespace Go.Proofs.Ytopbdiekfhikmaa
open Go.RowKit
theorem lss2t {a b : Int} (h : (a < b)) (w : World) : (binOp .lss 2 (.int .i64 a) (.int .i64 b)).run Try.prog w = .ok (.bool true) w := by
  have e : (binOp .lss 2 (.int .i64 a) (.int .i64 b)).run Try.prog w = .ok (.bool (decide (a < b))) w := by kernel_rfl
  rw [e, decide_eq_true h]
theorem lss2f {a b : Int} (h : ¬ (a < b)) (w : World) : (binOp .lss 2 (.int .i64 a) (.int .i64 b)).run Try.prog w = .ok (.bool false) w := by
  have e : (binOp .lss 2 (.int .i64 a) (.int .i64 b)).run Try.prog w = .ok (.bool (decide (a < b))) w := by kernel_rfl
  rw [e, decide_eq_false h]
theorem leq2t {a b : Int} (h : (a ≤ b)) (w : World) : (binOp .leq 2 (.int .i64 a) (.int .i64 b)).run Try.prog w = .ok (.bool true) w := by
  have e : (binOp .leq 2 (.int .i64 a) (.int .i64 b)).run Try.prog w = .ok (.bool (decide (a ≤ b))) w := by kernel_rfl
  rw [e, decide_eq_true h]
theorem leq2f {a b : Int} (h : ¬ (a ≤ b)) (w : World) : (binOp .leq 2 (.int .i64 a) (.int .i64 b)).run Try.prog w = .ok (.bool false) w := by
  have e : (binOp .leq 2 (.int .i64 a) (.int .i64 b)).run Try.prog w = .ok (.bool (decide (a ≤ b))) w := by kernel_rfl
  rw [e, decide_eq_false h]
theorem gtr2t {a b : Int} (h : (b < a)) (w : World) : (binOp .gtr 2 (.int .i64 a) (.int .i64 b)).run Try.prog w = .ok (.bool true) w := by
  have e : (binOp .gtr 2 (.int .i64 a) (.int .i64 b)).run Try.prog w = .ok (.bool (decide (b < a))) w := by kernel_rfl
  rw [e, decide_eq_true h]
theorem gtr2f {a b : Int} (h : ¬ (b < a)) (w : World) : (binOp .gtr 2 (.int .i64 a) (.int .i64 b)).run Try.prog w = .ok (.bool false) w := by
  have e : (binOp .gtr 2 (.int .i64 a) (.int .i64 b)).run Try.prog w = .ok (.bool (decide (b < a))) w := by kernel_rfl
  rw [e, decide_eq_false h]
theorem geq2t {a b : Int} (h : (b ≤ a)) (w : World) : (binOp .geq 2 (.int .i64 a) (.int .i64 b)).run Try.prog w = .ok (.bool true) w := by
  have e : (binOp .geq 2 (.int .i64 a) (.int .i64 b)).run Try.prog w = .ok (.bool (decide (b ≤ a))) w := by kernel_rfl
  rw [e, decide_eq_true h]
theorem geq2f {a b : Int} (h : ¬ (b ≤ a)) (w : World) : (binOp .geq 2 (.int .i64 a) (.int .i64 b)).run Try.prog w = .ok (.bool false) w := by
  have e : (binOp .geq 2 (.int .i64 a) (.int .i64 b)).run Try.prog w = .ok (.bool (decide (b ≤ a))) w := by kernel_rfl
  rw [e, decide_eq_false h]
theorem eql2t {a b : Int} (h : (a = b)) (w : World) : (binOp .eql 2 (.int .i64 a) (.int .i64 b)).run Try.prog w = .ok (.bool true) w := by
  have e : (binOp .eql 2 (.int .i64 a) (.int .i64 b)).run Try.prog w = .ok (.bool (decide (a = b))) w := by kernel_rfl
  rw [e, decide_eq_true h]
theorem eql2f {a b : Int} (h : ¬ (a = b)) (w : World) : (binOp .eql 2 (.int .i64 a) (.int .i64 b)).run Try.prog w = .ok (.bool false) w := by
  have e : (binOp .eql 2 (.int .i64 a) (.int .i64 b)).run Try.prog w = .ok (.bool (decide (a = b))) w := by kernel_rfl
  rw [e, decide_eq_false h]
theorem neq2t {a b : Int} (h : (a ≠ b)) (w : World) : (binOp .neq 2 (.int .i64 a) (.int .i64 b)).run Try.prog w = .ok (.bool true) w := by
  have e : (binOp .neq 2 (.int .i64 a) (.int .i64 b)).run Try.prog w = .ok (.bool (!decide (a = b))) w := by kernel_rfl
  rw [e]
  rw [decide_eq_false h]; rfl
theorem neq2f {a b : Int} (h : ¬ (a ≠ b)) (w : World) : (binOp .neq 2 (.int .i64 a) (.int .i64 b)).run Try.prog w = .ok (.bool false) w := by
  have e : (binOp .neq 2 (.int .i64 a) (.int .i64 b)).run Try.prog w = .ok (.bool (!decide (a = b))) w := by kernel_rfl
  rw [e]
  rw [decide_eq_true (Classical.not_not.1 h)]; rfl
theorem lss3t {a b : Int} (h : (a < b)) (w : World) : (binOp .lss 3 (.int .i64 a) (.int .i64 b)).run Try.prog w = .ok (.bool true) w := by
  have e : (binOp .lss 3 (.int .i64 a) (.int .i64 b)).run Try.prog w = .ok (.bool (decide (a < b))) w := by kernel_rfl
  rw [e, decide_eq_true h]
theorem lss3f {a b : Int} (h : ¬ (a < b)) (w : World) : (binOp .lss 3 (.int .i64 a) (.int .i64 b)).run Try.prog w = .ok (.bool false) w := by
  have e : (binOp .lss 3 (.int .i64 a) (.int .i64 b)).run Try.prog w = .ok (.bool (decide (a < b))) w := by kernel_rfl
  rw [e, decide_eq_false h]
theorem leq3t {a b : Int} (h : (a ≤ b)) (w : World) : (binOp .leq 3 (.int .i64 a) (.int .i64 b)).run Try.prog w = .ok (.bool true) w := by
  have e : (binOp .leq 3 (.int .i64 a) (.int .i64 b)).run Try.prog w = .ok (.bool (decide (a ≤ b))) w := by kernel_rfl
  rw [e, decide_eq_true h]
theorem leq3f {a b : Int} (h : ¬ (a ≤ b)) (w : World) : (binOp .leq 3 (.int .i64 a) (.int .i64 b)).run Try.prog w = .ok (.bool false) w := by
  have e : (binOp .leq 3 (.int .i64 a) (.int .i64 b)).run Try.prog w = .ok (.bool (decide (a ≤ b))) w := by kernel_rfl
  rw [e, decide_eq_false h]
theorem gtr3t {a b : Int} (h : (b < a)) (w : World) : (binOp .gtr 3 (.int .i64 a) (.int .i64 b)).run Try.prog w = .ok (.bool true) w := by
  have e : (binOp .gtr 3 (.int .i64 a) (.int .i64 b)).run Try.prog w = .ok (.bool (decide (b < a))) w := by kernel_rfl
  rw [e, decide_eq_true h]
theorem gtr3f {a b : Int} (h : ¬ (b < a)) (w : World) : (binOp .gtr 3 (.int .i64 a) (.int .i64 b)).run Try.prog w = .ok (.bool false) w := by
  have e : (binOp .gtr 3 (.int .i64 a) (.int .i64 b)).run Try.prog w = .ok (.bool (decide (b < a))) w := by kernel_rfl
  rw [e, decide_eq_false h]
theorem geq3t {a b : Int} (h : (b ≤ a)) (w : World) : (binOp .geq 3 (.int .i64 a) (.int .i64 b)).run Try.prog w = .ok (.bool true) w := by
  have e : (binOp .geq 3 (.int .i64 a) (.int .i64 b)).run Try.prog w = .ok (.bool (decide (b ≤ a))) w := by kernel_rfl
  rw [e, decide_eq_true h]
theorem geq3f {a b : Int} (h : ¬ (b ≤ a)) (w : World) : (binOp .geq 3 (.int .i64 a) (.int .i64 b)).run Try.prog w = .ok (.bool false) w := by
  have e : (binOp .geq 3 (.int .i64 a) (.int .i64 b)).run Try.prog w = .ok (.bool (decide (b ≤ a))) w := by kernel_rfl
  rw [e, decide_eq_false h]
theorem eql3t {a b : Int} (h : (a = b)) (w : World) : (binOp .eql 3 (.int .i64 a) (.int .i64 b)).run Try.prog w = .ok (.bool true) w := by
  have e : (binOp .eql 3 (.int .i64 a) (.int .i64 b)).run Try.prog w = .ok (.bool (decide (a = b))) w := by kernel_rfl
  rw [e, decide_eq_true h]
theorem eql3f {a b : Int} (h : ¬ (a = b)) (w : World) : (binOp .eql 3 (.int .i64 a) (.int .i64 b)).run Try.prog w = .ok (.bool false) w := by
  have e : (binOp .eql 3 (.int .i64 a) (.int .i64 b)).run Try.prog w = .ok (.bool (decide (a = b))) w := by kernel_rfl
  rw [e, decide_eq_false h]
theorem neq3t {a b : Int} (h : (a ≠ b)) (w : World) : (binOp .neq 3 (.int .i64 a) (.int .i64 b)).run Try.prog w = .ok (.bool true) w := by
  have e : (binOp .neq 3 (.int .i64 a) (.int .i64 b)).run Try.prog w = .ok (.bool (!decide (a = b))) w := by kernel_rfl
  rw [e]
  rw [decide_eq_false h]; rfl
theorem neq3f {a b : Int} (h : ¬ (a ≠ b)) (w : World) : (binOp .neq 3 (.int .i64 a) (.int .i64 b)).run Try.prog w = .ok (.bool false) w := by
  have e : (binOp .neq 3 (.int .i64 a) (.int .i64 b)).run Try.prog w = .ok (.bool (!decide (a = b))) w := by kernel_rfl
  rw [e]
  rw [decide_eq_true (Classical.not_not.1 h)]; rfl
theorem shr7 (b : Nat) (w : World) : (binOp .shr 22 (.int .u32 (b : Int)) (.int .u64 7)).run Try.prog w = .ok (.int .u32 ((b / 128 : Nat) : Int)) w := by
  have e : (binOp .shr 22 (.int .u32 (b : Int)) (.int .u64 7)).run Try.prog w = .ok (.int .u32 (Int.fdiv (b : Int) 128)) w := by kernel_rfl
  rw [e, Int.fdiv_eq_ediv_of_nonneg _ (by decide)]
  rfl
theorem shr12 (b : Nat) (w : World) : (binOp .shr 22 (.int .u32 (b : Int)) (.int .u64 12)).run Try.prog w = .ok (.int .u32 ((b / 4096 : Nat) : Int)) w := by
  have e : (binOp .shr 22 (.int .u32 (b : Int)) (.int .u64 12)).run Try.prog w = .ok (.int .u32 (Int.fdiv (b : Int) 4096)) w := by kernel_rfl
  rw [e, Int.fdiv_eq_ediv_of_nonneg _ (by decide)]
  rfl
theorem shr15 (b : Nat) (w : World) : (binOp .shr 22 (.int .u32 (b : Int)) (.int .u64 15)).run Try.prog w = .ok (.int .u32 ((b / 32768 : Nat) : Int)) w := by
  have e : (binOp .shr 22 (.int .u32 (b : Int)) (.int .u64 15)).run Try.prog w = .ok (.int .u32 (Int.fdiv (b : Int) 32768)) w := by kernel_rfl
  rw [e, Int.fdiv_eq_ediv_of_nonneg _ (by decide)]
  rfl
theorem shr20 (b : Nat) (w : World) : (binOp .shr 22 (.int .u32 (b : Int)) (.int .u64 20)).run Try.prog w = .ok (.int .u32 ((b / 1048576 : Nat) : Int)) w := by
  have e : (binOp .shr 22 (.int .u32 (b : Int)) (.int .u64 20)).run Try.prog w = .ok (.int .u32 (Int.fdiv (b : Int) 1048576)) w := by kernel_rfl
  rw [e, Int.fdiv_eq_ediv_of_nonneg _ (by decide)]
  rfl
theorem shr27 (b : Nat) (w : World) : (binOp .shr 22 (.int .u32 (b : Int)) (.int .u64 27)).run Try.prog w = .ok (.int .u32 ((b / 134217728 : Nat) : Int)) w := by
  have e : (binOp .shr 22 (.int .u32 (b : Int)) (.int .u64 27)).run Try.prog w = .ok (.int .u32 (Int.fdiv (b : Int) 134217728)) w := by kernel_rfl
  rw [e, Int.fdiv_eq_ediv_of_nonneg _ (by decide)]
  rfl
theorem and31 (sh : Nat) (b : Nat) (h : sh < 32) (w : World) : (binOp .and 22 (.int .u32 ((b / 2 ^ sh : Nat) : Int)) (.int .u32 31)).run Try.prog w = .ok (.int .u32 (fd b sh 5 : Nat)) w := by
  have e : (binOp .and 22 (.int .u32 ((b / 2 ^ sh : Nat) : Int)) (.int .u32 31)).run Try.prog w = .ok (.int .u32 (bits .and .u32 ((b / 2 ^ sh : Nat) : Int) ((31 : Nat) : Int))) w := by kernel_rfl
  rw [e, ← and32_cast, show (31 : Nat) = (2 ^ 5 - 1) % 4294967296 from rfl, and_mask32 _ 5 (by decide)]
  rfl
theorem conv223 (x : Nat) (h : x < 4294967296) (w : World) : (convert 22 3 (.int .u32 (x : Int))).run Try.prog w = .ok (.int .i64 (x : Int)) w := by
  have e : (convert 22 3 (.int .u32 (x : Int))).run Try.prog w = .ok (.int .i64 (IntKind.i64.wrap (x : Int))) w := by kernel_rfl
  rw [e, show IntKind.i64.wrap (x : Int) = x from by simp [IntKind.wrap, IntKind.signed, IntKind.bits]; omega]
theorem conv223t {b : Nat} (hb : b < 4294967296) (w : World) : (convert 22 3 (.int .u32 ((b / 134217728 : Nat) : Int))).run Try.prog w = .ok (.int .i64 (fd b 27 5 : Nat)) w := by
  rw [conv223 _ (by omega)]
  have : b / 134217728 = fd b 27 5 := by unfold fd; omega
  rw [this]
theorem dec_call {b : Nat} (hb : b < 4294967296) {k rd r1 r2 r3 rm c sz i : Int} {ui us wd : Bool} (hx : decN b = ⟨k, rd, r1, r2, r3, rm, c, sz, i, ui, us, wd⟩) (w : World) : Calls Try.prog 10 #[.int .u32 b] w fun e w' => e = .returned (.agg #[.int .i64 k, .int .i64 rd, .int .i64 r1, .int .i64 r2, .int .i64 r3, .int .i64 rm, .int .i64 c, .int .i64 sz, .int .i64 i, .bool ui, .bool us, .bool wd]) ∧ GN w w' :=
  (decode_any b hb w).mono fun _ _ ⟨he, hq⟩ => ⟨by rw [he, hx]; rfl, hq⟩
theorem cutR {w W0 : World} {c : Code} {Q : Exit → Act → World → Prop} {a : Act} {g : Nat} {x : Array Value} (hg : GN w W0) (hx : W0.heap[g]? = some (.cells x 25 (0, 0)))
    (k : ∀ W, GN w W → W.heap[g]? = some (.cells x 25 (0, 0)) → Code.wp Try.prog c Q a W) : Code.wp Try.prog c Q a W0 := k W0 hg hx
end Go.Proofs.Ytopbdiekfhikmaa
