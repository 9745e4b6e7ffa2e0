/- Layer 3: Encode. / Layer 3: what fields may be. / Layer 3: Encode, walked. -/
import Derived.Test.YtopbdiekfhikmaaE5F
import Derived.Test.YtopbdiekfhikmaaD10F
namespace Go.Proofs.Ytopbdiekfhikmaa
open Go.RowKit
theorem or32_lt (a b : Nat) : or32 a b < 4294967296 := Nat.mod_lt _ (by decide)
theorem ite_lt {c : Prop} [Decidable c] {a b : Nat × Bool} (ha : a.1 < 4294967296) (hb : b.1 < 4294967296) : (if c then a else b).1 < 4294967296 := by
  split
  · exact ha
  · exact hb
theorem sumN_lt (k rd r1 r2 i : Int) (ui wd : Bool) : (sumN k rd r1 r2 i ui wd).1 < 4294967296 := by
  unfold sumN
  repeat' (first | exact or32_lt _ _ | decide | apply ite_lt)
theorem floN_lt (k rd r1 r2 r3 rm sz : Int) (us wd : Bool) : (floN k rd r1 r2 r3 rm sz us wd).1 < 4294967296 := by
  unfold floN
  repeat' (first | exact or32_lt _ _ | decide | apply ite_lt)
theorem formN_lt (k rd r1 r2 r3 rm c sz i : Int) (ui us wd : Bool) : (formN k rd r1 r2 r3 rm c sz i ui us wd).1 < 4294967296 := by
  unfold formN
  repeat' (first | exact or32_lt _ _ | exact sumN_lt _ _ _ _ _ _ _ | exact floN_lt _ _ _ _ _ _ _ _ _ | decide | apply ite_lt)
def formI (x : Ins) : Nat × Bool := formN x.kind x.rd x.rs1 x.rs2 x.rs3 x.rm x.csr x.size x.imm x.ui x.us x.wd
def encN (x : Ins) : Nat × Bool := if (formI x).2 = true ∧ decN (formI x).1 = x then ((formI x).1, true) else (0, false)
structure WFI (x : Ins) : Prop where
  kind : (Lit.int .i64 x.kind).wf = true
  rd : (Lit.int .i64 x.rd).wf = true
  rs1 : (Lit.int .i64 x.rs1).wf = true
  rs2 : (Lit.int .i64 x.rs2).wf = true
  rs3 : (Lit.int .i64 x.rs3).wf = true
  rm : (Lit.int .i64 x.rm).wf = true
  csr : (Lit.int .i64 x.csr).wf = true
  size : (Lit.int .i64 x.size).wf = true
  imm : (Lit.int .i64 x.imm).wf = true
theorem fits_ins {x : Ins} (h : WFI x) : Fits [.some .i64, .some .i64, .some .i64, .some .i64, .some .i64, .some .i64, .some .i64, .some .i64, .some .i64, .none, .none, .none] [.int .i64 x.kind, .int .i64 x.rd, .int .i64 x.rs1, .int .i64 x.rs2, .int .i64 x.rs3, .int .i64 x.rm, .int .i64 x.csr, .int .i64 x.size, .int .i64 x.imm, .bool x.ui, .bool x.us, .bool x.wd] :=
  ⟨⟨_, rfl, h.kind⟩, ⟨_, rfl, h.rd⟩, ⟨_, rfl, h.rs1⟩, ⟨_, rfl, h.rs2⟩, ⟨_, rfl, h.rs3⟩, ⟨_, rfl, h.rm⟩, ⟨_, rfl, h.csr⟩, ⟨_, rfl, h.size⟩, ⟨_, rfl, h.imm⟩, ⟨_, rfl⟩, ⟨_, rfl⟩, ⟨_, rfl⟩, trivial⟩
theorem flat25 : flat Try.prog 8 25 = .some [.some .i64, .some .i64, .some .i64, .some .i64, .some .i64, .some .i64, .some .i64, .some .i64, .some .i64, .none, .none, .none] := by kernel_rfl
theorem named25 : named Try.prog 8 25 = true := by kernel_rfl
theorem kt25 : Try.prog.keyTypeAt 8 25 = true := by kernel_rfl
theorem formed25 (k rd r1 r2 r3 rm c sz i : Int) (ui us wd : Bool) : (Value.agg #[.int .i64 k, .int .i64 rd, .int .i64 r1, .int .i64 r2, .int .i64 r3, .int .i64 rm, .int .i64 c, .int .i64 sz, .int .i64 i, .bool ui, .bool us, .bool wd]).formed Try.prog 25 = true := by kernel_rfl
def insA (x : Ins) : Array Value := #[.int .i64 x.kind, .int .i64 x.rd, .int .i64 x.rs1, .int .i64 x.rs2, .int .i64 x.rs3, .int .i64 x.rm, .int .i64 x.csr, .int .i64 x.size, .int .i64 x.imm, .bool x.ui, .bool x.us, .bool x.wd]
theorem insA_inj {x y : Ins} (h : insA x = insA y) : x = y := by
  cases x; cases y
  unfold insA at h
  simp only [Array.mk.injEq, List.cons.injEq, Value.int.injEq, Value.bool.injEq, true_and, and_true] at h
  obtain ⟨rfl, rfl, rfl, rfl, rfl, rfl, rfl, rfl, rfl, rfl, rfl, rfl⟩ := h
  rfl
theorem eqg25 {op : BinOp} {x y : Operand} {A B : Array Value} {v : Value} {w : World} (h : (binOp op 25 (.agg A) (.agg B)).run Try.prog w = .ok v w) : (do eqGuard op 25 x y (.agg A) (.agg B); binOp op 25 (.agg A) (.agg B) : Sem Value).run Try.prog w = .ok v w := by
  simp only [Sem.run_bind, run_eqGuard_agg (P := Try.prog) w op 25 x y A B (by kernel_rfl), Result.andThen_ok, h]
theorem neq25 {x y : Ins} (hx : WFI x) (hy : WFI y) (w : World) : (binOp .neq 25 (.agg (insA x)) (.agg (insA y))).run Try.prog w = .ok (.bool (!decide (x = y))) w := by
  by_cases h : x = y
  · subst h
    simp only [decide_true, Bool.not_true]
    exact run_neq_same flat25 named25 kt25 (formed25 ..) (fits_ins hx)
  · simp only [h, decide_false, Bool.not_false]
    exact run_neq_diff flat25 named25 kt25 (formed25 ..) (formed25 ..) (fits_ins hx) (fits_ins hy) (fun e => h (insA_inj e))
theorem eql25 {x y : Ins} (hx : WFI x) (hy : WFI y) (w : World) : (binOp .eql 25 (.agg (insA x)) (.agg (insA y))).run Try.prog w = .ok (.bool (decide (x = y))) w := by
  by_cases h : x = y
  · subst h
    simp only [decide_true]
    exact run_eql_same flat25 named25 kt25 (formed25 ..) (fits_ins hx)
  · simp only [h, decide_false]
    exact run_eql_diff flat25 named25 kt25 (formed25 ..) (formed25 ..) (fits_ins hx) (fits_ins hy) (fun e => h (insA_inj e))
end Go.Proofs.Ytopbdiekfhikmaa
namespace Go.Proofs.Ytopbdiekfhikmaa
open Go.RowKit

structure FOK (b : Nat) (x : Ins) : Prop where
  kind : 0 ≤ x.kind ∧ x.kind < 78
  rd : x.rd = 0 ∨ x.rd = fd b 7 5
  rs1 : x.rs1 = 0 ∨ x.rs1 = fd b 15 5
  rs2 : x.rs2 = 0 ∨ x.rs2 = fd b 20 5
  rs3 : x.rs3 = 0 ∨ x.rs3 = fd b 27 5
  rm : 0 ≤ x.rm ∧ x.rm < 8 ∧ x.rm ≠ 5 ∧ x.rm ≠ 6
  csr : 0 ≤ x.csr ∧ x.csr < 4096
  size : x.size = 0 ∨ x.size = 1 ∨ x.size = 2 ∨ x.size = 4 ∨ x.size = 8
  jump : (x.kind = 3 ∨ (5 ≤ x.kind ∧ x.kind ≤ 10)) → x.imm % 2 = 0 ∧ -1048576 ≤ x.imm ∧ x.imm < 1048576
  upper : (x.kind = 1 ∨ x.kind = 2) → x.imm = immU b
  imm : ¬ (x.kind = 3 ∨ (5 ≤ x.kind ∧ x.kind ≤ 10)) → ¬ (x.kind = 1 ∨ x.kind = 2) → -2048 ≤ x.imm ∧ x.imm < 2048
theorem immI_bd (b : Nat) : -2048 ≤ immI b ∧ immI b < 2048 := by
  have := fd_lt b 20 12
  unfold immI
  split <;> omega
theorem immS_bd (b : Nat) : -2048 ≤ immS b ∧ immS b < 2048 := by
  have := fd_lt b 25 7
  have := fd_lt b 7 5
  unfold immS
  split <;> omega
theorem immB_bd (b : Nat) : immB b % 2 = 0 ∧ -1048576 ≤ immB b ∧ immB b < 1048576 := by
  have := fd_lt b 7 1
  have := fd_lt b 25 6
  have := fd_lt b 8 4
  unfold immB
  split <;> omega
theorem immJ_bd (b : Nat) : immJ b % 2 = 0 ∧ -1048576 ≤ immJ b ∧ immJ b < 1048576 := by
  have := fd_lt b 12 8
  have := fd_lt b 20 1
  have := fd_lt b 21 10
  unfold immJ
  split <;> omega
theorem fok_zero (b : Nat) : FOK b zero := by
  constructor <;> simp [zero]
/-- Of an instruction whose fields are these of b's, and whose immediate is small. -/
theorem fok_of {b : Nat} {k rd r1 r2 r3 rm c sz i : Int} {ui us wd : Bool} (hk : 0 ≤ k ∧ k < 78) (h1 : rd = 0 ∨ rd = fd b 7 5) (h2 : r1 = 0 ∨ r1 = fd b 15 5) (h3 : r2 = 0 ∨ r2 = fd b 20 5) (h4 : r3 = 0 ∨ r3 = fd b 27 5)
    (h5 : 0 ≤ rm ∧ rm < 8 ∧ rm ≠ 5 ∧ rm ≠ 6) (h6 : 0 ≤ c ∧ c < 4096) (h7 : sz = 0 ∨ sz = 1 ∨ sz = 2 ∨ sz = 4 ∨ sz = 8) (h8 : ¬ (k = 3 ∨ (5 ≤ k ∧ k ≤ 10))) (h9 : ¬ (k = 1 ∨ k = 2)) (h10 : -2048 ≤ i ∧ i < 2048) : FOK b ⟨k, rd, r1, r2, r3, rm, c, sz, i, ui, us, wd⟩ :=
  ⟨hk, h1, h2, h3, h4, h5, h6, h7, fun h => absurd h h8, fun h => absurd h h9, fun _ _ => h10⟩
theorem fok_ite {b : Nat} {c : Prop} [Decidable c] {x y : Ins} (hx : c → FOK b x) (hy : ¬ c → FOK b y) : FOK b (if c then x else y) := by
  split
  · exact hx ‹_›
  · exact hy ‹_›
theorem sumK_bd (f : Nat) : sumK f = 0 ∨ (13 ≤ sumK f ∧ sumK f ≤ 22) := by
  unfold sumK
  split <;> simp
theorem atomK_bd (f : Nat) : atomK f = 0 ∨ (38 ≤ atomK f ∧ atomK f ≤ 48) := by
  unfold atomK
  split <;> simp
theorem brK_bd (f : Nat) : brK f = 0 ∨ (5 ≤ brK f ∧ brK f ≤ 10) := by
  unfold brK
  split <;> simp
theorem ldK_bd (f : Nat) : ldK f = 0 ∨ ldK f = 11 := by
  unfold ldK
  split <;> simp
theorem ldS_bd (f : Nat) : ldS f = 0 ∨ ldS f = 1 ∨ ldS f = 2 ∨ ldS f = 4 ∨ ldS f = 8 := by
  unfold ldS
  split <;> simp
theorem fok_reg (b f g : Nat) (hf : f < 8) (short : Bool) : FOK b (regK f g (fd b 7 5) (fd b 15 5) (fd b 20 5) short) := by
  have := sumK_bd f
  unfold regK regX
  repeat' (first | refine fok_ite (fun _ => ?_) (fun _ => ?_) | exact fok_zero b)
  all_goals (first | exact fok_zero b | (refine fok_of ?_ ?_ ?_ ?_ ?_ ?_ ?_ ?_ ?_ ?_ ?_ <;> first | omega | (simp; done) | (simp; omega)))
theorem fok_imm (b f h : Nat) (short : Bool) : FOK b (immK f h (fd b 20 6) (fd b 7 5) (fd b 15 5) (immI b) short) := by
  have := sumK_bd f
  have := immI_bd b
  have := fd_lt b 20 6
  unfold immK immX
  repeat' (first | refine fok_ite (fun _ => ?_) (fun _ => ?_) | exact fok_zero b)
  all_goals (first | exact fok_zero b | (refine fok_of ?_ ?_ ?_ ?_ ?_ ?_ ?_ ?_ ?_ ?_ ?_ <;> first | omega | (simp; done) | (simp; omega)))
theorem fok_sys (b f g : Nat) (hf : f < 8) : FOK b (sysK b f g (fd b 7 5) (fd b 15 5) (fd b 20 5) (fd b 20 12)) := by
  have := fd_lt b 20 12
  have := fd_lt b 15 5
  unfold sysK
  repeat' (first | refine fok_ite (fun _ => ?_) (fun _ => ?_) | exact fok_zero b)
  all_goals (first | exact fok_zero b | (refine fok_of ?_ ?_ ?_ ?_ ?_ ?_ ?_ ?_ ?_ ?_ ?_ <;> first | omega | (simp; done) | (simp; omega)))
theorem fok_atom (b f h : Nat) (hf : f < 8) : FOK b (atomI f h (fd b 7 5) (fd b 15 5) (fd b 20 5)) := by
  have := atomK_bd h
  unfold atomI
  split
  · exact fok_zero b
  · rename_i hn
    have hc : f = 2 ∨ f = 3 := by omega
    rcases hc with rfl | rfl <;> (first | exact fok_zero b | (refine fok_of ?_ ?_ ?_ ?_ ?_ ?_ ?_ ?_ ?_ ?_ ?_ <;> first | omega | (simp; done) | (simp; omega)))
theorem fok_round (b f : Nat) (hf : f < 8) (x : Ins) (hx : FOK b x) : FOK b (roundN f x) := by
  unfold roundN
  split
  · exact fok_zero b
  · obtain ⟨h1, h2, h3, h4, h5, h6, h7, h8, h9, h10, h11⟩ := hx
    exact ⟨h1, h2, h3, h4, h5, by simp only []; omega, h7, h8, h9, h10, h11⟩
theorem fok_oper (b f h : Nat) (hf : f < 8) (sz : Int) (hs : sz = 4 ∨ sz = 8) (s : Nat) : FOK b (operK f h s (fd b 7 5) (fd b 15 5) (fd b 20 5) sz) := by
  unfold operK opX
  repeat' (first | refine fok_ite (fun _ => ?_) (fun _ => ?_) | exact fok_zero b | apply fok_round b f hf)
  all_goals (first | exact fok_zero b | (refine fok_of ?_ ?_ ?_ ?_ ?_ ?_ ?_ ?_ ?_ ?_ ?_ <;> first | omega | (simp; done) | (simp; omega)))
theorem fok_float (b : Nat) : FOK b (floatN b) := by
  have hf := fd_lt b 12 3
  have hl := fd_lt b 25 2
  have := immI_bd b
  have := immS_bd b
  unfold floatN floK
  split
  · split
    · rename_i h0 h
      rcases h with h | h <;> rw [h] <;> (first | exact fok_zero b | (refine fok_of ?_ ?_ ?_ ?_ ?_ ?_ ?_ ?_ ?_ ?_ ?_ <;> first | omega | (simp; done) | (simp; omega)))
    · exact fok_zero b
  · split
    · split
      · rename_i h0 h1 h
        rcases h with h | h <;> rw [h] <;> (first | exact fok_zero b | (refine fok_of ?_ ?_ ?_ ?_ ?_ ?_ ?_ ?_ ?_ ?_ ?_ <;> first | omega | (simp; done) | (simp; omega)))
      · exact fok_zero b
    · split
      · exact fok_zero b
      · rename_i h1 h2 h3
        have hc : fd b 25 2 = 0 ∨ fd b 25 2 = 1 := by omega
        have hs : ((4 * 2 ^ fd b 25 2 : Nat) : Int) = 4 ∨ ((4 * 2 ^ fd b 25 2 : Nat) : Int) = 8 := by rcases hc with h | h <;> rw [h] <;> simp
        split
        · apply fok_round b _ hf
          first | exact fok_zero b | (refine fok_of ?_ ?_ ?_ ?_ ?_ ?_ ?_ ?_ ?_ ?_ ?_ <;> first | omega | (simp; done) | (simp; omega))
        · split
          · exact fok_oper b _ _ hf _ hs _
          · exact fok_zero b
theorem fok_fall (b : Nat) : FOK b (fallN (floatN b)) := by
  unfold fallN
  exact fok_ite (fun _ => fok_zero b) (fun _ => fok_float b)
theorem fok_dec (b : Nat) : FOK b (decN b) := by
  have hf := fd_lt b 12 3
  have := immI_bd b
  have := immS_bd b
  have := immB_bd b
  have := immJ_bd b
  have := brK_bd (fd b 12 3)
  have := ldK_bd (fd b 12 3)
  have := ldS_bd (fd b 12 3)
  unfold decN decK
  refine fok_ite (fun _ => ?_) (fun _ => ?_)
  · exact ⟨by simp, .inr rfl, .inl rfl, .inl rfl, .inl rfl, by simp, by simp, .inl rfl, by simp, fun _ => rfl, by simp⟩
  refine fok_ite (fun _ => ?_) (fun _ => ?_)
  · exact ⟨by simp, .inr rfl, .inl rfl, .inl rfl, .inl rfl, by simp, by simp, .inl rfl, by simp, fun _ => rfl, by simp⟩
  refine fok_ite (fun _ => ?_) (fun _ => ?_)
  · exact ⟨by simp, .inr rfl, .inl rfl, .inl rfl, .inl rfl, by simp, by simp, .inl rfl, fun _ => immJ_bd b, by simp, by simp⟩
  refine fok_ite (fun _ => ?_) (fun _ => ?_)
  · refine fok_ite (fun _ => ?_) (fun _ => fok_fall b)
    first | exact fok_zero b | (refine fok_of ?_ ?_ ?_ ?_ ?_ ?_ ?_ ?_ ?_ ?_ ?_ <;> first | omega | (simp; done) | (simp; omega))
  refine fok_ite (fun _ => ?_) (fun _ => ?_)
  · refine fok_ite (fun _ => ?_) (fun _ => ?_)
    · exact ⟨by simp only []; omega, .inl rfl, .inr rfl, .inr rfl, .inl rfl, by simp, by simp, .inl rfl, fun _ => immB_bd b, by simp only []; omega, by simp only []; omega⟩
    · exact fok_fall b
  refine fok_ite (fun _ => ?_) (fun _ => ?_)
  · refine fok_ite (fun _ => ?_) (fun _ => ?_)
    · first | exact fok_zero b | (refine fok_of ?_ ?_ ?_ ?_ ?_ ?_ ?_ ?_ ?_ ?_ ?_ <;> first | omega | (simp; done) | (simp; omega))
    · exact fok_fall b
  refine fok_ite (fun _ => ?_) (fun _ => ?_)
  · refine fok_ite (fun h => ?_) (fun _ => ?_)
    · have hc : fd b 12 3 = 0 ∨ fd b 12 3 = 1 ∨ fd b 12 3 = 2 ∨ fd b 12 3 = 3 := by omega
      rcases hc with h | h | h | h <;> rw [h] <;> (first | exact fok_zero b | (refine fok_of ?_ ?_ ?_ ?_ ?_ ?_ ?_ ?_ ?_ ?_ ?_ <;> first | omega | (simp; done) | (simp; omega)))
    · exact fok_fall b
  refine fok_ite (fun _ => ?_) (fun _ => ?_)
  · exact fok_imm b _ _ _
  refine fok_ite (fun _ => ?_) (fun _ => ?_)
  · exact fok_imm b _ _ _
  refine fok_ite (fun _ => ?_) (fun _ => ?_)
  · exact fok_reg b _ _ hf _
  refine fok_ite (fun _ => ?_) (fun _ => ?_)
  · exact fok_reg b _ _ hf _
  refine fok_ite (fun _ => ?_) (fun _ => ?_)
  · refine fok_ite (fun _ => ?_) (fun _ => ?_)
    · first | exact fok_zero b | (refine fok_of ?_ ?_ ?_ ?_ ?_ ?_ ?_ ?_ ?_ ?_ ?_ <;> first | omega | (simp; done) | (simp; omega))
    · exact fok_fall b
  refine fok_ite (fun _ => ?_) (fun _ => ?_)
  · exact fok_sys b _ _ hf
  refine fok_ite (fun _ => ?_) (fun _ => ?_)
  · exact fok_atom b _ _ hf
  · exact fok_fall b
theorem wf64 {n : Int} (h1 : -9223372036854775808 ≤ n) (h2 : n < 9223372036854775808) : (Lit.int .i64 n).wf = true := by
  simp [Lit.wf, IntKind.min, IntKind.max, IntKind.signed, IntKind.bits]
  omega
theorem immU_bd (b : Nat) : -2147483648 ≤ immU b ∧ immU b < 2147483648 := by
  have := fd_lt b 12 20
  unfold immU
  split <;> omega
theorem dec_wf (b : Nat) : WFI (decN b) := by
  obtain ⟨h1, h2, h3, h4, h5, h6, h7, h8, h9, h10, h11⟩ := fok_dec b
  have := fd_lt b 7 5
  have := fd_lt b 15 5
  have := fd_lt b 20 5
  have := fd_lt b 27 5
  have := immU_bd b
  refine ⟨?_, ?_, ?_, ?_, ?_, ?_, ?_, ?_, ?_⟩ <;> apply wf64 <;> first | omega | skip
  all_goals
    by_cases c1 : (decN b).kind = 3 ∨ (5 ≤ (decN b).kind ∧ (decN b).kind ≤ 10)
    · have := h9 c1; omega
    · by_cases c2 : (decN b).kind = 1 ∨ (decN b).kind = 2
      · have := h10 c2; omega
      · have := h11 c1 c2; omega
end Go.Proofs.Ytopbdiekfhikmaa
namespace Go.Proofs.Ytopbdiekfhikmaa
open Go.RowKit
set_option maxRecDepth 100000 in
set_option maxHeartbeats 4000000 in
theorem enc_no (k rd r1 r2 r3 rm c sz i : Int) (ui us wd : Bool) (hw : WFI (⟨k, rd, r1, r2, r3, rm, c, sz, i, ui, us, wd⟩ : Ins)) (w : World) (hF : (formN k rd r1 r2 r3 rm c sz i ui us wd).2 = false) : Calls Try.prog 12 #[.agg #[.int .i64 k, .int .i64 rd, .int .i64 r1, .int .i64 r2, .int .i64 r3, .int .i64 rm, .int .i64 c, .int .i64 sz, .int .i64 i, .bool ui, .bool us, .bool wd]] w fun e w' => e = .returned (.tuple #[.int .u32 0, .bool false]) ∧ GN w w' := by
  have hi := hw.imm
  have hz := hw.size
  go_enter Try.func12, Try.ntmps12
  go_upto_region 2 with (go_at_call 33; refine (form_any _ _ _ _ _ _ _ _ _ (by assumption) (by assumption) _ _ _ _).mono ?_; rintro _ w33 ⟨rfl, hq⟩)
  have hgn : GN w w33 := GN.trans gnt hq
  go_quiet (fail)
  go_wp2
  go_ret2
  exact ⟨rfl, hgn.drewN _⟩
set_option maxRecDepth 100000 in
set_option maxHeartbeats 4000000 in
theorem enc_false (k rd r1 r2 r3 rm c sz i : Int) (ui us wd : Bool) (hw : WFI (⟨k, rd, r1, r2, r3, rm, c, sz, i, ui, us, wd⟩ : Ins)) (w : World) (s : Nat) (hF : formN k rd r1 r2 r3 rm c sz i ui us wd = (s, true)) (hd : decN s = (⟨k, rd, r1, r2, r3, rm, c, sz, i, ui, us, wd⟩ : Ins)) : Calls Try.prog 12 #[.agg #[.int .i64 k, .int .i64 rd, .int .i64 r1, .int .i64 r2, .int .i64 r3, .int .i64 rm, .int .i64 c, .int .i64 sz, .int .i64 i, .bool ui, .bool us, .bool wd]] w fun e w' => e = .returned (.tuple #[.int .u32 (s : Nat), .bool true]) ∧ GN w w' := by
  have hi := hw.imm
  have hz := hw.size
  have hs : s < 4294967296 := by
    have := formN_lt k rd r1 r2 r3 rm c sz i ui us wd
    rw [hF] at this
    exact this
  have HB : Hid (∀ w : World, (binOp .neq 25 (.agg (insA (decN s))) (.agg (insA (⟨k, rd, r1, r2, r3, rm, c, sz, i, ui, us, wd⟩ : Ins)))).run Try.prog w = .ok (.bool false) w) := fun w => by
    rw [neq25 (dec_wf s) hw, decide_eq_true hd]; rfl
  clear hd
  go_enter Try.func12, Try.ntmps12
  go_upto_region 2 with (go_at_call 33; refine (form_any _ _ _ _ _ _ _ _ _ (by assumption) (by assumption) _ _ _ _).mono ?_; rw [hF]; rintro _ w33 ⟨rfl, hq⟩)
  have hgn : GN w w33 := GN.trans gnt hq
  have hx := GN.heap hq (o := .cells #[.int .i64 k, .int .i64 rd, .int .i64 r1, .int .i64 r2, .int .i64 r3, .int .i64 rm, .int .i64 c, .int .i64 sz, .int .i64 i, .bool ui, .bool us, .bool wd] 25) (b := w.heap.size) hpt
  clear hq
  have W1 := lt_of_heap' hx
  generalize w33 = W at *
  refine wp_region_F (fun w_ => GN W w_) GN (fun k_ v_ w_ => match k_ with
      | 0 => v_ = .bool true
      | 1 => v_ = .bool false
      | 2 => v_ = .bool false
      | 3 => v_ = .int .u32 ((s : Nat) : Int)
      | 4 => v_ = .agg (insA (decN s))
      | 5 => v_ = .agg (insA (⟨k, rd, r1, r2, r3, rm, c, sz, i, ui, us, wd⟩ : Ins))
      | 6 => v_ = .bool false
      | _ => v_ = .bool false) fol (by kernel_rfl) ?_ ?_ ?_ ?_
  · exact (GN.refl W).drew
  · intro k_ v_ w_ w2_ h1 hg
    split at h1 <;> exact h1
  · intro vals
    show wpG _ _ _ _ _ _ 0 (_ :: _) _
    refine wpG_cons (gval (.bool true) GN.refl fun w_ hJ hd => ?_) ?_
    · exact ⟨by kernel_rfl, by kernel_rfl, rfl⟩
    refine wpG_cons (gval (.bool false) GN.refl fun w_ hJ hd => ?_) ?_
    · have e0 : vals 0 = _ := hd 0 (by decide) (by kernel_rfl)
      rw [e0]
      exact ⟨by kernel_rfl, by kernel_rfl, rfl⟩
    refine wpG_cons (gval (.bool false) GN.refl fun w_ hJ hd => ?_) ?_
    · have e1 : vals 1 = _ := hd 1 (by decide) (by kernel_rfl)
      rw [e1]
      exact ⟨by kernel_rfl, by kernel_rfl, rfl⟩
    refine wpG_cons (gval (.int .u32 ((s : Nat) : Int)) GN.refl fun w_ hJ hd => ?_) ?_
    · have e2 : vals 2 = _ := hd 2 (by decide) (by kernel_rfl)
      rw [e2]
      exact ⟨by kernel_rfl, by kernel_rfl, rfl⟩
    refine wpG_cons (gcall 10 #[.int .u32 ((s : Nat) : Int)] fun w_ hJ hd => ?_) ?_
    · have e3 : vals 3 = _ := hd 3 (by decide) (by kernel_rfl)
      have e2 : vals 2 = _ := hd 2 (by decide) (by kernel_rfl)
      rw [e3, e2]
      exact ⟨by kernel_rfl, by kernel_rfl, (decode_any s hs w_).mono fun e w2 ⟨he, hq⟩ => ⟨_, he, GN.trans hJ hq, hq, rfl⟩⟩
    refine wpG_cons (gop (Instr.loadAt 25 (.pointer (some ⟨w.heap.size, 0, none⟩))) (.agg (insA (⟨k, rd, r1, r2, r3, rm, c, sz, i, ui, us, wd⟩ : Ins))) GN.refl fun w_ hJ hd => ?_) ?_
    · have e2 : vals 2 = _ := hd 2 (by decide) (by kernel_rfl)
      rw [e2]
      exact ⟨by kernel_rfl, by kernel_rfl, run_loadRow (GN.heap hJ hx), rfl⟩
    refine wpG_cons (gop ((do eqGuard .neq 25 (.tmp 15) (.tmp 16) (.agg (insA (decN s))) (.agg (insA (⟨k, rd, r1, r2, r3, rm, c, sz, i, ui, us, wd⟩ : Ins))); binOp .neq 25 (.agg (insA (decN s))) (.agg (insA (⟨k, rd, r1, r2, r3, rm, c, sz, i, ui, us, wd⟩ : Ins))))) (.bool false) GN.refl fun w_ hJ hd => ?_) ?_
    · have e4 : vals 4 = _ := hd 4 (by decide) (by kernel_rfl)
      have e5 : vals 5 = _ := hd 5 (by decide) (by kernel_rfl)
      have e2 : vals 2 = _ := hd 2 (by decide) (by kernel_rfl)
      rw [e4, e5, e2]
      exact ⟨by kernel_rfl, by kernel_rfl, eqg25 (unhide HB w_), rfl⟩
    refine wpG_cons (gval (.bool false) GN.refl fun w_ hJ hd => ?_) wpG_nil
    · have e2 : vals 2 = _ := hd 2 (by decide) (by kernel_rfl)
      have e6 : vals 6 = _ := hd 6 (by decide) (by kernel_rfl)
      rw [e2, e6]
      exact ⟨by kernel_rfl, by kernel_rfl, rfl⟩
  intro vals w_ hJ hf
  have e0 : vals 0 = _ := hf 0 (by decide)
  have e1 : vals 1 = _ := hf 1 (by decide)
  have e2 : vals 2 = _ := hf 2 (by decide)
  have e3 : vals 3 = _ := hf 3 (by decide)
  have e4 : vals 4 = _ := hf 4 (by decide)
  have e5 : vals 5 = _ := hf 5 (by decide)
  have e6 : vals 6 = _ := hf 6 (by decide)
  have e7 : vals 7 = _ := hf 7 (by decide)
  simp only [fillG, Nat.zero_add, Nat.reduceAdd, e0, e1, e2, e3, e4, e5, e6, e7, Act.put, List.setIfInBounds_toArray, List.set_cons_succ, List.set_cons_zero]
  clear e0 e1 e2 e3 e4 e5 e6 e7 hf
  go_wp2
  go_ret2
  exact ⟨rfl, GN.trans hgn hJ⟩
set_option maxRecDepth 100000 in
set_option maxHeartbeats 4000000 in
theorem enc_true (k rd r1 r2 r3 rm c sz i : Int) (ui us wd : Bool) (hw : WFI (⟨k, rd, r1, r2, r3, rm, c, sz, i, ui, us, wd⟩ : Ins)) (w : World) (s : Nat) (hF : formN k rd r1 r2 r3 rm c sz i ui us wd = (s, true)) (hd : decN s ≠ (⟨k, rd, r1, r2, r3, rm, c, sz, i, ui, us, wd⟩ : Ins)) : Calls Try.prog 12 #[.agg #[.int .i64 k, .int .i64 rd, .int .i64 r1, .int .i64 r2, .int .i64 r3, .int .i64 rm, .int .i64 c, .int .i64 sz, .int .i64 i, .bool ui, .bool us, .bool wd]] w fun e w' => e = .returned (.tuple #[.int .u32 0, .bool false]) ∧ GN w w' := by
  have hi := hw.imm
  have hz := hw.size
  have hs : s < 4294967296 := by
    have := formN_lt k rd r1 r2 r3 rm c sz i ui us wd
    rw [hF] at this
    exact this
  have HB : Hid (∀ w : World, (binOp .neq 25 (.agg (insA (decN s))) (.agg (insA (⟨k, rd, r1, r2, r3, rm, c, sz, i, ui, us, wd⟩ : Ins)))).run Try.prog w = .ok (.bool true) w) := fun w => by
    rw [neq25 (dec_wf s) hw, decide_eq_false hd]; rfl
  clear hd
  go_enter Try.func12, Try.ntmps12
  go_upto_region 2 with (go_at_call 33; refine (form_any _ _ _ _ _ _ _ _ _ (by assumption) (by assumption) _ _ _ _).mono ?_; rw [hF]; rintro _ w33 ⟨rfl, hq⟩)
  have hgn : GN w w33 := GN.trans gnt hq
  have hx := GN.heap hq (o := .cells #[.int .i64 k, .int .i64 rd, .int .i64 r1, .int .i64 r2, .int .i64 r3, .int .i64 rm, .int .i64 c, .int .i64 sz, .int .i64 i, .bool ui, .bool us, .bool wd] 25) (b := w.heap.size) hpt
  clear hq
  have W1 := lt_of_heap' hx
  generalize w33 = W at *
  refine wp_region_F (fun w_ => GN W w_) GN (fun k_ v_ w_ => match k_ with
      | 0 => v_ = .bool true
      | 1 => v_ = .bool false
      | 2 => v_ = .bool false
      | 3 => v_ = .int .u32 ((s : Nat) : Int)
      | 4 => v_ = .agg (insA (decN s))
      | 5 => v_ = .agg (insA (⟨k, rd, r1, r2, r3, rm, c, sz, i, ui, us, wd⟩ : Ins))
      | 6 => v_ = .bool true
      | _ => v_ = .bool true) fol (by kernel_rfl) ?_ ?_ ?_ ?_
  · exact (GN.refl W).drew
  · intro k_ v_ w_ w2_ h1 hg
    split at h1 <;> exact h1
  · intro vals
    show wpG _ _ _ _ _ _ 0 (_ :: _) _
    refine wpG_cons (gval (.bool true) GN.refl fun w_ hJ hd => ?_) ?_
    · exact ⟨by kernel_rfl, by kernel_rfl, rfl⟩
    refine wpG_cons (gval (.bool false) GN.refl fun w_ hJ hd => ?_) ?_
    · have e0 : vals 0 = _ := hd 0 (by decide) (by kernel_rfl)
      rw [e0]
      exact ⟨by kernel_rfl, by kernel_rfl, rfl⟩
    refine wpG_cons (gval (.bool false) GN.refl fun w_ hJ hd => ?_) ?_
    · have e1 : vals 1 = _ := hd 1 (by decide) (by kernel_rfl)
      rw [e1]
      exact ⟨by kernel_rfl, by kernel_rfl, rfl⟩
    refine wpG_cons (gval (.int .u32 ((s : Nat) : Int)) GN.refl fun w_ hJ hd => ?_) ?_
    · have e2 : vals 2 = _ := hd 2 (by decide) (by kernel_rfl)
      rw [e2]
      exact ⟨by kernel_rfl, by kernel_rfl, rfl⟩
    refine wpG_cons (gcall 10 #[.int .u32 ((s : Nat) : Int)] fun w_ hJ hd => ?_) ?_
    · have e3 : vals 3 = _ := hd 3 (by decide) (by kernel_rfl)
      have e2 : vals 2 = _ := hd 2 (by decide) (by kernel_rfl)
      rw [e3, e2]
      exact ⟨by kernel_rfl, by kernel_rfl, (decode_any s hs w_).mono fun e w2 ⟨he, hq⟩ => ⟨_, he, GN.trans hJ hq, hq, rfl⟩⟩
    refine wpG_cons (gop (Instr.loadAt 25 (.pointer (some ⟨w.heap.size, 0, none⟩))) (.agg (insA (⟨k, rd, r1, r2, r3, rm, c, sz, i, ui, us, wd⟩ : Ins))) GN.refl fun w_ hJ hd => ?_) ?_
    · have e2 : vals 2 = _ := hd 2 (by decide) (by kernel_rfl)
      rw [e2]
      exact ⟨by kernel_rfl, by kernel_rfl, run_loadRow (GN.heap hJ hx), rfl⟩
    refine wpG_cons (gop ((do eqGuard .neq 25 (.tmp 15) (.tmp 16) (.agg (insA (decN s))) (.agg (insA (⟨k, rd, r1, r2, r3, rm, c, sz, i, ui, us, wd⟩ : Ins))); binOp .neq 25 (.agg (insA (decN s))) (.agg (insA (⟨k, rd, r1, r2, r3, rm, c, sz, i, ui, us, wd⟩ : Ins))))) (.bool true) GN.refl fun w_ hJ hd => ?_) ?_
    · have e4 : vals 4 = _ := hd 4 (by decide) (by kernel_rfl)
      have e5 : vals 5 = _ := hd 5 (by decide) (by kernel_rfl)
      have e2 : vals 2 = _ := hd 2 (by decide) (by kernel_rfl)
      rw [e4, e5, e2]
      exact ⟨by kernel_rfl, by kernel_rfl, eqg25 (unhide HB w_), rfl⟩
    refine wpG_cons (gval (.bool true) GN.refl fun w_ hJ hd => ?_) wpG_nil
    · have e2 : vals 2 = _ := hd 2 (by decide) (by kernel_rfl)
      have e6 : vals 6 = _ := hd 6 (by decide) (by kernel_rfl)
      rw [e2, e6]
      exact ⟨by kernel_rfl, by kernel_rfl, rfl⟩
  intro vals w_ hJ hf
  have e0 : vals 0 = _ := hf 0 (by decide)
  have e1 : vals 1 = _ := hf 1 (by decide)
  have e2 : vals 2 = _ := hf 2 (by decide)
  have e3 : vals 3 = _ := hf 3 (by decide)
  have e4 : vals 4 = _ := hf 4 (by decide)
  have e5 : vals 5 = _ := hf 5 (by decide)
  have e6 : vals 6 = _ := hf 6 (by decide)
  have e7 : vals 7 = _ := hf 7 (by decide)
  simp only [fillG, Nat.zero_add, Nat.reduceAdd, e0, e1, e2, e3, e4, e5, e6, e7, Act.put, List.setIfInBounds_toArray, List.set_cons_succ, List.set_cons_zero]
  clear e0 e1 e2 e3 e4 e5 e6 e7 hf
  go_wp2
  go_ret2
  exact ⟨rfl, GN.trans hgn hJ⟩
theorem encode_any (x : Ins) (hw : WFI x) (w : World) : Calls Try.prog 12 #[insV x] w fun e w' => e = .returned (.tuple #[.int .u32 ((encN x).1 : Nat), .bool (encN x).2]) ∧ GN w w' := by
  obtain ⟨k, rd, r1, r2, r3, rm, c, sz, i, ui, us, wd⟩ := x
  cases hF : formI (⟨k, rd, r1, r2, r3, rm, c, sz, i, ui, us, wd⟩ : Ins) with
  | mk s ok =>
    unfold encN
    rw [hF]
    cases ok with
    | false =>
      rw [if_neg (by simp)]
      exact enc_no k rd r1 r2 r3 rm c sz i ui us wd hw w (by show (formI (⟨k, rd, r1, r2, r3, rm, c, sz, i, ui, us, wd⟩ : Ins)).2 = false; rw [hF])
    | true =>
      by_cases hd : decN s = (⟨k, rd, r1, r2, r3, rm, c, sz, i, ui, us, wd⟩ : Ins)
      · rw [if_pos ⟨rfl, hd⟩]
        exact enc_false k rd r1 r2 r3 rm c sz i ui us wd hw w s hF hd
      · rw [if_neg (fun h => hd h.2)]
        exact enc_true k rd r1 r2 r3 rm c sz i ui us wd hw w s hF hd
end Go.Proofs.Ytopbdiekfhikmaa
