/- Layer 3: what fields may be. -/
import Derived.Test.YtopbdiekfhikmaaE6
namespace Go.Proofs.Ytopbdiekfhikmaa
open Go.RowKit

structure FOK (b : Nat) (x : Ins) : Prop where
  kind : 0 ≤ x.kind ∧ x.kind < 78
  rd : x.rd = 0 ∨ x.rd = fd b 7 5
  rs1 : x.rs1 = 0 ∨ x.rs1 = fd b 15 5
  rs2 : x.rs2 = 0 ∨ x.rs2 = fd b 20 5
  rs3 : x.rs3 = 0 ∨ x.rs3 = fd b 27 5
  rm : 0 ≤ x.rm ∧ x.rm < 8 ∧ x.rm ≠ 5 ∧ x.rm ≠ 6
  csr : 0 ≤ x.csr ∧ x.csr < 4096
  size : x.size = 0 ∨ x.size = 1 ∨ x.size = 2 ∨ x.size = 4 ∨ x.size = 8
  jump : (x.kind = 3 ∨ (5 ≤ x.kind ∧ x.kind ≤ 10)) → x.imm % 2 = 0 ∧ -1048576 ≤ x.imm ∧ x.imm < 1048576
  upper : (x.kind = 1 ∨ x.kind = 2) → x.imm = immU b
  imm : ¬ (x.kind = 3 ∨ (5 ≤ x.kind ∧ x.kind ≤ 10)) → ¬ (x.kind = 1 ∨ x.kind = 2) → -2048 ≤ x.imm ∧ x.imm < 2048
theorem immI_bd (b : Nat) : -2048 ≤ immI b ∧ immI b < 2048 := by
  have := fd_lt b 20 12
  unfold immI
  split <;> omega
theorem immS_bd (b : Nat) : -2048 ≤ immS b ∧ immS b < 2048 := by
  have := fd_lt b 25 7
  have := fd_lt b 7 5
  unfold immS
  split <;> omega
theorem immB_bd (b : Nat) : immB b % 2 = 0 ∧ -1048576 ≤ immB b ∧ immB b < 1048576 := by
  have := fd_lt b 7 1
  have := fd_lt b 25 6
  have := fd_lt b 8 4
  unfold immB
  split <;> omega
theorem immJ_bd (b : Nat) : immJ b % 2 = 0 ∧ -1048576 ≤ immJ b ∧ immJ b < 1048576 := by
  have := fd_lt b 12 8
  have := fd_lt b 20 1
  have := fd_lt b 21 10
  unfold immJ
  split <;> omega
theorem fok_zero (b : Nat) : FOK b zero := by
  constructor <;> simp [zero]
/-- Of an instruction whose fields are these of b's, and whose immediate is small. -/
theorem fok_of {b : Nat} {k rd r1 r2 r3 rm c sz i : Int} {ui us wd : Bool} (hk : 0 ≤ k ∧ k < 78) (h1 : rd = 0 ∨ rd = fd b 7 5) (h2 : r1 = 0 ∨ r1 = fd b 15 5) (h3 : r2 = 0 ∨ r2 = fd b 20 5) (h4 : r3 = 0 ∨ r3 = fd b 27 5)
    (h5 : 0 ≤ rm ∧ rm < 8 ∧ rm ≠ 5 ∧ rm ≠ 6) (h6 : 0 ≤ c ∧ c < 4096) (h7 : sz = 0 ∨ sz = 1 ∨ sz = 2 ∨ sz = 4 ∨ sz = 8) (h8 : ¬ (k = 3 ∨ (5 ≤ k ∧ k ≤ 10))) (h9 : ¬ (k = 1 ∨ k = 2)) (h10 : -2048 ≤ i ∧ i < 2048) : FOK b ⟨k, rd, r1, r2, r3, rm, c, sz, i, ui, us, wd⟩ :=
  ⟨hk, h1, h2, h3, h4, h5, h6, h7, fun h => absurd h h8, fun h => absurd h h9, fun _ _ => h10⟩
theorem fok_ite {b : Nat} {c : Prop} [Decidable c] {x y : Ins} (hx : c → FOK b x) (hy : ¬ c → FOK b y) : FOK b (if c then x else y) := by
  split
  · exact hx ‹_›
  · exact hy ‹_›
theorem sumK_bd (f : Nat) : sumK f = 0 ∨ (13 ≤ sumK f ∧ sumK f ≤ 22) := by
  unfold sumK
  split <;> simp
theorem atomK_bd (f : Nat) : atomK f = 0 ∨ (38 ≤ atomK f ∧ atomK f ≤ 48) := by
  unfold atomK
  split <;> simp
theorem brK_bd (f : Nat) : brK f = 0 ∨ (5 ≤ brK f ∧ brK f ≤ 10) := by
  unfold brK
  split <;> simp
theorem ldK_bd (f : Nat) : ldK f = 0 ∨ ldK f = 11 := by
  unfold ldK
  split <;> simp
theorem ldS_bd (f : Nat) : ldS f = 0 ∨ ldS f = 1 ∨ ldS f = 2 ∨ ldS f = 4 ∨ ldS f = 8 := by
  unfold ldS
  split <;> simp
theorem fok_reg (b f g : Nat) (hf : f < 8) (short : Bool) : FOK b (regK f g (fd b 7 5) (fd b 15 5) (fd b 20 5) short) := by
  have := sumK_bd f
  unfold regK regX
  repeat' (first | refine fok_ite (fun _ => ?_) (fun _ => ?_) | exact fok_zero b)
  all_goals (first | exact fok_zero b | (refine fok_of ?_ ?_ ?_ ?_ ?_ ?_ ?_ ?_ ?_ ?_ ?_ <;> first | omega | (simp; done) | (simp; omega)))
theorem fok_imm (b f h : Nat) (short : Bool) : FOK b (immK f h (fd b 20 6) (fd b 7 5) (fd b 15 5) (immI b) short) := by
  have := sumK_bd f
  have := immI_bd b
  have := fd_lt b 20 6
  unfold immK immX
  repeat' (first | refine fok_ite (fun _ => ?_) (fun _ => ?_) | exact fok_zero b)
  all_goals (first | exact fok_zero b | (refine fok_of ?_ ?_ ?_ ?_ ?_ ?_ ?_ ?_ ?_ ?_ ?_ <;> first | omega | (simp; done) | (simp; omega)))
theorem fok_sys (b f g : Nat) (hf : f < 8) : FOK b (sysK b f g (fd b 7 5) (fd b 15 5) (fd b 20 5) (fd b 20 12)) := by
  have := fd_lt b 20 12
  have := fd_lt b 15 5
  unfold sysK
  repeat' (first | refine fok_ite (fun _ => ?_) (fun _ => ?_) | exact fok_zero b)
  all_goals (first | exact fok_zero b | (refine fok_of ?_ ?_ ?_ ?_ ?_ ?_ ?_ ?_ ?_ ?_ ?_ <;> first | omega | (simp; done) | (simp; omega)))
theorem fok_atom (b f h : Nat) (hf : f < 8) : FOK b (atomI f h (fd b 7 5) (fd b 15 5) (fd b 20 5)) := by
  have := atomK_bd h
  unfold atomI
  split
  · exact fok_zero b
  · rename_i hn
    have hc : f = 2 ∨ f = 3 := by omega
    rcases hc with rfl | rfl <;> (first | exact fok_zero b | (refine fok_of ?_ ?_ ?_ ?_ ?_ ?_ ?_ ?_ ?_ ?_ ?_ <;> first | omega | (simp; done) | (simp; omega)))
theorem fok_round (b f : Nat) (hf : f < 8) (x : Ins) (hx : FOK b x) : FOK b (roundN f x) := by
  unfold roundN
  split
  · exact fok_zero b
  · obtain ⟨h1, h2, h3, h4, h5, h6, h7, h8, h9, h10, h11⟩ := hx
    exact ⟨h1, h2, h3, h4, h5, by simp only []; omega, h7, h8, h9, h10, h11⟩
theorem fok_oper (b f h : Nat) (hf : f < 8) (sz : Int) (hs : sz = 4 ∨ sz = 8) (s : Nat) : FOK b (operK f h s (fd b 7 5) (fd b 15 5) (fd b 20 5) sz) := by
  unfold operK opX
  repeat' (first | refine fok_ite (fun _ => ?_) (fun _ => ?_) | exact fok_zero b | apply fok_round b f hf)
  all_goals (first | exact fok_zero b | (refine fok_of ?_ ?_ ?_ ?_ ?_ ?_ ?_ ?_ ?_ ?_ ?_ <;> first | omega | (simp; done) | (simp; omega)))
theorem fok_float (b : Nat) : FOK b (floatN b) := by
  have hf := fd_lt b 12 3
  have hl := fd_lt b 25 2
  have := immI_bd b
  have := immS_bd b
  unfold floatN floK
  split
  · split
    · rename_i h0 h
      rcases h with h | h <;> rw [h] <;> (first | exact fok_zero b | (refine fok_of ?_ ?_ ?_ ?_ ?_ ?_ ?_ ?_ ?_ ?_ ?_ <;> first | omega | (simp; done) | (simp; omega)))
    · exact fok_zero b
  · split
    · split
      · rename_i h0 h1 h
        rcases h with h | h <;> rw [h] <;> (first | exact fok_zero b | (refine fok_of ?_ ?_ ?_ ?_ ?_ ?_ ?_ ?_ ?_ ?_ ?_ <;> first | omega | (simp; done) | (simp; omega)))
      · exact fok_zero b
    · split
      · exact fok_zero b
      · rename_i h1 h2 h3
        have hc : fd b 25 2 = 0 ∨ fd b 25 2 = 1 := by omega
        have hs : ((4 * 2 ^ fd b 25 2 : Nat) : Int) = 4 ∨ ((4 * 2 ^ fd b 25 2 : Nat) : Int) = 8 := by rcases hc with h | h <;> rw [h] <;> simp
        split
        · apply fok_round b _ hf
          first | exact fok_zero b | (refine fok_of ?_ ?_ ?_ ?_ ?_ ?_ ?_ ?_ ?_ ?_ ?_ <;> first | omega | (simp; done) | (simp; omega))
        · split
          · exact fok_oper b _ _ hf _ hs _
          · exact fok_zero b
theorem fok_fall (b : Nat) : FOK b (fallN (floatN b)) := by
  unfold fallN
  exact fok_ite (fun _ => fok_zero b) (fun _ => fok_float b)
theorem fok_dec (b : Nat) : FOK b (decN b) := by
  have hf := fd_lt b 12 3
  have := immI_bd b
  have := immS_bd b
  have := immB_bd b
  have := immJ_bd b
  have := brK_bd (fd b 12 3)
  have := ldK_bd (fd b 12 3)
  have := ldS_bd (fd b 12 3)
  unfold decN decK
  refine fok_ite (fun _ => ?_) (fun _ => ?_)
  · exact ⟨by simp, .inr rfl, .inl rfl, .inl rfl, .inl rfl, by simp, by simp, .inl rfl, by simp, fun _ => rfl, by simp⟩
  refine fok_ite (fun _ => ?_) (fun _ => ?_)
  · exact ⟨by simp, .inr rfl, .inl rfl, .inl rfl, .inl rfl, by simp, by simp, .inl rfl, by simp, fun _ => rfl, by simp⟩
  refine fok_ite (fun _ => ?_) (fun _ => ?_)
  · exact ⟨by simp, .inr rfl, .inl rfl, .inl rfl, .inl rfl, by simp, by simp, .inl rfl, fun _ => immJ_bd b, by simp, by simp⟩
  refine fok_ite (fun _ => ?_) (fun _ => ?_)
  · refine fok_ite (fun _ => ?_) (fun _ => fok_fall b)
    first | exact fok_zero b | (refine fok_of ?_ ?_ ?_ ?_ ?_ ?_ ?_ ?_ ?_ ?_ ?_ <;> first | omega | (simp; done) | (simp; omega))
  refine fok_ite (fun _ => ?_) (fun _ => ?_)
  · refine fok_ite (fun _ => ?_) (fun _ => ?_)
    · exact ⟨by simp only []; omega, .inl rfl, .inr rfl, .inr rfl, .inl rfl, by simp, by simp, .inl rfl, fun _ => immB_bd b, by simp only []; omega, by simp only []; omega⟩
    · exact fok_fall b
  refine fok_ite (fun _ => ?_) (fun _ => ?_)
  · refine fok_ite (fun _ => ?_) (fun _ => ?_)
    · first | exact fok_zero b | (refine fok_of ?_ ?_ ?_ ?_ ?_ ?_ ?_ ?_ ?_ ?_ ?_ <;> first | omega | (simp; done) | (simp; omega))
    · exact fok_fall b
  refine fok_ite (fun _ => ?_) (fun _ => ?_)
  · refine fok_ite (fun h => ?_) (fun _ => ?_)
    · have hc : fd b 12 3 = 0 ∨ fd b 12 3 = 1 ∨ fd b 12 3 = 2 ∨ fd b 12 3 = 3 := by omega
      rcases hc with h | h | h | h <;> rw [h] <;> (first | exact fok_zero b | (refine fok_of ?_ ?_ ?_ ?_ ?_ ?_ ?_ ?_ ?_ ?_ ?_ <;> first | omega | (simp; done) | (simp; omega)))
    · exact fok_fall b
  refine fok_ite (fun _ => ?_) (fun _ => ?_)
  · exact fok_imm b _ _ _
  refine fok_ite (fun _ => ?_) (fun _ => ?_)
  · exact fok_imm b _ _ _
  refine fok_ite (fun _ => ?_) (fun _ => ?_)
  · exact fok_reg b _ _ hf _
  refine fok_ite (fun _ => ?_) (fun _ => ?_)
  · exact fok_reg b _ _ hf _
  refine fok_ite (fun _ => ?_) (fun _ => ?_)
  · refine fok_ite (fun _ => ?_) (fun _ => ?_)
    · first | exact fok_zero b | (refine fok_of ?_ ?_ ?_ ?_ ?_ ?_ ?_ ?_ ?_ ?_ ?_ <;> first | omega | (simp; done) | (simp; omega))
    · exact fok_fall b
  refine fok_ite (fun _ => ?_) (fun _ => ?_)
  · exact fok_sys b _ _ hf
  refine fok_ite (fun _ => ?_) (fun _ => ?_)
  · exact fok_atom b _ _ hf
  · exact fok_fall b
theorem wf64 {n : Int} (h1 : -9223372036854775808 ≤ n) (h2 : n < 9223372036854775808) : (Lit.int .i64 n).wf = true := by
  simp [Lit.wf, IntKind.min, IntKind.max, IntKind.signed, IntKind.bits]
  omega
theorem immU_bd (b : Nat) : -2147483648 ≤ immU b ∧ immU b < 2147483648 := by
  have := fd_lt b 12 20
  unfold immU
  split <;> omega
theorem dec_wf (b : Nat) : WFI (decN b) := by
  obtain ⟨h1, h2, h3, h4, h5, h6, h7, h8, h9, h10, h11⟩ := fok_dec b
  have := fd_lt b 7 5
  have := fd_lt b 15 5
  have := fd_lt b 20 5
  have := fd_lt b 27 5
  have := immU_bd b
  refine ⟨?_, ?_, ?_, ?_, ?_, ?_, ?_, ?_, ?_⟩ <;> apply wf64 <;> first | omega | skip
  all_goals
    by_cases c1 : (decN b).kind = 3 ∨ (5 ≤ (decN b).kind ∧ (decN b).kind ≤ 10)
    · have := h9 c1; omega
    · by_cases c2 : (decN b).kind = 1 ∨ (decN b).kind = 2
      · have := h10 c2; omega
      · have := h11 c1 c2; omega
end Go.Proofs.Ytopbdiekfhikmaa
