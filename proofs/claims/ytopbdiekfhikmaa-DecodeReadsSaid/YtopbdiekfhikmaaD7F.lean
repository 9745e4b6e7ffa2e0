/- Layer 3: operations of floats (all). -/
import Derived.Test.YtopbdiekfhikmaaD7A
import Derived.Test.YtopbdiekfhikmaaD7B
import Derived.Test.YtopbdiekfhikmaaD7C
import Derived.Test.YtopbdiekfhikmaaD7D
import Derived.Test.YtopbdiekfhikmaaD7E
namespace Go.Proofs.Ytopbdiekfhikmaa
open Go.RowKit
theorem operation_any (b : Nat) (hb : b < 4294967296) (rd r1 r2 : Nat) (sz : Int) (hsz : sz = 4 ∨ sz = 8) (w : World) : Calls Try.prog 40 #[.int .u32 b, .agg #[.int .i64 0, .int .i64 rd, .int .i64 r1, .int .i64 r2, .int .i64 0, .int .i64 0, .int .i64 0, .int .i64 sz, .int .i64 0, .bool false, .bool false, .bool false]] w fun r w' => r = .returned (insV (operK (fd b 12 3) (fd b 27 5) (fd b 20 5) rd r1 r2 sz)) ∧ GN w w' := by
  obtain ⟨f, hf⟩ : ∃ f, fd b 12 3 = f := ⟨_, rfl⟩
  obtain ⟨h, hh⟩ : ∃ g, fd b 27 5 = g := ⟨_, rfl⟩
  obtain ⟨s, hs⟩ : ∃ g, fd b 20 5 = g := ⟨_, rfl⟩
  rw [hf, hh, hs]
  have hc : h < 4 ∨ h = 4 ∨ h = 5 ∨ h = 20 ∨ h = 11 ∨ h = 8 ∨ h = 24 ∨ h = 26 ∨ h = 28 ∨ h = 30 ∨ (¬ h < 4 ∧ h ≠ 4 ∧ h ≠ 5 ∧ h ≠ 20 ∧ h ≠ 11 ∧ h ≠ 8 ∧ h ≠ 24 ∧ h ≠ 26 ∧ h ≠ 28 ∧ h ≠ 30) := by omega
  rcases hc with h4 | rfl | rfl | rfl | rfl | rfl | rfl | rfl | rfl | rfl | ⟨h4, h41, h5, h20, h11, h8, h24, h26, h28, h30⟩
  · exact oper_0 b hb h s f sz hf hh hs h4 rd r1 r2 w
  · exact oper_1 b hb s f sz hf hh hs  rd r1 r2 w
  · exact oper_2 b hb s f sz hf hh hs  rd r1 r2 w
  · by_cases f2 : 2 < f
    · exact oper_3 b hb s f sz hf hh hs f2 rd r1 r2 w
    · exact oper_4 b hb s f sz hf hh hs f2 rd r1 r2 w
  · by_cases s0 : s = 0
    · subst s0; exact oper_5 b hb f sz hf hh hs  rd r1 r2 w
    · exact oper_6 b hb s f sz hf hh hs s0 rd r1 r2 w
  · rcases hsz with rfl | rfl
    · by_cases s0 : s = 1
      · subst s0; exact oper_7 b hb f  hf hh hs  rd r1 r2 w
      · exact oper_8 b hb s f  hf hh hs s0 rd r1 r2 w
    · by_cases s0 : s = 0
      · subst s0; exact oper_9 b hb f  hf hh hs  rd r1 r2 w
      · exact oper_10 b hb s f  hf hh hs s0 rd r1 r2 w
  · have sc : s = 0 ∨ s = 1 ∨ s = 2 ∨ s = 3 ∨ ¬ s < 4 := by omega
    rcases sc with rfl | rfl | rfl | rfl | s4
    · exact oper_11 b hb f sz hf hh hs  rd r1 r2 w
    · exact oper_12 b hb f sz hf hh hs  rd r1 r2 w
    · exact oper_13 b hb f sz hf hh hs  rd r1 r2 w
    · exact oper_14 b hb f sz hf hh hs  rd r1 r2 w
    · exact oper_15 b hb s f sz hf hh hs s4 rd r1 r2 w
  · have sc : s = 0 ∨ s = 1 ∨ s = 2 ∨ s = 3 ∨ ¬ s < 4 := by omega
    rcases sc with rfl | rfl | rfl | rfl | s4
    · exact oper_16 b hb f sz hf hh hs  rd r1 r2 w
    · exact oper_17 b hb f sz hf hh hs  rd r1 r2 w
    · exact oper_18 b hb f sz hf hh hs  rd r1 r2 w
    · exact oper_19 b hb f sz hf hh hs  rd r1 r2 w
    · exact oper_20 b hb s f sz hf hh hs s4 rd r1 r2 w
  · by_cases s0 : s = 0
    · subst s0
      by_cases f0 : f = 0
      · subst f0; exact oper_21 b hb  sz hf hh hs  rd r1 r2 w
      · by_cases f1 : f = 1
        · subst f1; exact oper_22 b hb  sz hf hh hs  rd r1 r2 w
        · exact oper_23 b hb f sz hf hh hs f0 f1 rd r1 r2 w
    · exact oper_24 b hb s f sz hf hh hs s0 rd r1 r2 w
  · by_cases s0 : s = 0
    · subst s0
      by_cases f0 : f = 0
      · subst f0; exact oper_25 b hb  sz hf hh hs  rd r1 r2 w
      · exact oper_26 b hb f sz hf hh hs f0 rd r1 r2 w
    · exact oper_27 b hb s f sz hf hh hs s0 rd r1 r2 w
  · exact oper_28 b hb h s f sz hf hh hs h4 h41 h5 h20 h11 h8 h24 h26 h28 h30 rd r1 r2 w
end Go.Proofs.Ytopbdiekfhikmaa
