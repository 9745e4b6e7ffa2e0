/- Layer 3: Decode (all). -/
import Derived.Test.YtopbdiekfhikmaaD10A
import Derived.Test.YtopbdiekfhikmaaD10B
import Derived.Test.YtopbdiekfhikmaaD10C
import Derived.Test.YtopbdiekfhikmaaD10D
namespace Go.Proofs.Ytopbdiekfhikmaa
open Go.RowKit
theorem decode_any (b : Nat) (hb : b < 4294967296) (w : World) : Calls Try.prog 10 #[.int .u32 b] w fun r w' => r = .returned (insV (decN b)) ∧ GN w w' := by
  obtain ⟨op, hop⟩ : ∃ g, fd b 0 7 = g := ⟨_, rfl⟩
  obtain ⟨f, hf⟩ : ∃ f, fd b 12 3 = f := ⟨_, rfl⟩
  obtain ⟨rd, hrd⟩ : ∃ g, fd b 7 5 = g := ⟨_, rfl⟩
  obtain ⟨r1, hr1⟩ : ∃ g, fd b 15 5 = g := ⟨_, rfl⟩
  obtain ⟨r2, hr2⟩ : ∃ g, fd b 20 5 = g := ⟨_, rfl⟩
  unfold decN
  rw [hop, hf, hrd, hr1, hr2]
  have hc : op = 55 ∨ op = 23 ∨ op = 111 ∨ op = 103 ∨ op = 99 ∨ op = 3 ∨ op = 35 ∨ op = 19 ∨ op = 27 ∨ op = 51 ∨ op = 59 ∨ op = 15 ∨ op = 115 ∨ op = 47 ∨ (op ≠ 55 ∧ op ≠ 23 ∧ op ≠ 111 ∧ op ≠ 103 ∧ op ≠ 99 ∧ op ≠ 3 ∧ op ≠ 35 ∧ op ≠ 19 ∧ op ≠ 27 ∧ op ≠ 51 ∧ op ≠ 59 ∧ op ≠ 15 ∧ op ≠ 115 ∧ op ≠ 47) := by omega
  rcases hc with rfl | rfl | rfl | rfl | rfl | rfl | rfl | rfl | rfl | rfl | rfl | rfl | rfl | rfl | ⟨n55, n23, n111, n103, n99, n3, n35, n19, n27, n51, n59, n15, n115, n47⟩
  · exact dec_0 b hb f rd r1 r2 hop hf hrd hr1 hr2  w
  · exact dec_1 b hb f rd r1 r2 hop hf hrd hr1 hr2  w
  · exact dec_2 b hb f rd r1 r2 hop hf hrd hr1 hr2  w
  · by_cases f0 : f = 0
    · subst f0; exact dec_3 b hb  rd r1 r2 hop hf hrd hr1 hr2  w
    · exact dec_4 b hb f rd r1 r2 hop hf hrd hr1 hr2 f0 w
  · by_cases k0 : brK f = 0
    · exact dec_5 b hb f rd r1 r2 hop hf hrd hr1 hr2 k0 w
    · exact dec_6 b hb f rd r1 r2 hop hf hrd hr1 hr2 k0 w
  · by_cases k0 : ldK f = 0
    · exact dec_7 b hb f rd r1 r2 hop hf hrd hr1 hr2 k0 w
    · exact dec_8 b hb f rd r1 r2 hop hf hrd hr1 hr2 k0 w
  · have fc : f = 0 ∨ f = 1 ∨ f = 2 ∨ f = 3 ∨ ¬ f < 4 := by omega
    rcases fc with rfl | rfl | rfl | rfl | f4
    · exact dec_9 b hb  rd r1 r2 hop hf hrd hr1 hr2  w
    · exact dec_10 b hb  rd r1 r2 hop hf hrd hr1 hr2  w
    · exact dec_11 b hb  rd r1 r2 hop hf hrd hr1 hr2  w
    · exact dec_12 b hb  rd r1 r2 hop hf hrd hr1 hr2  w
    · exact dec_13 b hb f rd r1 r2 hop hf hrd hr1 hr2 f4 w
  · exact dec_14 b hb f rd r1 r2 hop hf hrd hr1 hr2  w
  · exact dec_15 b hb f rd r1 r2 hop hf hrd hr1 hr2  w
  · exact dec_16 b hb f rd r1 r2 hop hf hrd hr1 hr2  w
  · exact dec_17 b hb f rd r1 r2 hop hf hrd hr1 hr2  w
  · by_cases f2 : f < 2
    · exact dec_18 b hb f rd r1 r2 hop hf hrd hr1 hr2 f2 w
    · exact dec_19 b hb f rd r1 r2 hop hf hrd hr1 hr2 f2 w
  · exact dec_20 b hb f rd r1 r2 hop hf hrd hr1 hr2  w
  · exact dec_21 b hb f rd r1 r2 hop hf hrd hr1 hr2  w
  · exact dec_22 b hb op f rd r1 r2 hop hf hrd hr1 hr2 n55 n23 n111 n103 n99 n3 n35 n19 n27 n51 n59 n15 n115 n47 w
end Go.Proofs.Ytopbdiekfhikmaa
