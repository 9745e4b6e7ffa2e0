/- Layer 3: bits of sums and floats (all). -/
import Derived.Test.YtopbdiekfhikmaaE4A
import Derived.Test.YtopbdiekfhikmaaE4B
import Derived.Test.YtopbdiekfhikmaaE4C
import Derived.Test.YtopbdiekfhikmaaE4D
namespace Go.Proofs.Ytopbdiekfhikmaa
open Go.RowKit
theorem sum_any (k rd r1 r2 r3 rm c sz i : Int) (hi : (Lit.int .i64 i).wf = true) (u us wd : Bool) (w : World) : Calls Try.prog 53 #[.agg #[.int .i64 k, .int .i64 rd, .int .i64 r1, .int .i64 r2, .int .i64 r3, .int .i64 rm, .int .i64 c, .int .i64 sz, .int .i64 i, .bool u, .bool us, .bool wd]] w fun e w' => e = .returned (.tuple #[.int .u32 ((sumN k rd r1 r2 i u wd).1 : Nat), .bool (sumN k rd r1 r2 i u wd).2]) ∧ GN w w' := by
  by_cases k14 : k = 14
  · subst k14
    rw [show sumN 14 rd r1 r2 i u wd = (sumB 0 32 rd r1 r2 i u wd, true) from if_pos rfl]
    cases u
    · exact sum_14f 14 rd r1 r2 r3 rm c sz i hi us wd w rfl
    · exact sum_14t 14 rd r1 r2 r3 rm c sz i hi us wd w rfl
  · have n14 := ne_b k14
    by_cases k20 : k = 20
    · subst k20
      rw [show sumN 20 rd r1 r2 i u wd = (sumB 5 32 rd r1 r2 i u wd, true) from by unfold sumN; rw [if_neg (by decide), if_pos rfl]]
      cases u
      · exact sum_20f 20 rd r1 r2 r3 rm c sz i hi us wd w n14 rfl
      · exact sum_20t 20 rd r1 r2 r3 rm c sz i hi us wd w n14 rfl
    · have n20 := ne_b k20
      rcases place_cases sumsL k with h | ⟨f, h, hf⟩
      · rcases place_cases prodL k with h2 | ⟨f, h2, hf⟩
        · rw [show sumN k rd r1 r2 i u wd = (0, false) from by unfold sumN; rw [if_neg k14, if_neg k20, if_neg (by omega), if_neg (by omega)]]
          cases u
          · exact sum_nf k rd r1 r2 r3 rm c sz i hi us wd w n14 n20 h h2
          · exact sum_nt k rd r1 r2 r3 rm c sz i hi us wd w n14 n20 h h2
        · rw [show sumN k rd r1 r2 i u wd = (sumB f 1 rd r1 r2 i u wd, true) from by unfold sumN; rw [if_neg k14, if_neg k20, if_neg (by omega), if_pos (by omega), h2]; rfl]
          cases u
          · exact sum_pf k rd r1 r2 r3 rm c sz i hi us wd w n14 n20 f h h2 hf
          · exact sum_pt k rd r1 r2 r3 rm c sz i hi us wd w n14 n20 f h h2 hf
      · rw [show sumN k rd r1 r2 i u wd = (sumB f 0 rd r1 r2 i u wd, true) from by unfold sumN; rw [if_neg k14, if_neg k20, if_pos (by omega), h]; rfl]
        cases u
        · exact sum_sf k rd r1 r2 r3 rm c sz i hi us wd w n14 n20 f h hf
        · exact sum_st k rd r1 r2 r3 rm c sz i hi us wd w n14 n20 f h hf
theorem flo_any (k rd r1 r2 r3 rm c sz i : Int) (hi : (Lit.int .i64 i).wf = true) (ui us wd : Bool) (w : World) : Calls Try.prog 54 #[.agg #[.int .i64 k, .int .i64 rd, .int .i64 r1, .int .i64 r2, .int .i64 r3, .int .i64 rm, .int .i64 c, .int .i64 sz, .int .i64 i, .bool ui, .bool us, .bool wd]] w fun e w' => e = .returned (.tuple #[.int .u32 ((floN k rd r1 r2 r3 rm sz us wd).1 : Nat), .bool (floN k rd r1 r2 r3 rm sz us wd).2]) ∧ GN w w' := by
  have hc : k < 55 ∨ 77 < k ∨ k = 55 ∨ k = 56 ∨ k = 57 ∨ k = 58 ∨ k = 59 ∨ k = 60 ∨ k = 61 ∨ k = 62 ∨ k = 63 ∨ k = 64 ∨ k = 65 ∨ k = 66 ∨ k = 67 ∨ k = 68 ∨ k = 69 ∨ k = 70 ∨ k = 71 ∨ k = 72 ∨ k = 73 ∨ k = 74 ∨ k = 75 ∨ k = 76 ∨ k = 77 := by omega
  rcases hc with h | h | rfl | rfl | rfl | rfl | rfl | rfl | rfl | rfl | rfl | rfl | rfl | rfl | rfl | rfl | rfl | rfl | rfl | rfl | rfl | rfl | rfl | rfl | rfl
  · rw [show floN k rd r1 r2 r3 rm sz us wd = (0, false) from by unfold floN; repeat rw [if_neg (by omega)]]
    exact flo_lo k rd r1 r2 r3 rm c sz i hi ui us wd w h
  · rw [show floN k rd r1 r2 r3 rm sz us wd = (0, false) from by unfold floN; repeat rw [if_neg (by omega)]]
    exact flo_hi k rd r1 r2 r3 rm c sz i hi ui us wd w h
  · rw [show floN 55 rd r1 r2 r3 rm sz us wd = (or32 (or32 (floB sz rd r1 r2) (0 * 134217728)) (putN rm 12 3), true) from by unfold floN; repeat (first | rw [if_pos (by decide)] | rw [if_neg (by decide)]); rfl]
    exact flo_55 rd r1 r2 r3 rm c sz i hi ui us wd w
  · rw [show floN 56 rd r1 r2 r3 rm sz us wd = (or32 (or32 (floB sz rd r1 r2) (1 * 134217728)) (putN rm 12 3), true) from by unfold floN; repeat (first | rw [if_pos (by decide)] | rw [if_neg (by decide)]); rfl]
    exact flo_56 rd r1 r2 r3 rm c sz i hi ui us wd w
  · rw [show floN 57 rd r1 r2 r3 rm sz us wd = (or32 (or32 (floB sz rd r1 r2) (2 * 134217728)) (putN rm 12 3), true) from by unfold floN; repeat (first | rw [if_pos (by decide)] | rw [if_neg (by decide)]); rfl]
    exact flo_57 rd r1 r2 r3 rm c sz i hi ui us wd w
  · rw [show floN 58 rd r1 r2 r3 rm sz us wd = (or32 (or32 (floB sz rd r1 r2) (3 * 134217728)) (putN rm 12 3), true) from by unfold floN; repeat (first | rw [if_pos (by decide)] | rw [if_neg (by decide)]); rfl]
    exact flo_58 rd r1 r2 r3 rm c sz i hi ui us wd w
  · rw [show floN 59 rd r1 r2 r3 rm sz us wd = (or32 (or32 (floB sz rd r1 r2) 1476395008) (putN rm 12 3), true) from by unfold floN; repeat (first | rw [if_pos (by decide)] | rw [if_neg (by decide)]); rfl]
    exact flo_59 rd r1 r2 r3 rm c sz i hi ui us wd w
  · rw [show floN 60 rd r1 r2 r3 rm sz us wd = (or32 (or32 (or32 (or32 (an7 (floB sz rd r1 r2)) 67) (0 * 4)) (putN r3 27 5)) (putN rm 12 3), true) from by unfold floN; repeat (first | rw [if_pos (by decide)] | rw [if_neg (by decide)]); rfl]
    exact flo_60 rd r1 r2 r3 rm c sz i hi ui us wd w
  · rw [show floN 61 rd r1 r2 r3 rm sz us wd = (or32 (or32 (or32 (or32 (an7 (floB sz rd r1 r2)) 67) (1 * 4)) (putN r3 27 5)) (putN rm 12 3), true) from by unfold floN; repeat (first | rw [if_pos (by decide)] | rw [if_neg (by decide)]); rfl]
    exact flo_61 rd r1 r2 r3 rm c sz i hi ui us wd w
  · rw [show floN 62 rd r1 r2 r3 rm sz us wd = (or32 (or32 (or32 (or32 (an7 (floB sz rd r1 r2)) 67) (2 * 4)) (putN r3 27 5)) (putN rm 12 3), true) from by unfold floN; repeat (first | rw [if_pos (by decide)] | rw [if_neg (by decide)]); rfl]
    exact flo_62 rd r1 r2 r3 rm c sz i hi ui us wd w
  · rw [show floN 63 rd r1 r2 r3 rm sz us wd = (or32 (or32 (or32 (or32 (an7 (floB sz rd r1 r2)) 67) (3 * 4)) (putN r3 27 5)) (putN rm 12 3), true) from by unfold floN; repeat (first | rw [if_pos (by decide)] | rw [if_neg (by decide)]); rfl]
    exact flo_63 rd r1 r2 r3 rm c sz i hi ui us wd w
  · rw [show floN 64 rd r1 r2 r3 rm sz us wd = (or32 (or32 (floB sz rd r1 r2) 536870912) (0 * 4096), true) from by unfold floN; repeat (first | rw [if_pos (by decide)] | rw [if_neg (by decide)]); rfl]
    exact flo_64 rd r1 r2 r3 rm c sz i hi ui us wd w
  · rw [show floN 65 rd r1 r2 r3 rm sz us wd = (or32 (or32 (floB sz rd r1 r2) 536870912) (1 * 4096), true) from by unfold floN; repeat (first | rw [if_pos (by decide)] | rw [if_neg (by decide)]); rfl]
    exact flo_65 rd r1 r2 r3 rm c sz i hi ui us wd w
  · rw [show floN 66 rd r1 r2 r3 rm sz us wd = (or32 (or32 (floB sz rd r1 r2) 536870912) (2 * 4096), true) from by unfold floN; repeat (first | rw [if_pos (by decide)] | rw [if_neg (by decide)]); rfl]
    exact flo_66 rd r1 r2 r3 rm c sz i hi ui us wd w
  · rw [show floN 67 rd r1 r2 r3 rm sz us wd = (or32 (or32 (floB sz rd r1 r2) 671088640) (0 * 4096), true) from by unfold floN; repeat (first | rw [if_pos (by decide)] | rw [if_neg (by decide)]); rfl]
    exact flo_67 rd r1 r2 r3 rm c sz i hi ui us wd w
  · rw [show floN 68 rd r1 r2 r3 rm sz us wd = (or32 (or32 (floB sz rd r1 r2) 671088640) (1 * 4096), true) from by unfold floN; repeat (first | rw [if_pos (by decide)] | rw [if_neg (by decide)]); rfl]
    exact flo_68 rd r1 r2 r3 rm c sz i hi ui us wd w
  · rw [show floN 69 rd r1 r2 r3 rm sz us wd = (or32 (or32 (floB sz rd r1 r2) 2684354560) (2 * 4096), true) from by unfold floN; repeat (first | rw [if_pos (by decide)] | rw [if_neg (by decide)]); rfl]
    exact flo_69 rd r1 r2 r3 rm c sz i hi ui us wd w
  · rw [show floN 70 rd r1 r2 r3 rm sz us wd = (or32 (or32 (floB sz rd r1 r2) 2684354560) (1 * 4096), true) from by unfold floN; repeat (first | rw [if_pos (by decide)] | rw [if_neg (by decide)]); rfl]
    exact flo_70 rd r1 r2 r3 rm c sz i hi ui us wd w
  · rw [show floN 71 rd r1 r2 r3 rm sz us wd = (or32 (or32 (floB sz rd r1 r2) 2684354560) (0 * 4096), true) from by unfold floN; repeat (first | rw [if_pos (by decide)] | rw [if_neg (by decide)]); rfl]
    exact flo_71 rd r1 r2 r3 rm c sz i hi ui us wd w
  · rw [show floN 72 rd r1 r2 r3 rm sz us wd = (or32 (or32 (floB sz rd r1 r2) 3758096384) 4096, true) from by unfold floN; repeat (first | rw [if_pos (by decide)] | rw [if_neg (by decide)]); rfl]
    exact flo_72 rd r1 r2 r3 rm c sz i hi ui us wd w
  · rw [show floN 73 rd r1 r2 r3 rm sz us wd = (or32 (or32 (or32 (floB sz rd r1 r2) 3221225472) (cvN us wd)) (putN rm 12 3), true) from by unfold floN; repeat (first | rw [if_pos (by decide)] | rw [if_neg (by decide)]); rfl]
    exact flo_73 rd r1 r2 r3 rm c sz i hi ui us wd w
  · rw [show floN 74 rd r1 r2 r3 rm sz us wd = (or32 (or32 (or32 (floB sz rd r1 r2) 3489660928) (cvN us wd)) (putN rm 12 3), true) from by unfold floN; repeat (first | rw [if_pos (by decide)] | rw [if_neg (by decide)]); rfl]
    exact flo_74 rd r1 r2 r3 rm c sz i hi ui us wd w
  · rw [show floN 75 rd r1 r2 r3 rm sz us wd = (or32 (or32 (or32 (floB sz rd r1 r2) 1073741824) ((sz == 4).toNat * 1048576 % 4294967296)) (putN rm 12 3), true) from by unfold floN; repeat (first | rw [if_pos (by decide)] | rw [if_neg (by decide)]); rfl]
    exact flo_75 rd r1 r2 r3 rm c sz i hi ui us wd w
  · rw [show floN 76 rd r1 r2 r3 rm sz us wd = (or32 (floB sz rd r1 r2) 3758096384, true) from by unfold floN; repeat (first | rw [if_pos (by decide)] | rw [if_neg (by decide)]); rfl]
    exact flo_76 rd r1 r2 r3 rm c sz i hi ui us wd w
  · rw [show floN 77 rd r1 r2 r3 rm sz us wd = (or32 (floB sz rd r1 r2) 4026531840, true) from by unfold floN; repeat (first | rw [if_pos (by decide)] | rw [if_neg (by decide)]); rfl]
    exact flo_77 rd r1 r2 r3 rm c sz i hi ui us wd w
end Go.Proofs.Ytopbdiekfhikmaa
