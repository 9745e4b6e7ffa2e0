/- Layer 3: bits of instructions (all). -/
import Derived.Test.YtopbdiekfhikmaaE5A
import Derived.Test.YtopbdiekfhikmaaE5B
import Derived.Test.YtopbdiekfhikmaaE5C
import Derived.Test.YtopbdiekfhikmaaE5D
namespace Go.Proofs.Ytopbdiekfhikmaa
open Go.RowKit
theorem br_none {k : Int} (h : ¬ (5 ≤ k ∧ k ≤ 10)) : placeN brL k = -1 := by
  unfold placeN brL
  simp only [plF]
  repeat rw [if_neg (by omega)]
theorem at_none {k : Int} (h : ¬ (38 ≤ k ∧ k ≤ 48)) : placeN atL k = -1 := by
  unfold placeN atL
  simp only [plF]
  repeat rw [if_neg (by omega)]
set_option maxRecDepth 100000 in
set_option maxHeartbeats 4000000 in
theorem form_any (k rd r1 r2 r3 rm c sz i : Int) (hi : (Lit.int .i64 i).wf = true) (hz : (Lit.int .i64 sz).wf = true) (ui us wd : Bool) (w : World) : Calls Try.prog 33 #[.agg #[.int .i64 k, .int .i64 rd, .int .i64 r1, .int .i64 r2, .int .i64 r3, .int .i64 rm, .int .i64 c, .int .i64 sz, .int .i64 i, .bool ui, .bool us, .bool wd]] w fun e w' => e = .returned (.tuple #[.int .u32 ((formN k rd r1 r2 r3 rm c sz i ui us wd).1 : Nat), .bool (formN k rd r1 r2 r3 rm c sz i ui us wd).2]) ∧ GN w w' := by
  have hc : (k ≠ 1 ∧ k ≠ 2 ∧ k ≠ 3 ∧ k ≠ 4 ∧ k ≠ 11 ∧ k ≠ 12 ∧ k ≠ 53 ∧ k ≠ 54 ∧ k ≠ 31 ∧ k ≠ 32 ∧ k ≠ 33 ∧ k ≠ 34 ∧ k ≠ 50 ∧ k ≠ 49 ∧ k ≠ 51 ∧ k ≠ 52 ∧ k ≠ 35 ∧ k ≠ 36 ∧ k ≠ 37 ∧ k ≠ 5 ∧ k ≠ 6 ∧ k ≠ 7 ∧ k ≠ 8 ∧ k ≠ 9 ∧ k ≠ 10 ∧ k ≠ 38 ∧ k ≠ 39 ∧ k ≠ 40 ∧ k ≠ 41 ∧ k ≠ 42 ∧ k ≠ 43 ∧ k ≠ 44 ∧ k ≠ 45 ∧ k ≠ 46 ∧ k ≠ 47 ∧ k ≠ 48) ∨ k = 1 ∨ k = 2 ∨ k = 3 ∨ k = 4 ∨ k = 11 ∨ k = 12 ∨ k = 53 ∨ k = 54 ∨ k = 31 ∨ k = 32 ∨ k = 33 ∨ k = 34 ∨ k = 50 ∨ k = 49 ∨ k = 51 ∨ k = 52 ∨ k = 35 ∨ k = 36 ∨ k = 37 ∨ k = 5 ∨ k = 6 ∨ k = 7 ∨ k = 8 ∨ k = 9 ∨ k = 10 ∨ k = 38 ∨ k = 39 ∨ k = 40 ∨ k = 41 ∨ k = 42 ∨ k = 43 ∨ k = 44 ∨ k = 45 ∨ k = 46 ∨ k = 47 ∨ k = 48 := by omega
  rcases hc with h | rfl | rfl | rfl | rfl | rfl | rfl | rfl | rfl | rfl | rfl | rfl | rfl | rfl | rfl | rfl | rfl | rfl | rfl | rfl | rfl | rfl | rfl | rfl | rfl | rfl | rfl | rfl | rfl | rfl | rfl | rfl | rfl | rfl | rfl | rfl | rfl
  · rw [show formN k rd r1 r2 r3 rm c sz i ui us wd = (if (sumN k rd r1 r2 i ui wd).2 = true then ((sumN k rd r1 r2 i ui wd).1, true) else floN k rd r1 r2 r3 rm sz us wd) from by unfold formN; repeat (first | rw [if_neg (by omega)])]
    obtain ⟨h1, h2, h3, h4, h11, h12, h53, h54, h31, h32, h33, h34, h50, h49, h51, h52, h35, h36, h37, h5, h6, h7, h8, h9, h10, h38, h39, h40, h41, h42, h43, h44, h45, h46, h47, h48⟩ := h
    have hb : placeN brL k = -1 := br_none (by omega)
    have ha : placeN atL k = -1 := at_none (by omega)
    cases hs : (sumN k rd r1 r2 i ui wd).2 with
    | true =>
      rw [if_pos rfl]
      exact form_sum k rd r1 r2 r3 rm c sz i hi hz ui us wd w (ne_b h1) (ne_b h2) (ne_b h3) (ne_b h4) (ne_b h11) (ne_b h12) (ne_b h53) (ne_b h54) (ne_b h31) (ne_b h32) (ne_b h33) (ne_b h34) (ne_b h50) (ne_b h49) (ne_b h51) (ne_b h52) (ne_b h35) (ne_b h36) (ne_b h37) hb ha hs
    | false =>
      rw [if_neg (by decide)]
      exact form_flo k rd r1 r2 r3 rm c sz i hi hz ui us wd w (ne_b h1) (ne_b h2) (ne_b h3) (ne_b h4) (ne_b h11) (ne_b h12) (ne_b h53) (ne_b h54) (ne_b h31) (ne_b h32) (ne_b h33) (ne_b h34) (ne_b h50) (ne_b h49) (ne_b h51) (ne_b h52) (ne_b h35) (ne_b h36) (ne_b h37) hb ha hs
  · rw [show formN 1 rd r1 r2 r3 rm c sz i ui us wd = (or32 (or32 (55) (putN rd 7 5)) (an12 i), true) from by unfold formN; repeat (first | rw [if_pos (by decide)] | rw [if_neg (by decide)])]
    exact form_1 rd r1 r2 r3 rm c sz i hi hz ui us wd w
  · rw [show formN 2 rd r1 r2 r3 rm c sz i ui us wd = (or32 (or32 (23) (putN rd 7 5)) (an12 i), true) from by unfold formN; repeat (first | rw [if_pos (by decide)] | rw [if_neg (by decide)])]
    exact form_2 rd r1 r2 r3 rm c sz i hi hz ui us wd w
  · rw [show formN 3 rd r1 r2 r3 rm c sz i ui us wd = (or32 (or32 (or32 (or32 (or32 (111) (putN rd 7 5)) (putN (i / 2) 21 10)) (putN (i / 2048) 20 1)) (putN (i / 4096) 12 8)) (putN (i / 1048576) 31 1), true) from by unfold formN; repeat (first | rw [if_pos (by decide)] | rw [if_neg (by decide)])]
    exact form_3 rd r1 r2 r3 rm c sz i hi hz ui us wd w
  · rw [show formN 4 rd r1 r2 r3 rm c sz i ui us wd = (or32 (103) (iN rd r1 i), true) from by unfold formN; repeat (first | rw [if_pos (by decide)] | rw [if_neg (by decide)])]
    exact form_4 rd r1 r2 r3 rm c sz i hi hz ui us wd w
  · rw [show formN 11 rd r1 r2 r3 rm c sz i ui us wd = (or32 (or32 (or32 (3) (logN sz * 4096 % 4294967296)) (us.toNat * 16384 % 4294967296)) (iN rd r1 i), true) from by unfold formN; repeat (first | rw [if_pos (by decide)] | rw [if_neg (by decide)])]
    exact form_11 rd r1 r2 r3 rm c sz i hi hz ui us wd w
  · rw [show formN 12 rd r1 r2 r3 rm c sz i ui us wd = (or32 (or32 (35) (logN sz * 4096 % 4294967296)) (sN r1 r2 i), true) from by unfold formN; repeat (first | rw [if_pos (by decide)] | rw [if_neg (by decide)])]
    exact form_12 rd r1 r2 r3 rm c sz i hi hz ui us wd w
  · rw [show formN 53 rd r1 r2 r3 rm c sz i ui us wd = (or32 (or32 (7) (logN sz * 4096 % 4294967296)) (iN rd r1 i), true) from by unfold formN; repeat (first | rw [if_pos (by decide)] | rw [if_neg (by decide)])]
    exact form_53 rd r1 r2 r3 rm c sz i hi hz ui us wd w
  · rw [show formN 54 rd r1 r2 r3 rm c sz i ui us wd = (or32 (or32 (39) (logN sz * 4096 % 4294967296)) (sN r1 r2 i), true) from by unfold formN; repeat (first | rw [if_pos (by decide)] | rw [if_neg (by decide)])]
    exact form_54 rd r1 r2 r3 rm c sz i hi hz ui us wd w
  · rw [show formN 31 rd r1 r2 r3 rm c sz i ui us wd = (15, true) from by unfold formN; repeat (first | rw [if_pos (by decide)] | rw [if_neg (by decide)])]
    exact form_31 rd r1 r2 r3 rm c sz i hi hz ui us wd w
  · rw [show formN 32 rd r1 r2 r3 rm c sz i ui us wd = (4111, true) from by unfold formN; repeat (first | rw [if_pos (by decide)] | rw [if_neg (by decide)])]
    exact form_32 rd r1 r2 r3 rm c sz i hi hz ui us wd w
  · rw [show formN 33 rd r1 r2 r3 rm c sz i ui us wd = (115, true) from by unfold formN; repeat (first | rw [if_pos (by decide)] | rw [if_neg (by decide)])]
    exact form_33 rd r1 r2 r3 rm c sz i hi hz ui us wd w
  · rw [show formN 34 rd r1 r2 r3 rm c sz i ui us wd = (1048691, true) from by unfold formN; repeat (first | rw [if_pos (by decide)] | rw [if_neg (by decide)])]
    exact form_34 rd r1 r2 r3 rm c sz i hi hz ui us wd w
  · rw [show formN 50 rd r1 r2 r3 rm c sz i ui us wd = (270532723, true) from by unfold formN; repeat (first | rw [if_pos (by decide)] | rw [if_neg (by decide)])]
    exact form_50 rd r1 r2 r3 rm c sz i hi hz ui us wd w
  · rw [show formN 49 rd r1 r2 r3 rm c sz i ui us wd = (807403635, true) from by unfold formN; repeat (first | rw [if_pos (by decide)] | rw [if_neg (by decide)])]
    exact form_49 rd r1 r2 r3 rm c sz i hi hz ui us wd w
  · rw [show formN 51 rd r1 r2 r3 rm c sz i ui us wd = (273678451, true) from by unfold formN; repeat (first | rw [if_pos (by decide)] | rw [if_neg (by decide)])]
    exact form_51 rd r1 r2 r3 rm c sz i hi hz ui us wd w
  · rw [show formN 52 rd r1 r2 r3 rm c sz i ui us wd = (or32 (301990003) (rN rd r1 r2), true) from by unfold formN; repeat (first | rw [if_pos (by decide)] | rw [if_neg (by decide)])]
    exact form_52 rd r1 r2 r3 rm c sz i hi hz ui us wd w
  · cases ui
    · rw [show formN 35 rd r1 r2 r3 rm c sz i false us wd = (or32 (or32 (or32 (or32 (115) (4096)) (putN rd 7 5)) (putN r1 15 5)) (putN c 20 12), true) from by unfold formN; repeat (first | rw [if_pos (by decide)] | rw [if_neg (by decide)])]
      exact form_35f rd r1 r2 r3 rm c sz i hi hz us wd w
    · rw [show formN 35 rd r1 r2 r3 rm c sz i true us wd = (or32 (or32 (or32 (or32 (115) (20480)) (putN rd 7 5)) (putN i 15 5)) (putN c 20 12), true) from by unfold formN; repeat (first | rw [if_pos (by decide)] | rw [if_neg (by decide)])]
      exact form_35t rd r1 r2 r3 rm c sz i hi hz us wd w
  · cases ui
    · rw [show formN 36 rd r1 r2 r3 rm c sz i false us wd = (or32 (or32 (or32 (or32 (115) (8192)) (putN rd 7 5)) (putN r1 15 5)) (putN c 20 12), true) from by unfold formN; repeat (first | rw [if_pos (by decide)] | rw [if_neg (by decide)])]
      exact form_36f rd r1 r2 r3 rm c sz i hi hz us wd w
    · rw [show formN 36 rd r1 r2 r3 rm c sz i true us wd = (or32 (or32 (or32 (or32 (115) (24576)) (putN rd 7 5)) (putN i 15 5)) (putN c 20 12), true) from by unfold formN; repeat (first | rw [if_pos (by decide)] | rw [if_neg (by decide)])]
      exact form_36t rd r1 r2 r3 rm c sz i hi hz us wd w
  · cases ui
    · rw [show formN 37 rd r1 r2 r3 rm c sz i false us wd = (or32 (or32 (or32 (or32 (115) (12288)) (putN rd 7 5)) (putN r1 15 5)) (putN c 20 12), true) from by unfold formN; repeat (first | rw [if_pos (by decide)] | rw [if_neg (by decide)])]
      exact form_37f rd r1 r2 r3 rm c sz i hi hz us wd w
    · rw [show formN 37 rd r1 r2 r3 rm c sz i true us wd = (or32 (or32 (or32 (or32 (115) (28672)) (putN rd 7 5)) (putN i 15 5)) (putN c 20 12), true) from by unfold formN; repeat (first | rw [if_pos (by decide)] | rw [if_neg (by decide)])]
      exact form_37t rd r1 r2 r3 rm c sz i hi hz us wd w
  · rw [show formN 5 rd r1 r2 r3 rm c sz i ui us wd = (or32 (or32 (or32 (or32 (or32 (or32 (or32 (99) (0)) (putN r1 15 5)) (putN r2 20 5)) (putN (i / 2) 8 4)) (putN (i / 32) 25 6)) (putN (i / 2048) 7 1)) (putN (i / 4096) 31 1), true) from by unfold formN; repeat (first | rw [if_pos (by decide)] | rw [if_neg (by decide)])]
    exact form_5 rd r1 r2 r3 rm c sz i hi hz ui us wd w
  · rw [show formN 6 rd r1 r2 r3 rm c sz i ui us wd = (or32 (or32 (or32 (or32 (or32 (or32 (or32 (99) (4096)) (putN r1 15 5)) (putN r2 20 5)) (putN (i / 2) 8 4)) (putN (i / 32) 25 6)) (putN (i / 2048) 7 1)) (putN (i / 4096) 31 1), true) from by unfold formN; repeat (first | rw [if_pos (by decide)] | rw [if_neg (by decide)])]
    exact form_6 rd r1 r2 r3 rm c sz i hi hz ui us wd w
  · rw [show formN 7 rd r1 r2 r3 rm c sz i ui us wd = (or32 (or32 (or32 (or32 (or32 (or32 (or32 (99) (16384)) (putN r1 15 5)) (putN r2 20 5)) (putN (i / 2) 8 4)) (putN (i / 32) 25 6)) (putN (i / 2048) 7 1)) (putN (i / 4096) 31 1), true) from by unfold formN; repeat (first | rw [if_pos (by decide)] | rw [if_neg (by decide)])]
    exact form_7 rd r1 r2 r3 rm c sz i hi hz ui us wd w
  · rw [show formN 8 rd r1 r2 r3 rm c sz i ui us wd = (or32 (or32 (or32 (or32 (or32 (or32 (or32 (99) (20480)) (putN r1 15 5)) (putN r2 20 5)) (putN (i / 2) 8 4)) (putN (i / 32) 25 6)) (putN (i / 2048) 7 1)) (putN (i / 4096) 31 1), true) from by unfold formN; repeat (first | rw [if_pos (by decide)] | rw [if_neg (by decide)])]
    exact form_8 rd r1 r2 r3 rm c sz i hi hz ui us wd w
  · rw [show formN 9 rd r1 r2 r3 rm c sz i ui us wd = (or32 (or32 (or32 (or32 (or32 (or32 (or32 (99) (24576)) (putN r1 15 5)) (putN r2 20 5)) (putN (i / 2) 8 4)) (putN (i / 32) 25 6)) (putN (i / 2048) 7 1)) (putN (i / 4096) 31 1), true) from by unfold formN; repeat (first | rw [if_pos (by decide)] | rw [if_neg (by decide)])]
    exact form_9 rd r1 r2 r3 rm c sz i hi hz ui us wd w
  · rw [show formN 10 rd r1 r2 r3 rm c sz i ui us wd = (or32 (or32 (or32 (or32 (or32 (or32 (or32 (99) (28672)) (putN r1 15 5)) (putN r2 20 5)) (putN (i / 2) 8 4)) (putN (i / 32) 25 6)) (putN (i / 2048) 7 1)) (putN (i / 4096) 31 1), true) from by unfold formN; repeat (first | rw [if_pos (by decide)] | rw [if_neg (by decide)])]
    exact form_10 rd r1 r2 r3 rm c sz i hi hz ui us wd w
  · rw [show formN 38 rd r1 r2 r3 rm c sz i ui us wd = (or32 (or32 (or32 (47) (logN sz * 4096 % 4294967296)) (268435456)) (rN rd r1 r2), true) from by unfold formN; repeat (first | rw [if_pos (by decide)] | rw [if_neg (by decide)])]
    exact form_38 rd r1 r2 r3 rm c sz i hi hz ui us wd w
  · rw [show formN 39 rd r1 r2 r3 rm c sz i ui us wd = (or32 (or32 (or32 (47) (logN sz * 4096 % 4294967296)) (402653184)) (rN rd r1 r2), true) from by unfold formN; repeat (first | rw [if_pos (by decide)] | rw [if_neg (by decide)])]
    exact form_39 rd r1 r2 r3 rm c sz i hi hz ui us wd w
  · rw [show formN 40 rd r1 r2 r3 rm c sz i ui us wd = (or32 (or32 (or32 (47) (logN sz * 4096 % 4294967296)) (134217728)) (rN rd r1 r2), true) from by unfold formN; repeat (first | rw [if_pos (by decide)] | rw [if_neg (by decide)])]
    exact form_40 rd r1 r2 r3 rm c sz i hi hz ui us wd w
  · rw [show formN 41 rd r1 r2 r3 rm c sz i ui us wd = (or32 (or32 (or32 (47) (logN sz * 4096 % 4294967296)) (0)) (rN rd r1 r2), true) from by unfold formN; repeat (first | rw [if_pos (by decide)] | rw [if_neg (by decide)])]
    exact form_41 rd r1 r2 r3 rm c sz i hi hz ui us wd w
  · rw [show formN 42 rd r1 r2 r3 rm c sz i ui us wd = (or32 (or32 (or32 (47) (logN sz * 4096 % 4294967296)) (536870912)) (rN rd r1 r2), true) from by unfold formN; repeat (first | rw [if_pos (by decide)] | rw [if_neg (by decide)])]
    exact form_42 rd r1 r2 r3 rm c sz i hi hz ui us wd w
  · rw [show formN 43 rd r1 r2 r3 rm c sz i ui us wd = (or32 (or32 (or32 (47) (logN sz * 4096 % 4294967296)) (1610612736)) (rN rd r1 r2), true) from by unfold formN; repeat (first | rw [if_pos (by decide)] | rw [if_neg (by decide)])]
    exact form_43 rd r1 r2 r3 rm c sz i hi hz ui us wd w
  · rw [show formN 44 rd r1 r2 r3 rm c sz i ui us wd = (or32 (or32 (or32 (47) (logN sz * 4096 % 4294967296)) (1073741824)) (rN rd r1 r2), true) from by unfold formN; repeat (first | rw [if_pos (by decide)] | rw [if_neg (by decide)])]
    exact form_44 rd r1 r2 r3 rm c sz i hi hz ui us wd w
  · rw [show formN 45 rd r1 r2 r3 rm c sz i ui us wd = (or32 (or32 (or32 (47) (logN sz * 4096 % 4294967296)) (2147483648)) (rN rd r1 r2), true) from by unfold formN; repeat (first | rw [if_pos (by decide)] | rw [if_neg (by decide)])]
    exact form_45 rd r1 r2 r3 rm c sz i hi hz ui us wd w
  · rw [show formN 46 rd r1 r2 r3 rm c sz i ui us wd = (or32 (or32 (or32 (47) (logN sz * 4096 % 4294967296)) (2684354560)) (rN rd r1 r2), true) from by unfold formN; repeat (first | rw [if_pos (by decide)] | rw [if_neg (by decide)])]
    exact form_46 rd r1 r2 r3 rm c sz i hi hz ui us wd w
  · rw [show formN 47 rd r1 r2 r3 rm c sz i ui us wd = (or32 (or32 (or32 (47) (logN sz * 4096 % 4294967296)) (3221225472)) (rN rd r1 r2), true) from by unfold formN; repeat (first | rw [if_pos (by decide)] | rw [if_neg (by decide)])]
    exact form_47 rd r1 r2 r3 rm c sz i hi hz ui us wd w
  · rw [show formN 48 rd r1 r2 r3 rm c sz i ui us wd = (or32 (or32 (or32 (47) (logN sz * 4096 % 4294967296)) (3758096384)) (rN rd r1 r2), true) from by unfold formN; repeat (first | rw [if_pos (by decide)] | rw [if_neg (by decide)])]
    exact form_48 rd r1 r2 r3 rm c sz i hi hz ui us wd w
end Go.Proofs.Ytopbdiekfhikmaa
