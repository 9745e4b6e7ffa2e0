/- Layer 3: fields, joined. -/
import Derived.Test.YtopbdiekfhikmaaL3
namespace Go.Proofs.Ytopbdiekfhikmaa
open Go.RowKit
theorem flo_low (op f l h s rd r1 r2 : Nat) (iI iS : Int) (h4 : op % 4 ≠ 3) : floK op f l h s rd r1 r2 iI iS = zero := by
  unfold floK
  rw [if_neg (by omega), if_neg (by omega)]
  split
  · rfl
  · rw [if_neg (by omega), if_neg (by omega)]
theorem dec_low (b : Nat) (h : b % 4 ≠ 3) : decN b = zero := by
  have h4 : fd b 0 7 % 4 ≠ 3 := by unfold fd; omega
  unfold decN decK
  repeat rw [if_neg (show ¬ (fd b 0 7 = _) by omega)]
  unfold fallN floatN
  rw [flo_low _ _ _ _ _ _ _ _ _ _ h4]
  rfl
theorem fields_walk (b : Nat) (hb : b < 4294967296) (w : World) : Calls Try.prog 6 #[.int .u32 b] w fun e w' => e = .returned (.bool true) ∧ GN w w' := by
  have ha : bits .and .u32 (b : Int) 3 = ((b % 4 : Nat) : Int) := by
    have := and32_cast b 3
    rw [show (3 : Nat) = (2 ^ 2 - 1) % 4294967296 from rfl, and_mask32 b 2 (by decide)] at this
    exact this.symm
  by_cases h : b % 4 = 3
  · have hF := fok_dec b
    rcases hx : decN b with ⟨k, rd, r1, r2, r3, rm, c, sz, i, ui, us, wd⟩
    rw [hx] at hF
    exact fields_high b hb _ ha (by rw [h]; rfl) (by rw [h]; rfl) k rd r1 r2 r3 rm c sz i ui us wd hF hx w
  · exact fields_low b hb _ ha (ne_b (by omega)) (ne_t (by omega)) (dec_low b h) w
end Go.Proofs.Ytopbdiekfhikmaa
