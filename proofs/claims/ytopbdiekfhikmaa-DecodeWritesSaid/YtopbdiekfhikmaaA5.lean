/- Layer 3, the document's side: the document and the program read alike. -/
import Derived.Test.YtopbdiekfhikmaaA1
namespace Go.Proofs.Ytopbdiekfhikmaa
theorem tk_0 (k s : Int) (w u : Bool) (b : Nat) : takeC ⟨k, 0, s, w, u⟩ b = ⟨k, 0, 0, 0, 0, 0, 0, s, 0, false, u, w⟩ := by
  unfold takeC takeN readN immF 
  simp only [show formOf 0 = ⟨#[]⟩ from rfl]
  simp [hasF]
theorem tk_12594 (k s : Int) (w u : Bool) (b : Nat) : takeC ⟨k, 12594, s, w, u⟩ b = ⟨k, 0, (fd b 15 5 : Int), (fd b 20 5 : Int), 0, 0, 0, s, 0, false, u, w⟩ := by
  unfold takeC takeN readN immF 
  simp only [show formOf 12594 = ⟨#[49, 50]⟩ from rfl]
  simp [hasF]
theorem tk_3224130 (k s : Int) (w u : Bool) (b : Nat) : takeC ⟨k, 3224130, s, w, u⟩ b = ⟨k, 0, (fd b 15 5 : Int), (fd b 20 5 : Int), 0, 0, 0, s, immB b, false, u, w⟩ := by
  unfold takeC takeN readN immF 
  simp only [show formOf 3224130 = ⟨#[49, 50, 66]⟩ from rfl]
  simp [hasF]
theorem tk_3224147 (k s : Int) (w u : Bool) (b : Nat) : takeC ⟨k, 3224147, s, w, u⟩ b = ⟨k, 0, (fd b 15 5 : Int), (fd b 20 5 : Int), 0, 0, 0, s, immS b, false, u, w⟩ := by
  unfold takeC takeN readN immF 
  simp only [show formOf 3224147 = ⟨#[49, 50, 83]⟩ from rfl]
  simp [hasF]
theorem tk_25649 (k s : Int) (w u : Bool) (b : Nat) : takeC ⟨k, 25649, s, w, u⟩ b = ⟨k, (fd b 7 5 : Int), (fd b 15 5 : Int), 0, 0, 0, 0, s, 0, false, u, w⟩ := by
  unfold takeC takeN readN immF 
  simp only [show formOf 25649 = ⟨#[100, 49]⟩ from rfl]
  simp [hasF]
theorem tk_6566194 (k s : Int) (w u : Bool) (b : Nat) : takeC ⟨k, 6566194, s, w, u⟩ b = ⟨k, (fd b 7 5 : Int), (fd b 15 5 : Int), (fd b 20 5 : Int), 0, 0, 0, s, 0, false, u, w⟩ := by
  unfold takeC takeN readN immF 
  simp only [show formOf 6566194 = ⟨#[100, 49, 50]⟩ from rfl]
  simp [hasF]
theorem tk_430322103154 (k s : Int) (w u : Bool) (b : Nat) : takeC ⟨k, 430322103154, s, w, u⟩ b = roundN (fd b 12 3) ⟨k, (fd b 7 5 : Int), (fd b 15 5 : Int), (fd b 20 5 : Int), (fd b 27 5 : Int), 0, 0, s, 0, false, u, w⟩ := by
  unfold takeC takeN readN immF roundN
  simp only [show formOf 430322103154 = ⟨#[100, 49, 50, 51, 114]⟩ from rfl]
  have hz : ((fd b 12 3 : Int) = 5 ∨ (fd b 12 3 : Int) = 6) = (fd b 12 3 = 5 ∨ fd b 12 3 = 6) := by apply propext; omega
  simp [hasF, zero, hz]
theorem tk_1680945778 (k s : Int) (w u : Bool) (b : Nat) : takeC ⟨k, 1680945778, s, w, u⟩ b = roundN (fd b 12 3) ⟨k, (fd b 7 5 : Int), (fd b 15 5 : Int), (fd b 20 5 : Int), 0, 0, 0, s, 0, false, u, w⟩ := by
  unfold takeC takeN readN immF roundN
  simp only [show formOf 1680945778 = ⟨#[100, 49, 50, 114]⟩ from rfl]
  have hz : ((fd b 12 3 : Int) = 5 ∨ (fd b 12 3 : Int) = 6) = (fd b 12 3 = 5 ∨ fd b 12 3 = 6) := by apply propext; omega
  simp [hasF, zero, hz]
theorem tk_6566217 (k s : Int) (w u : Bool) (b : Nat) : takeC ⟨k, 6566217, s, w, u⟩ b = ⟨k, (fd b 7 5 : Int), (fd b 15 5 : Int), 0, 0, 0, 0, s, immI b, false, u, w⟩ := by
  unfold takeC takeN readN immF 
  simp only [show formOf 6566217 = ⟨#[100, 49, 73]⟩ from rfl]
  simp [hasF]
theorem tk_1680951613 (k s : Int) (w u : Bool) (b : Nat) : takeC ⟨k, 1680951613, s, w, u⟩ b = ⟨k, (fd b 7 5 : Int), (fd b 15 5 : Int), 0, 0, 0, 0, s, immI b, true, u, w⟩ := by
  unfold takeC takeN readN immF 
  simp only [show formOf 1680951613 = ⟨#[100, 49, 73, 61]⟩ from rfl]
  simp [hasF]
theorem tk_6566243 (k s : Int) (w u : Bool) (b : Nat) : takeC ⟨k, 6566243, s, w, u⟩ b = ⟨k, (fd b 7 5 : Int), (fd b 15 5 : Int), 0, 0, 0, (fd b 20 12 : Int), s, 0, false, u, w⟩ := by
  unfold takeC takeN readN immF 
  simp only [show formOf 6566243 = ⟨#[100, 49, 99]⟩ from rfl]
  simp [hasF]
theorem tk_1680959549 (k s : Int) (w u : Bool) (b : Nat) : takeC ⟨k, 1680959549, s, w, u⟩ b = ⟨k, (fd b 7 5 : Int), (fd b 15 5 : Int), 0, 0, 0, 0, s, (fd b 20 6 : Int), true, u, w⟩ := by
  unfold takeC takeN readN immF 
  simp only [show formOf 1680959549 = ⟨#[100, 49, 104, 61]⟩ from rfl]
  simp [hasF]
theorem tk_6566258 (k s : Int) (w u : Bool) (b : Nat) : takeC ⟨k, 6566258, s, w, u⟩ b = roundN (fd b 12 3) ⟨k, (fd b 7 5 : Int), (fd b 15 5 : Int), 0, 0, 0, 0, s, 0, false, u, w⟩ := by
  unfold takeC takeN readN immF roundN
  simp only [show formOf 6566258 = ⟨#[100, 49, 114]⟩ from rfl]
  have hz : ((fd b 12 3 : Int) = 5 ∨ (fd b 12 3 : Int) = 6) = (fd b 12 3 = 5 ∨ fd b 12 3 = 6) := by apply propext; omega
  simp [hasF, zero, hz]
theorem tk_25674 (k s : Int) (w u : Bool) (b : Nat) : takeC ⟨k, 25674, s, w, u⟩ b = ⟨k, (fd b 7 5 : Int), 0, 0, 0, 0, 0, s, immJ b, false, u, w⟩ := by
  unfold takeC takeN readN immF 
  simp only [show formOf 25674 = ⟨#[100, 74]⟩ from rfl]
  simp [hasF]
theorem tk_25685 (k s : Int) (w u : Bool) (b : Nat) : takeC ⟨k, 25685, s, w, u⟩ b = ⟨k, (fd b 7 5 : Int), 0, 0, 0, 0, 0, s, immU b, false, u, w⟩ := by
  unfold takeC takeN readN immF 
  simp only [show formOf 25685 = ⟨#[100, 85]⟩ from rfl]
  simp [hasF]
theorem tk_1684240957 (k s : Int) (w u : Bool) (b : Nat) : takeC ⟨k, 1684240957, s, w, u⟩ b = ⟨k, (fd b 7 5 : Int), 0, 0, 0, 0, (fd b 20 12 : Int), s, (fd b 15 5 : Int), true, u, w⟩ := by
  unfold takeC takeN readN immF 
  simp only [show formOf 1684240957 = ⟨#[100, 99, 122, 61]⟩ from rfl]
  simp [hasF]
theorem nil_take (b : Nat) : takeC nil_ b = zero := by unfold nil_; rw [tk_0]; rfl
theorem fg26 {b : Nat} (hb : b < 4294967296) : fd b 26 6 = fd b 25 7 / 2 := by unfold fd; omega
theorem fg25 (b : Nat) : fd b 25 2 = fd b 25 7 % 4 := by unfold fd; omega
theorem fg27 {b : Nat} (hb : b < 4294967296) : fd b 27 5 = fd b 25 7 / 4 := by unfold fd; omega
theorem fsh (b : Nat) : (31 < fd b 20 6) ↔ fd b 25 7 % 2 = 1 := by unfold fd; omega
def z01 (x : Nat) : Nat := if x = 0 then 0 else 1
theorem z01_0 (x : Nat) : z01 x = 0 ↔ x = 0 := by unfold z01; split <;> simp_all
theorem imm_code {b : Nat} (hb : b < 4294967296) (f : Nat) (short : Bool) : immK f (fd b 26 6) (fd b 20 6) (fd b 7 5) (fd b 15 5) (immI b) short = takeC (immD f (fd b 25 7 / 2) (fd b 25 7 % 2) short) b := by
  have e1 := fg26 hb
  have e2 := fsh b
  unfold immK immD immX
  simp only [e1, e2]
  by_cases h2 : f ≠ 1 ∧ f ≠ 5
  · simp only [if_pos h2]
    by_cases h4 : short = true ∧ f ≠ 0
    · simp only [if_pos h4]
      rw [nil_take]
    · simp only [if_neg h4]
      rw [tk_1680951613]
  · simp only [if_neg h2]
    by_cases h4 : short = true ∧ fd b 25 7 % 2 = 1
    · simp only [if_pos h4]
      rw [nil_take]
    · simp only [if_neg h4]
      by_cases h6 : fd b 25 7 / 2 = 16 ∧ f = 5
      · simp only [if_pos h6]
        rw [tk_1680959549]
      · simp only [if_neg h6]
        by_cases h8 : fd b 25 7 / 2 ≠ 0
        · simp only [if_pos h8]
          rw [nil_take]
        · simp only [if_neg h8]
          rw [tk_1680959549]
theorem reg_code (b f g : Nat) (short : Bool) : regK f g (fd b 7 5) (fd b 15 5) (fd b 20 5) short = takeC (regD f g short) b := by
  unfold regK regD regX
  by_cases h2 : g = 0 ∧ (short = false ∨ f = 0 ∨ f = 1 ∨ f = 5)
  · simp only [if_pos h2]
    rw [tk_6566194]
  · simp only [if_neg h2]
    by_cases h4 : g = 1 ∧ (short = false ∨ f = 0 ∨ 4 ≤ f)
    · simp only [if_pos h4]
      rw [tk_6566194]
    · simp only [if_neg h4]
      by_cases h6 : g = 32 ∧ f = 0
      · simp only [if_pos h6]
        rw [tk_6566194]
      · simp only [if_neg h6]
        by_cases h8 : g = 32 ∧ f = 5
        · simp only [if_pos h8]
          rw [tk_6566194]
        · simp only [if_neg h8]
          rw [nil_take]
theorem atom_code {b : Nat} (hb : b < 4294967296) (f : Nat) : atomI f (fd b 27 5) (fd b 7 5) (fd b 15 5) (fd b 20 5) = takeC (atomD f (fd b 25 7 / 4) (fd b 20 5)) b := by
  unfold atomI atomD
  rw [fg27 hb]
  by_cases h2 : (f ≠ 2 ∧ f ≠ 3) ∨ atomK (fd b 25 7 / 4) = 0 ∨ (atomK (fd b 25 7 / 4) = 38 ∧ fd b 20 5 ≠ 0)
  · simp only [if_pos h2]
    rw [nil_take]
  · simp only [if_neg h2]
    by_cases h4 : atomK (fd b 25 7 / 4) = 38
    · simp only [if_pos h4]
      rw [tk_25649, show fd b 20 5 = 0 by omega]; rfl
    · simp only [if_neg h4]
      rw [tk_6566194]
theorem sys_b {b : Nat} (hb : b < 4294967296) (h0 : fd b 0 7 = 115) (hf : fd b 12 3 = 0) (s g : Nat) (hs : s < 32) (hg : g < 128) : (b = 115 + s * 1048576 + g * 33554432) ↔ (z01 (fd b 7 5) = 0 ∧ z01 (fd b 15 5) = 0 ∧ fd b 20 5 = s ∧ fd b 25 7 = g) := by
  rw [z01_0, z01_0]
  unfold fd at *
  omega
theorem oper_code (b h : Nat) (sz : Int) : operK (fd b 12 3) h (fd b 20 5) (fd b 7 5) (fd b 15 5) (fd b 20 5) sz = takeC (operD (fd b 12 3) h (fd b 20 5) sz) b := by
  unfold operK operD opX
  by_cases h2 : h < 4
  · simp only [if_pos h2]
    (rw [tk_1680945778]; first | done | rfl)
  · simp only [if_neg h2]
    by_cases h4 : h = 4
    · simp only [if_pos h4]
      by_cases h6 : 3 ≤ fd b 12 3
      · simp only [if_pos h6]
        rw [nil_take]
      · simp only [if_neg h6]
        (rw [tk_6566194]; first | done | rfl)
    · simp only [if_neg h4]
      by_cases h6 : h = 5
      · simp only [if_pos h6]
        by_cases h8 : 2 ≤ fd b 12 3
        · simp only [if_pos h8]
          rw [nil_take]
        · simp only [if_neg h8]
          (rw [tk_6566194]; first | done | rfl)
      · simp only [if_neg h6]
        by_cases h8 : h = 20
        · simp only [if_pos h8]
          by_cases h10 : 2 < fd b 12 3
          · simp only [if_pos h10]
            rw [nil_take]
          · simp only [if_neg h10]
            (rw [tk_6566194]; first | done | rfl)
        · simp only [if_neg h8]
          by_cases h10 : h = 11 ∧ fd b 20 5 = 0
          · simp only [if_pos h10]
            (rw [tk_6566258]; first | done | rfl)
          · simp only [if_neg h10]
            by_cases h12 : h = 8 ∧ (sz = 4 ∧ fd b 20 5 = 1 ∨ sz = 8 ∧ fd b 20 5 = 0)
            · simp only [if_pos h12]
              (rw [tk_6566258]; first | done | rfl)
            · simp only [if_neg h12]
              by_cases h14 : h = 24 ∧ fd b 20 5 < 4
              · simp only [if_pos h14]
                (rw [tk_6566258]; first | done | rfl)
              · simp only [if_neg h14]
                by_cases h16 : h = 26 ∧ fd b 20 5 < 4
                · simp only [if_pos h16]
                  (rw [tk_6566258]; first | done | rfl)
                · simp only [if_neg h16]
                  by_cases h18 : h = 28 ∧ fd b 20 5 = 0 ∧ fd b 12 3 = 0
                  · simp only [if_pos h18]
                    (rw [tk_25649]; first | done | rfl)
                  · simp only [if_neg h18]
                    by_cases h20 : h = 28 ∧ fd b 20 5 = 0 ∧ fd b 12 3 = 1
                    · simp only [if_pos h20]
                      (rw [tk_25649]; first | done | rfl)
                    · simp only [if_neg h20]
                      by_cases h22 : h = 30 ∧ fd b 20 5 = 0 ∧ fd b 12 3 = 0
                      · simp only [if_pos h22]
                        (rw [tk_25649]; first | done | rfl)
                      · simp only [if_neg h22]
                        rw [nil_take]
theorem flo_code {b : Nat} (hb : b < 4294967296) : floatN b = takeC (floD (fd b 0 7) (fd b 12 3) (fd b 25 7 % 4) (fd b 25 7 / 4) (fd b 20 5)) b := by
  unfold floatN floK floD
  rw [fg25, fg27 hb]
  by_cases h2 : fd b 0 7 = 7
  · simp only [if_pos h2]
    by_cases h4 : fd b 12 3 = 2 ∨ fd b 12 3 = 3
    · simp only [if_pos h4]
      (rw [tk_6566217]; first | done | rfl)
    · simp only [if_neg h4]
      rw [nil_take]
  · simp only [if_neg h2]
    by_cases h4 : fd b 0 7 = 39
    · simp only [if_pos h4]
      by_cases h6 : fd b 12 3 = 2 ∨ fd b 12 3 = 3
      · simp only [if_pos h6]
        (rw [tk_3224147]; first | done | rfl)
      · simp only [if_neg h6]
        rw [nil_take]
    · simp only [if_neg h4]
      by_cases h6 : 1 < fd b 25 7 % 4
      · simp only [if_pos h6]
        rw [nil_take]
      · simp only [if_neg h6]
        by_cases h8 : fd b 0 7 = 67 ∨ fd b 0 7 = 71 ∨ fd b 0 7 = 75 ∨ fd b 0 7 = 79
        · simp only [if_pos h8]
          (rw [tk_430322103154, fg27 hb]; first | done | rfl)
        · simp only [if_neg h8]
          by_cases h10 : fd b 0 7 = 83
          · simp only [if_pos h10]
            exact oper_code b _ _
          · simp only [if_neg h10]
            rw [nil_take]
theorem oper_kind (f h s : Nat) (sz : Int) : operD f h s sz = nil_ ∨ (operD f h s sz).kind ≠ 0 := by
  unfold operD
  by_cases h2 : h < 4
  · simp only [if_pos h2]
    (right; show (_ : Int) ≠ 0; omega)
  · simp only [if_neg h2]
    by_cases h4 : h = 4
    · simp only [if_pos h4]
      by_cases h6 : 3 ≤ f
      · simp only [if_pos h6]
        first | exact .inl rfl | exact .inl trivial
      · simp only [if_neg h6]
        (right; show (_ : Int) ≠ 0; omega)
    · simp only [if_neg h4]
      by_cases h6 : h = 5
      · simp only [if_pos h6]
        by_cases h8 : 2 ≤ f
        · simp only [if_pos h8]
          first | exact .inl rfl | exact .inl trivial
        · simp only [if_neg h8]
          (right; show (_ : Int) ≠ 0; omega)
      · simp only [if_neg h6]
        by_cases h8 : h = 20
        · simp only [if_pos h8]
          by_cases h10 : 2 < f
          · simp only [if_pos h10]
            first | exact .inl rfl | exact .inl trivial
          · simp only [if_neg h10]
            (right; show (_ : Int) ≠ 0; omega)
        · simp only [if_neg h8]
          by_cases h10 : h = 11 ∧ s = 0
          · simp only [if_pos h10]
            (right; show (_ : Int) ≠ 0; omega)
          · simp only [if_neg h10]
            by_cases h12 : h = 8 ∧ (sz = 4 ∧ s = 1 ∨ sz = 8 ∧ s = 0)
            · simp only [if_pos h12]
              (right; show (_ : Int) ≠ 0; omega)
            · simp only [if_neg h12]
              by_cases h14 : h = 24 ∧ s < 4
              · simp only [if_pos h14]
                (right; show (_ : Int) ≠ 0; omega)
              · simp only [if_neg h14]
                by_cases h16 : h = 26 ∧ s < 4
                · simp only [if_pos h16]
                  (right; show (_ : Int) ≠ 0; omega)
                · simp only [if_neg h16]
                  by_cases h18 : h = 28 ∧ s = 0 ∧ f = 0
                  · simp only [if_pos h18]
                    (right; show (_ : Int) ≠ 0; omega)
                  · simp only [if_neg h18]
                    by_cases h20 : h = 28 ∧ s = 0 ∧ f = 1
                    · simp only [if_pos h20]
                      (right; show (_ : Int) ≠ 0; omega)
                    · simp only [if_neg h20]
                      by_cases h22 : h = 30 ∧ s = 0 ∧ f = 0
                      · simp only [if_pos h22]
                        (right; show (_ : Int) ≠ 0; omega)
                      · simp only [if_neg h22]
                        first | exact .inl rfl | exact .inl trivial
theorem flo_kind (op f l h s : Nat) : floD op f l h s = nil_ ∨ (floD op f l h s).kind ≠ 0 := by
  unfold floD
  by_cases h2 : op = 7
  · simp only [if_pos h2]
    by_cases h4 : f = 2 ∨ f = 3
    · simp only [if_pos h4]
      (right; show (_ : Int) ≠ 0; omega)
    · simp only [if_neg h4]
      first | exact .inl rfl | exact .inl trivial
  · simp only [if_neg h2]
    by_cases h4 : op = 39
    · simp only [if_pos h4]
      by_cases h6 : f = 2 ∨ f = 3
      · simp only [if_pos h6]
        (right; show (_ : Int) ≠ 0; omega)
      · simp only [if_neg h6]
        first | exact .inl rfl | exact .inl trivial
    · simp only [if_neg h4]
      by_cases h6 : 1 < l
      · simp only [if_pos h6]
        first | exact .inl rfl | exact .inl trivial
      · simp only [if_neg h6]
        by_cases h8 : op = 67 ∨ op = 71 ∨ op = 75 ∨ op = 79
        · simp only [if_pos h8]
          (right; show (_ : Int) ≠ 0; omega)
        · simp only [if_neg h8]
          by_cases h10 : op = 83
          · simp only [if_pos h10]
            exact oper_kind _ _ _ _
          · simp only [if_neg h10]
            first | exact .inl rfl | exact .inl trivial
theorem fall_take (c : Code) (b : Nat) (h : c = nil_ ∨ c.kind ≠ 0) : fallN (takeC c b) = takeC c b := by
  unfold fallN
  split
  · rename_i hk
    rcases h with h | h
    · rw [h, nil_take]
    · unfold takeC takeN at hk ⊢
      split at hk
      · rename_i hr; rw [if_pos hr]
      · exact absurd hk h
  · rfl
theorem fall_code {b : Nat} (hb : b < 4294967296) : fallN (floatN b) = takeC (floD (fd b 0 7) (fd b 12 3) (fd b 25 7 % 4) (fd b 25 7 / 4) (fd b 20 5)) b := by
  rw [flo_code hb, fall_take _ _ (flo_kind _ _ _ _ _)]
theorem sys_code {b : Nat} (hb : b < 4294967296) (h0 : fd b 0 7 = 115) : sysK b (fd b 12 3) (fd b 25 7) (fd b 7 5) (fd b 15 5) (fd b 20 5) (fd b 20 12) = takeC (sysD (fd b 12 3) (fd b 25 7) (fd b 20 5) (z01 (fd b 7 5)) (z01 (fd b 15 5))) b := by
  unfold sysK sysD
  by_cases f4 : fd b 12 3 = 4
  · rw [if_pos f4, if_pos f4]
    rw [nil_take]
  · rw [if_neg f4, if_neg f4]
    by_cases f5 : 4 < fd b 12 3
    · rw [if_pos f5, if_pos f5]
      (rw [tk_1684240957]; first | done | rfl)
    · rw [if_neg f5, if_neg f5]
      by_cases f6 : 0 < fd b 12 3
      · rw [if_pos f6, if_pos f6]
        (rw [tk_6566243]; first | done | rfl)
      · rw [if_neg f6, if_neg f6]
        have hf : fd b 12 3 = 0 := by omega
        have e33 := sys_b hb h0 hf 0 0 (by decide) (by decide)
        rw [show 115 + 0 * 1048576 + 0 * 33554432 = 115 from rfl] at e33
        by_cases q33 : b = 115
        · rw [if_pos q33, if_pos (e33.1 q33)]
          (rw [tk_0]; first | done | rfl)
        · rw [if_neg q33, if_neg (fun h => q33 (e33.2 h))]
          have e34 := sys_b hb h0 hf 1 0 (by decide) (by decide)
          rw [show 115 + 1 * 1048576 + 0 * 33554432 = 1048691 from rfl] at e34
          by_cases q34 : b = 1048691
          · rw [if_pos q34, if_pos (e34.1 q34)]
            (rw [tk_0]; first | done | rfl)
          · rw [if_neg q34, if_neg (fun h => q34 (e34.2 h))]
            have e50 := sys_b hb h0 hf 2 8 (by decide) (by decide)
            rw [show 115 + 2 * 1048576 + 8 * 33554432 = 270532723 from rfl] at e50
            by_cases q50 : b = 270532723
            · rw [if_pos q50, if_pos (e50.1 q50)]
              (rw [tk_0]; first | done | rfl)
            · rw [if_neg q50, if_neg (fun h => q50 (e50.2 h))]
              have e49 := sys_b hb h0 hf 2 24 (by decide) (by decide)
              rw [show 115 + 2 * 1048576 + 24 * 33554432 = 807403635 from rfl] at e49
              by_cases q49 : b = 807403635
              · rw [if_pos q49, if_pos (e49.1 q49)]
                (rw [tk_0]; first | done | rfl)
              · rw [if_neg q49, if_neg (fun h => q49 (e49.2 h))]
                have e51 := sys_b hb h0 hf 5 8 (by decide) (by decide)
                rw [show 115 + 5 * 1048576 + 8 * 33554432 = 273678451 from rfl] at e51
                by_cases q51 : b = 273678451
                · rw [if_pos q51, if_pos (e51.1 q51)]
                  (rw [tk_0]; first | done | rfl)
                · rw [if_neg q51, if_neg (fun h => q51 (e51.2 h))]
                  have hz : (fd b 25 7 = 9 ∧ fd b 7 5 = 0) ↔ (fd b 25 7 = 9 ∧ z01 (fd b 7 5) = 0) := by rw [z01_0]
                  by_cases hq : fd b 25 7 = 9 ∧ fd b 7 5 = 0
                  · rw [if_pos hq, if_pos (hz.1 hq)]
                    (rw [tk_12594]; first | done | rfl)
                  · rw [if_neg hq, if_neg (fun h => hq (hz.2 h))]
                    rw [nil_take]
theorem code_3 {b : Nat} (hb : b < 4294967296) (h0 : fd b 0 7 = 3) : decN b = takeC (progD 3 (fd b 12 3) (fd b 25 7) (fd b 20 5) (z01 (fd b 7 5)) (z01 (fd b 15 5))) b := by
  unfold decN
  rw [h0]
  show (if ldK (fd b 12 3) ≠ 0 then _ else fallN (floatN b)) = takeC (if ldK (fd b 12 3) ≠ 0 then _ else nil_) b
  by_cases hc : ldK (fd b 12 3) ≠ 0
  · rw [if_pos hc, if_pos hc]
    (rw [tk_6566217]; first | done | rfl)
  · rw [if_neg hc, if_neg hc]
    (rw [fall_code hb, h0]; first | rfl | (rw [show floD 3 (fd b 12 3) (fd b 25 7 % 4) (fd b 25 7 / 4) (fd b 20 5) = nil_ by unfold floD; rw [if_neg (by decide), if_neg (by decide)]; split; rfl; rw [if_neg (by decide), if_neg (by decide)]]))
theorem code_7 {b : Nat} (hb : b < 4294967296) (h0 : fd b 0 7 = 7) : decN b = takeC (progD 7 (fd b 12 3) (fd b 25 7) (fd b 20 5) (z01 (fd b 7 5)) (z01 (fd b 15 5))) b := by
  unfold decN
  rw [h0]
  show fallN (floatN b) = _
  rw [fall_code hb, h0]
  rfl
theorem code_15 {b : Nat} (hb : b < 4294967296) (h0 : fd b 0 7 = 15) : decN b = takeC (progD 15 (fd b 12 3) (fd b 25 7) (fd b 20 5) (z01 (fd b 7 5)) (z01 (fd b 15 5))) b := by
  unfold decN
  rw [h0]
  show (if fd b 12 3 < 2 then _ else fallN (floatN b)) = takeC (if fd b 12 3 < 2 then _ else nil_) b
  by_cases hc : fd b 12 3 < 2
  · rw [if_pos hc, if_pos hc]
    (rw [tk_0]; first | done | rfl)
  · rw [if_neg hc, if_neg hc]
    (rw [fall_code hb, h0]; first | rfl | (rw [show floD 15 (fd b 12 3) (fd b 25 7 % 4) (fd b 25 7 / 4) (fd b 20 5) = nil_ by unfold floD; rw [if_neg (by decide), if_neg (by decide)]; split; rfl; rw [if_neg (by decide), if_neg (by decide)]]))
theorem code_19 {b : Nat} (hb : b < 4294967296) (h0 : fd b 0 7 = 19) : decN b = takeC (progD 19 (fd b 12 3) (fd b 25 7) (fd b 20 5) (z01 (fd b 7 5)) (z01 (fd b 15 5))) b := by
  unfold decN
  rw [h0]
  exact imm_code hb _ false
theorem code_23 {b : Nat} (_hb : b < 4294967296) (h0 : fd b 0 7 = 23) : decN b = takeC (progD 23 (fd b 12 3) (fd b 25 7) (fd b 20 5) (z01 (fd b 7 5)) (z01 (fd b 15 5))) b := by
  unfold decN
  rw [h0]
  show _ = takeC ⟨2, 25685, 0, false, false⟩ b
  (rw [tk_25685]; first | done | rfl)
theorem code_27 {b : Nat} (hb : b < 4294967296) (h0 : fd b 0 7 = 27) : decN b = takeC (progD 27 (fd b 12 3) (fd b 25 7) (fd b 20 5) (z01 (fd b 7 5)) (z01 (fd b 15 5))) b := by
  unfold decN
  rw [h0]
  exact imm_code hb _ true
theorem code_35 {b : Nat} (hb : b < 4294967296) (h0 : fd b 0 7 = 35) : decN b = takeC (progD 35 (fd b 12 3) (fd b 25 7) (fd b 20 5) (z01 (fd b 7 5)) (z01 (fd b 15 5))) b := by
  unfold decN
  rw [h0]
  show (if fd b 12 3 < 4 then _ else fallN (floatN b)) = takeC (if fd b 12 3 < 4 then _ else nil_) b
  by_cases hc : fd b 12 3 < 4
  · rw [if_pos hc, if_pos hc]
    (rw [tk_3224147]; first | done | rfl)
  · rw [if_neg hc, if_neg hc]
    (rw [fall_code hb, h0]; first | rfl | (rw [show floD 35 (fd b 12 3) (fd b 25 7 % 4) (fd b 25 7 / 4) (fd b 20 5) = nil_ by unfold floD; rw [if_neg (by decide), if_neg (by decide)]; split; rfl; rw [if_neg (by decide), if_neg (by decide)]]))
theorem code_39 {b : Nat} (hb : b < 4294967296) (h0 : fd b 0 7 = 39) : decN b = takeC (progD 39 (fd b 12 3) (fd b 25 7) (fd b 20 5) (z01 (fd b 7 5)) (z01 (fd b 15 5))) b := by
  unfold decN
  rw [h0]
  show fallN (floatN b) = _
  rw [fall_code hb, h0]
  rfl
theorem code_47 {b : Nat} (hb : b < 4294967296) (h0 : fd b 0 7 = 47) : decN b = takeC (progD 47 (fd b 12 3) (fd b 25 7) (fd b 20 5) (z01 (fd b 7 5)) (z01 (fd b 15 5))) b := by
  unfold decN
  rw [h0]
  exact atom_code hb _
theorem code_51 {b : Nat} (_hb : b < 4294967296) (h0 : fd b 0 7 = 51) : decN b = takeC (progD 51 (fd b 12 3) (fd b 25 7) (fd b 20 5) (z01 (fd b 7 5)) (z01 (fd b 15 5))) b := by
  unfold decN
  rw [h0]
  exact reg_code b _ _ false
theorem code_55 {b : Nat} (_hb : b < 4294967296) (h0 : fd b 0 7 = 55) : decN b = takeC (progD 55 (fd b 12 3) (fd b 25 7) (fd b 20 5) (z01 (fd b 7 5)) (z01 (fd b 15 5))) b := by
  unfold decN
  rw [h0]
  show _ = takeC ⟨1, 25685, 0, false, false⟩ b
  (rw [tk_25685]; first | done | rfl)
theorem code_59 {b : Nat} (_hb : b < 4294967296) (h0 : fd b 0 7 = 59) : decN b = takeC (progD 59 (fd b 12 3) (fd b 25 7) (fd b 20 5) (z01 (fd b 7 5)) (z01 (fd b 15 5))) b := by
  unfold decN
  rw [h0]
  exact reg_code b _ _ true
theorem code_67 {b : Nat} (hb : b < 4294967296) (h0 : fd b 0 7 = 67) : decN b = takeC (progD 67 (fd b 12 3) (fd b 25 7) (fd b 20 5) (z01 (fd b 7 5)) (z01 (fd b 15 5))) b := by
  unfold decN
  rw [h0]
  show fallN (floatN b) = _
  rw [fall_code hb, h0]
  rfl
theorem code_71 {b : Nat} (hb : b < 4294967296) (h0 : fd b 0 7 = 71) : decN b = takeC (progD 71 (fd b 12 3) (fd b 25 7) (fd b 20 5) (z01 (fd b 7 5)) (z01 (fd b 15 5))) b := by
  unfold decN
  rw [h0]
  show fallN (floatN b) = _
  rw [fall_code hb, h0]
  rfl
theorem code_75 {b : Nat} (hb : b < 4294967296) (h0 : fd b 0 7 = 75) : decN b = takeC (progD 75 (fd b 12 3) (fd b 25 7) (fd b 20 5) (z01 (fd b 7 5)) (z01 (fd b 15 5))) b := by
  unfold decN
  rw [h0]
  show fallN (floatN b) = _
  rw [fall_code hb, h0]
  rfl
theorem code_79 {b : Nat} (hb : b < 4294967296) (h0 : fd b 0 7 = 79) : decN b = takeC (progD 79 (fd b 12 3) (fd b 25 7) (fd b 20 5) (z01 (fd b 7 5)) (z01 (fd b 15 5))) b := by
  unfold decN
  rw [h0]
  show fallN (floatN b) = _
  rw [fall_code hb, h0]
  rfl
theorem code_83 {b : Nat} (hb : b < 4294967296) (h0 : fd b 0 7 = 83) : decN b = takeC (progD 83 (fd b 12 3) (fd b 25 7) (fd b 20 5) (z01 (fd b 7 5)) (z01 (fd b 15 5))) b := by
  unfold decN
  rw [h0]
  show fallN (floatN b) = _
  rw [fall_code hb, h0]
  rfl
theorem code_99 {b : Nat} (hb : b < 4294967296) (h0 : fd b 0 7 = 99) : decN b = takeC (progD 99 (fd b 12 3) (fd b 25 7) (fd b 20 5) (z01 (fd b 7 5)) (z01 (fd b 15 5))) b := by
  unfold decN
  rw [h0]
  show (if brK (fd b 12 3) ≠ 0 then _ else fallN (floatN b)) = takeC (if brK (fd b 12 3) ≠ 0 then _ else nil_) b
  by_cases hc : brK (fd b 12 3) ≠ 0
  · rw [if_pos hc, if_pos hc]
    (rw [tk_3224130]; first | done | rfl)
  · rw [if_neg hc, if_neg hc]
    (rw [fall_code hb, h0]; first | rfl | (rw [show floD 99 (fd b 12 3) (fd b 25 7 % 4) (fd b 25 7 / 4) (fd b 20 5) = nil_ by unfold floD; rw [if_neg (by decide), if_neg (by decide)]; split; rfl; rw [if_neg (by decide), if_neg (by decide)]]))
theorem code_103 {b : Nat} (hb : b < 4294967296) (h0 : fd b 0 7 = 103) : decN b = takeC (progD 103 (fd b 12 3) (fd b 25 7) (fd b 20 5) (z01 (fd b 7 5)) (z01 (fd b 15 5))) b := by
  unfold decN
  rw [h0]
  show (if fd b 12 3 = 0 then _ else fallN (floatN b)) = takeC (if fd b 12 3 = 0 then _ else nil_) b
  by_cases hc : fd b 12 3 = 0
  · rw [if_pos hc, if_pos hc]
    (rw [tk_6566217]; first | done | rfl)
  · rw [if_neg hc, if_neg hc]
    (rw [fall_code hb, h0]; first | rfl | (rw [show floD 103 (fd b 12 3) (fd b 25 7 % 4) (fd b 25 7 / 4) (fd b 20 5) = nil_ by unfold floD; rw [if_neg (by decide), if_neg (by decide)]; split; rfl; rw [if_neg (by decide), if_neg (by decide)]]))
theorem code_111 {b : Nat} (_hb : b < 4294967296) (h0 : fd b 0 7 = 111) : decN b = takeC (progD 111 (fd b 12 3) (fd b 25 7) (fd b 20 5) (z01 (fd b 7 5)) (z01 (fd b 15 5))) b := by
  unfold decN
  rw [h0]
  show _ = takeC ⟨3, 25674, 0, false, false⟩ b
  (rw [tk_25674]; first | done | rfl)
theorem code_115 {b : Nat} (hb : b < 4294967296) (h0 : fd b 0 7 = 115) : decN b = takeC (progD 115 (fd b 12 3) (fd b 25 7) (fd b 20 5) (z01 (fd b 7 5)) (z01 (fd b 15 5))) b := by
  unfold decN
  rw [h0]
  exact sys_code hb h0
theorem ref_code {b : Nat} (hb : b < 4294967296) : refN b = takeC (refC (fd b 0 7) (fd b 7 5) (fd b 12 3) (fd b 15 5) (fd b 20 5) (fd b 25 7)) b := by
  rw [ref_fields hb]
  unfold refF refC
  split
  · exact (nil_take b).symm
  · rename_i r h
    have hm := List.mem_of_find?_eq_some h
    exact take_code (List.mem_filter.1 hm).1 b
theorem find_congr {α : Type} {p q : α → Bool} : ∀ {l : List α}, (∀ a ∈ l, p a = q a) → l.find? p = l.find? q := by
  intro l
  induction l with
  | nil => intro _; rfl
  | cons a l ih =>
    intro h
    rw [List.find?_cons, List.find?_cons, h a (by simp), ih fun x hx => h x (by simp [hx])]
def depOk (cg cr cd : Bool) (r : RowS) : Bool := (cg || decide (fd r.mask.toNat 25 7 = 0)) && (cr || decide (fd r.mask.toNat 20 5 = 0)) && decide (fd r.bits.toNat 7 5 = 0) && decide (fd r.bits.toNat 15 5 = 0) && (decide (fd r.mask.toNat 7 5 = 0) || (cd && decide (fd r.mask.toNat 7 5 = 31))) && (decide (fd r.mask.toNat 15 5 = 0) || (cd && decide (fd r.mask.toNat 15 5 = 31)))
theorem and31 {x : Nat} (h : x < 32) : x &&& 31 = x := by
  have := Nat.and_two_pow_sub_one_eq_mod x 5
  rw [show (2 : Nat) ^ 5 - 1 = 31 from rfl] at this
  rw [this]; exact Nat.mod_eq_of_lt h
theorem dep_one {x M : Nat} {cd : Bool} (hx : x < 32) (h : M = 0 ∨ (cd = true ∧ M = 31)) : decide (x &&& M = 0) = decide ((if cd then z01 x else 0) &&& M = 0) := by
  rcases h with h | ⟨h1, h2⟩
  · rw [h, Nat.and_zero, Nat.and_zero]
  · rw [h1, h2, and31 hx, if_pos rfl, and31 (by unfold z01; split <;> omega), Bool.eq_iff_iff, decide_eq_true_eq, decide_eq_true_eq, z01_0]
theorem dep_pF {cg cr cd : Bool} {r : RowS} (h : depOk cg cr cd r = true) {rd f r1 r2 g : Nat} (h1 : rd < 32) (h2 : r1 < 32) : pF r rd f r1 r2 g = pF r (if cd then z01 rd else 0) f (if cd then z01 r1 else 0) (if cr then r2 else 0) (if cg then g else 0) := by
  unfold depOk at h
  simp only [Bool.and_eq_true, Bool.or_eq_true, decide_eq_true_eq] at h
  obtain ⟨⟨⟨⟨⟨a, b⟩, c⟩, d⟩, e⟩, f'⟩ := h
  unfold pF
  rw [c, d, dep_one h1 e, dep_one h2 f']
  have hg : decide (g &&& fd r.mask.toNat 25 7 = fd r.bits.toNat 25 7) = decide ((if cg then g else 0) &&& fd r.mask.toNat 25 7 = fd r.bits.toNat 25 7) := by
    rcases a with a | a
    · rw [a, if_pos rfl]
    · rw [a, Nat.and_zero, Nat.and_zero]
  have hr : decide (r2 &&& fd r.mask.toNat 20 5 = fd r.bits.toNat 20 5) = decide ((if cr then r2 else 0) &&& fd r.mask.toNat 20 5 = fd r.bits.toNat 20 5) := by
    rcases b with b | b
    · rw [b, if_pos rfl]
    · rw [b, Nat.and_zero, Nat.and_zero]
  rw [hg, hr]
theorem refC_dep {op : Nat} {cg cr cd : Bool} (h : (rowsOf op).all (depOk cg cr cd) = true) {rd f r1 r2 g : Nat} (h1 : rd < 32) (h2 : r1 < 32) : refC op rd f r1 r2 g = refC op (if cd then z01 rd else 0) f (if cd then z01 r1 else 0) (if cr then r2 else 0) (if cg then g else 0) := by
  unfold refC
  rw [find_congr fun r hr => dep_pF (List.all_eq_true.1 h r hr) h1 h2]
theorem okAt_get {op : Nat} {fs gs rs ds : List Nat} (h : okAt op fs gs rs ds = true) {f g r2 rd r1 : Nat} (hf : f ∈ fs) (hg : g ∈ gs) (hr : r2 ∈ rs) (h1 : rd ∈ ds) (h2 : r1 ∈ ds) : refC op rd f r1 r2 g = progD op f g r2 rd r1 := by
  unfold okAt at h
  exact of_decide_eq_true (List.all_eq_true.1 (List.all_eq_true.1 (List.all_eq_true.1 (List.all_eq_true.1 (List.all_eq_true.1 h f hf) g hg) r2 hr) rd h1) r1 h2)
theorem z01_lt (x : Nat) : z01 x = 0 ∨ z01 x = 1 := by unfold z01; split <;> simp
theorem dep_3 : (rowsOf 3).all (depOk false false false) = true := by decide +kernel
theorem fin_3 {b : Nat} (hb : b < 4294967296) (h0 : fd b 0 7 = 3) (ok : okAt 3 (List.range 8) [0] [0] [0] = true) : refN b = decN b := by
  rw [ref_code hb, code_3 hb h0, h0, refC_dep dep_3 (show fd b 7 5 < 32 from Nat.mod_lt _ (by decide)) (show fd b 15 5 < 32 from Nat.mod_lt _ (by decide))]
  simp only [Bool.false_eq_true, if_false]
  rw [okAt_get ok (List.mem_range.2 (show fd b 12 3 < 8 from Nat.mod_lt _ (by decide))) (by simp) (by simp) (by simp) (by simp)]
  first | done | rfl
theorem dep_7 : (rowsOf 7).all (depOk false false false) = true := by decide +kernel
theorem fin_7 {b : Nat} (hb : b < 4294967296) (h0 : fd b 0 7 = 7) (ok : okAt 7 (List.range 8) [0] [0] [0] = true) : refN b = decN b := by
  rw [ref_code hb, code_7 hb h0, h0, refC_dep dep_7 (show fd b 7 5 < 32 from Nat.mod_lt _ (by decide)) (show fd b 15 5 < 32 from Nat.mod_lt _ (by decide))]
  simp only [Bool.false_eq_true, if_false]
  rw [okAt_get ok (List.mem_range.2 (show fd b 12 3 < 8 from Nat.mod_lt _ (by decide))) (by simp) (by simp) (by simp) (by simp)]
  first | done | rfl
theorem dep_15 : (rowsOf 15).all (depOk false false false) = true := by decide +kernel
theorem fin_15 {b : Nat} (hb : b < 4294967296) (h0 : fd b 0 7 = 15) (ok : okAt 15 (List.range 8) [0] [0] [0] = true) : refN b = decN b := by
  rw [ref_code hb, code_15 hb h0, h0, refC_dep dep_15 (show fd b 7 5 < 32 from Nat.mod_lt _ (by decide)) (show fd b 15 5 < 32 from Nat.mod_lt _ (by decide))]
  simp only [Bool.false_eq_true, if_false]
  rw [okAt_get ok (List.mem_range.2 (show fd b 12 3 < 8 from Nat.mod_lt _ (by decide))) (by simp) (by simp) (by simp) (by simp)]
  first | done | rfl
theorem dep_19 : (rowsOf 19).all (depOk true false false) = true := by decide +kernel
theorem fin_19 {b : Nat} (hb : b < 4294967296) (h0 : fd b 0 7 = 19) (ok : okAt 19 (List.range 8) (List.range 128) [0] [0] = true) : refN b = decN b := by
  rw [ref_code hb, code_19 hb h0, h0, refC_dep dep_19 (show fd b 7 5 < 32 from Nat.mod_lt _ (by decide)) (show fd b 15 5 < 32 from Nat.mod_lt _ (by decide))]
  simp only [Bool.false_eq_true, if_true, if_false]
  rw [okAt_get ok (List.mem_range.2 (show fd b 12 3 < 8 from Nat.mod_lt _ (by decide))) (List.mem_range.2 (show fd b 25 7 < 128 from Nat.mod_lt _ (by decide))) (by simp) (by simp) (by simp)]
  first | done | rfl
theorem dep_23 : (rowsOf 23).all (depOk false false false) = true := by decide +kernel
theorem fin_23 {b : Nat} (hb : b < 4294967296) (h0 : fd b 0 7 = 23) (ok : okAt 23 (List.range 8) [0] [0] [0] = true) : refN b = decN b := by
  rw [ref_code hb, code_23 hb h0, h0, refC_dep dep_23 (show fd b 7 5 < 32 from Nat.mod_lt _ (by decide)) (show fd b 15 5 < 32 from Nat.mod_lt _ (by decide))]
  simp only [Bool.false_eq_true, if_false]
  rw [okAt_get ok (List.mem_range.2 (show fd b 12 3 < 8 from Nat.mod_lt _ (by decide))) (by simp) (by simp) (by simp) (by simp)]
  first | done | rfl
theorem dep_27 : (rowsOf 27).all (depOk true false false) = true := by decide +kernel
theorem fin_27 {b : Nat} (hb : b < 4294967296) (h0 : fd b 0 7 = 27) (ok : okAt 27 (List.range 8) (List.range 128) [0] [0] = true) : refN b = decN b := by
  rw [ref_code hb, code_27 hb h0, h0, refC_dep dep_27 (show fd b 7 5 < 32 from Nat.mod_lt _ (by decide)) (show fd b 15 5 < 32 from Nat.mod_lt _ (by decide))]
  simp only [Bool.false_eq_true, if_true, if_false]
  rw [okAt_get ok (List.mem_range.2 (show fd b 12 3 < 8 from Nat.mod_lt _ (by decide))) (List.mem_range.2 (show fd b 25 7 < 128 from Nat.mod_lt _ (by decide))) (by simp) (by simp) (by simp)]
  first | done | rfl
theorem dep_35 : (rowsOf 35).all (depOk false false false) = true := by decide +kernel
theorem fin_35 {b : Nat} (hb : b < 4294967296) (h0 : fd b 0 7 = 35) (ok : okAt 35 (List.range 8) [0] [0] [0] = true) : refN b = decN b := by
  rw [ref_code hb, code_35 hb h0, h0, refC_dep dep_35 (show fd b 7 5 < 32 from Nat.mod_lt _ (by decide)) (show fd b 15 5 < 32 from Nat.mod_lt _ (by decide))]
  simp only [Bool.false_eq_true, if_false]
  rw [okAt_get ok (List.mem_range.2 (show fd b 12 3 < 8 from Nat.mod_lt _ (by decide))) (by simp) (by simp) (by simp) (by simp)]
  first | done | rfl
theorem dep_39 : (rowsOf 39).all (depOk false false false) = true := by decide +kernel
theorem fin_39 {b : Nat} (hb : b < 4294967296) (h0 : fd b 0 7 = 39) (ok : okAt 39 (List.range 8) [0] [0] [0] = true) : refN b = decN b := by
  rw [ref_code hb, code_39 hb h0, h0, refC_dep dep_39 (show fd b 7 5 < 32 from Nat.mod_lt _ (by decide)) (show fd b 15 5 < 32 from Nat.mod_lt _ (by decide))]
  simp only [Bool.false_eq_true, if_false]
  rw [okAt_get ok (List.mem_range.2 (show fd b 12 3 < 8 from Nat.mod_lt _ (by decide))) (by simp) (by simp) (by simp) (by simp)]
  first | done | rfl
theorem dep_47 : (rowsOf 47).all (depOk true true false) = true := by decide +kernel
theorem fin_47 {b : Nat} (hb : b < 4294967296) (h0 : fd b 0 7 = 47) (ok : okAt 47 (List.range 8) (List.range 128) (List.range 32) [0] = true) : refN b = decN b := by
  rw [ref_code hb, code_47 hb h0, h0, refC_dep dep_47 (show fd b 7 5 < 32 from Nat.mod_lt _ (by decide)) (show fd b 15 5 < 32 from Nat.mod_lt _ (by decide))]
  simp only [Bool.false_eq_true, if_true, if_false]
  rw [okAt_get ok (List.mem_range.2 (show fd b 12 3 < 8 from Nat.mod_lt _ (by decide))) (List.mem_range.2 (show fd b 25 7 < 128 from Nat.mod_lt _ (by decide))) (List.mem_range.2 (show fd b 20 5 < 32 from Nat.mod_lt _ (by decide))) (by simp) (by simp)]
  first | done | rfl
theorem dep_51 : (rowsOf 51).all (depOk true false false) = true := by decide +kernel
theorem fin_51 {b : Nat} (hb : b < 4294967296) (h0 : fd b 0 7 = 51) (ok : okAt 51 (List.range 8) (List.range 128) [0] [0] = true) : refN b = decN b := by
  rw [ref_code hb, code_51 hb h0, h0, refC_dep dep_51 (show fd b 7 5 < 32 from Nat.mod_lt _ (by decide)) (show fd b 15 5 < 32 from Nat.mod_lt _ (by decide))]
  simp only [Bool.false_eq_true, if_true, if_false]
  rw [okAt_get ok (List.mem_range.2 (show fd b 12 3 < 8 from Nat.mod_lt _ (by decide))) (List.mem_range.2 (show fd b 25 7 < 128 from Nat.mod_lt _ (by decide))) (by simp) (by simp) (by simp)]
  first | done | rfl
theorem dep_55 : (rowsOf 55).all (depOk false false false) = true := by decide +kernel
theorem fin_55 {b : Nat} (hb : b < 4294967296) (h0 : fd b 0 7 = 55) (ok : okAt 55 (List.range 8) [0] [0] [0] = true) : refN b = decN b := by
  rw [ref_code hb, code_55 hb h0, h0, refC_dep dep_55 (show fd b 7 5 < 32 from Nat.mod_lt _ (by decide)) (show fd b 15 5 < 32 from Nat.mod_lt _ (by decide))]
  simp only [Bool.false_eq_true, if_false]
  rw [okAt_get ok (List.mem_range.2 (show fd b 12 3 < 8 from Nat.mod_lt _ (by decide))) (by simp) (by simp) (by simp) (by simp)]
  first | done | rfl
theorem dep_59 : (rowsOf 59).all (depOk true false false) = true := by decide +kernel
theorem fin_59 {b : Nat} (hb : b < 4294967296) (h0 : fd b 0 7 = 59) (ok : okAt 59 (List.range 8) (List.range 128) [0] [0] = true) : refN b = decN b := by
  rw [ref_code hb, code_59 hb h0, h0, refC_dep dep_59 (show fd b 7 5 < 32 from Nat.mod_lt _ (by decide)) (show fd b 15 5 < 32 from Nat.mod_lt _ (by decide))]
  simp only [Bool.false_eq_true, if_true, if_false]
  rw [okAt_get ok (List.mem_range.2 (show fd b 12 3 < 8 from Nat.mod_lt _ (by decide))) (List.mem_range.2 (show fd b 25 7 < 128 from Nat.mod_lt _ (by decide))) (by simp) (by simp) (by simp)]
  first | done | rfl
theorem dep_67 : (rowsOf 67).all (depOk true false false) = true := by decide +kernel
theorem fin_67 {b : Nat} (hb : b < 4294967296) (h0 : fd b 0 7 = 67) (ok : okAt 67 (List.range 8) (List.range 128) [0] [0] = true) : refN b = decN b := by
  rw [ref_code hb, code_67 hb h0, h0, refC_dep dep_67 (show fd b 7 5 < 32 from Nat.mod_lt _ (by decide)) (show fd b 15 5 < 32 from Nat.mod_lt _ (by decide))]
  simp only [Bool.false_eq_true, if_true, if_false]
  rw [okAt_get ok (List.mem_range.2 (show fd b 12 3 < 8 from Nat.mod_lt _ (by decide))) (List.mem_range.2 (show fd b 25 7 < 128 from Nat.mod_lt _ (by decide))) (by simp) (by simp) (by simp)]
  first | done | rfl
theorem dep_71 : (rowsOf 71).all (depOk true false false) = true := by decide +kernel
theorem fin_71 {b : Nat} (hb : b < 4294967296) (h0 : fd b 0 7 = 71) (ok : okAt 71 (List.range 8) (List.range 128) [0] [0] = true) : refN b = decN b := by
  rw [ref_code hb, code_71 hb h0, h0, refC_dep dep_71 (show fd b 7 5 < 32 from Nat.mod_lt _ (by decide)) (show fd b 15 5 < 32 from Nat.mod_lt _ (by decide))]
  simp only [Bool.false_eq_true, if_true, if_false]
  rw [okAt_get ok (List.mem_range.2 (show fd b 12 3 < 8 from Nat.mod_lt _ (by decide))) (List.mem_range.2 (show fd b 25 7 < 128 from Nat.mod_lt _ (by decide))) (by simp) (by simp) (by simp)]
  first | done | rfl
theorem dep_75 : (rowsOf 75).all (depOk true false false) = true := by decide +kernel
theorem fin_75 {b : Nat} (hb : b < 4294967296) (h0 : fd b 0 7 = 75) (ok : okAt 75 (List.range 8) (List.range 128) [0] [0] = true) : refN b = decN b := by
  rw [ref_code hb, code_75 hb h0, h0, refC_dep dep_75 (show fd b 7 5 < 32 from Nat.mod_lt _ (by decide)) (show fd b 15 5 < 32 from Nat.mod_lt _ (by decide))]
  simp only [Bool.false_eq_true, if_true, if_false]
  rw [okAt_get ok (List.mem_range.2 (show fd b 12 3 < 8 from Nat.mod_lt _ (by decide))) (List.mem_range.2 (show fd b 25 7 < 128 from Nat.mod_lt _ (by decide))) (by simp) (by simp) (by simp)]
  first | done | rfl
theorem dep_79 : (rowsOf 79).all (depOk true false false) = true := by decide +kernel
theorem fin_79 {b : Nat} (hb : b < 4294967296) (h0 : fd b 0 7 = 79) (ok : okAt 79 (List.range 8) (List.range 128) [0] [0] = true) : refN b = decN b := by
  rw [ref_code hb, code_79 hb h0, h0, refC_dep dep_79 (show fd b 7 5 < 32 from Nat.mod_lt _ (by decide)) (show fd b 15 5 < 32 from Nat.mod_lt _ (by decide))]
  simp only [Bool.false_eq_true, if_true, if_false]
  rw [okAt_get ok (List.mem_range.2 (show fd b 12 3 < 8 from Nat.mod_lt _ (by decide))) (List.mem_range.2 (show fd b 25 7 < 128 from Nat.mod_lt _ (by decide))) (by simp) (by simp) (by simp)]
  first | done | rfl
theorem dep_83 : (rowsOf 83).all (depOk true true false) = true := by decide +kernel
theorem fin_83 {b : Nat} (hb : b < 4294967296) (h0 : fd b 0 7 = 83) (ok : okAt 83 (List.range 8) (List.range 128) (List.range 32) [0] = true) : refN b = decN b := by
  rw [ref_code hb, code_83 hb h0, h0, refC_dep dep_83 (show fd b 7 5 < 32 from Nat.mod_lt _ (by decide)) (show fd b 15 5 < 32 from Nat.mod_lt _ (by decide))]
  simp only [Bool.false_eq_true, if_true, if_false]
  rw [okAt_get ok (List.mem_range.2 (show fd b 12 3 < 8 from Nat.mod_lt _ (by decide))) (List.mem_range.2 (show fd b 25 7 < 128 from Nat.mod_lt _ (by decide))) (List.mem_range.2 (show fd b 20 5 < 32 from Nat.mod_lt _ (by decide))) (by simp) (by simp)]
  first | done | rfl
theorem dep_99 : (rowsOf 99).all (depOk false false false) = true := by decide +kernel
theorem fin_99 {b : Nat} (hb : b < 4294967296) (h0 : fd b 0 7 = 99) (ok : okAt 99 (List.range 8) [0] [0] [0] = true) : refN b = decN b := by
  rw [ref_code hb, code_99 hb h0, h0, refC_dep dep_99 (show fd b 7 5 < 32 from Nat.mod_lt _ (by decide)) (show fd b 15 5 < 32 from Nat.mod_lt _ (by decide))]
  simp only [Bool.false_eq_true, if_false]
  rw [okAt_get ok (List.mem_range.2 (show fd b 12 3 < 8 from Nat.mod_lt _ (by decide))) (by simp) (by simp) (by simp) (by simp)]
  first | done | rfl
theorem dep_103 : (rowsOf 103).all (depOk false false false) = true := by decide +kernel
theorem fin_103 {b : Nat} (hb : b < 4294967296) (h0 : fd b 0 7 = 103) (ok : okAt 103 (List.range 8) [0] [0] [0] = true) : refN b = decN b := by
  rw [ref_code hb, code_103 hb h0, h0, refC_dep dep_103 (show fd b 7 5 < 32 from Nat.mod_lt _ (by decide)) (show fd b 15 5 < 32 from Nat.mod_lt _ (by decide))]
  simp only [Bool.false_eq_true, if_false]
  rw [okAt_get ok (List.mem_range.2 (show fd b 12 3 < 8 from Nat.mod_lt _ (by decide))) (by simp) (by simp) (by simp) (by simp)]
  first | done | rfl
theorem dep_111 : (rowsOf 111).all (depOk false false false) = true := by decide +kernel
theorem fin_111 {b : Nat} (hb : b < 4294967296) (h0 : fd b 0 7 = 111) (ok : okAt 111 (List.range 8) [0] [0] [0] = true) : refN b = decN b := by
  rw [ref_code hb, code_111 hb h0, h0, refC_dep dep_111 (show fd b 7 5 < 32 from Nat.mod_lt _ (by decide)) (show fd b 15 5 < 32 from Nat.mod_lt _ (by decide))]
  simp only [Bool.false_eq_true, if_false]
  rw [okAt_get ok (List.mem_range.2 (show fd b 12 3 < 8 from Nat.mod_lt _ (by decide))) (by simp) (by simp) (by simp) (by simp)]
  first | done | rfl
theorem dep_115 : (rowsOf 115).all (depOk true true true) = true := by decide +kernel
theorem fin_115 {b : Nat} (hb : b < 4294967296) (h0 : fd b 0 7 = 115) (ok : okAt 115 (List.range 8) (List.range 128) (List.range 32) [0, 1] = true) : refN b = decN b := by
  rw [ref_code hb, code_115 hb h0, h0, refC_dep dep_115 (show fd b 7 5 < 32 from Nat.mod_lt _ (by decide)) (show fd b 15 5 < 32 from Nat.mod_lt _ (by decide))]
  simp only [if_true]
  rw [okAt_get ok (List.mem_range.2 (show fd b 12 3 < 8 from Nat.mod_lt _ (by decide))) (List.mem_range.2 (show fd b 25 7 < 128 from Nat.mod_lt _ (by decide))) (List.mem_range.2 (show fd b 20 5 < 32 from Nat.mod_lt _ (by decide))) (by have := z01_lt (fd b 7 5); simp; omega) (by have := z01_lt (fd b 15 5); simp; omega)]
  first | done | rfl
theorem fin_none {b : Nat} (hb : b < 4294967296) (hn : fd b 0 7 ∉ ([3, 7, 15, 19, 23, 27, 35, 39, 47, 51, 55, 59, 67, 71, 75, 79, 83, 99, 103, 111, 115] : List Nat)) : refN b = decN b := by
  have h1 : refN b = zero := by
    rw [ref_code hb]
    unfold refC
    rw [rows_none (fd b 0 7) (show fd b 0 7 < 128 from Nat.mod_lt _ (by decide)) hn]
    exact nil_take b
  rw [h1]
  simp only [List.mem_cons, List.mem_nil_iff, or_false, not_or] at hn
  obtain ⟨n3, n7, n15, n19, n23, n27, n35, n39, n47, n51, n55, n59, n67, n71, n75, n79, n83, n99, n103, n111, n115⟩ := hn
  unfold decN decK
  rw [if_neg n55, if_neg n23, if_neg n111, if_neg n103, if_neg n99, if_neg n3, if_neg n35, if_neg n19, if_neg n27, if_neg n51, if_neg n59, if_neg n15, if_neg n115, if_neg n47, fall_code hb]
  unfold floD
  rw [if_neg n7, if_neg n39]
  split
  · exact (nil_take b).symm
  · rw [if_neg (show ¬ (fd b 0 7 = 67 ∨ fd b 0 7 = 71 ∨ fd b 0 7 = 75 ∨ fd b 0 7 = 79) by omega)]
    first | exact (nil_take b).symm | (rw [if_neg n83]; exact (nil_take b).symm)
theorem ref_dec {b : Nat} (hb : b < 4294967296) (k3 : okAt 3 (List.range 8) [0] [0] [0] = true) (k7 : okAt 7 (List.range 8) [0] [0] [0] = true) (k15 : okAt 15 (List.range 8) [0] [0] [0] = true) (k19 : okAt 19 (List.range 8) (List.range 128) [0] [0] = true) (k23 : okAt 23 (List.range 8) [0] [0] [0] = true) (k27 : okAt 27 (List.range 8) (List.range 128) [0] [0] = true) (k35 : okAt 35 (List.range 8) [0] [0] [0] = true) (k39 : okAt 39 (List.range 8) [0] [0] [0] = true) (k47 : okAt 47 (List.range 8) (List.range 128) (List.range 32) [0] = true) (k51 : okAt 51 (List.range 8) (List.range 128) [0] [0] = true) (k55 : okAt 55 (List.range 8) [0] [0] [0] = true) (k59 : okAt 59 (List.range 8) (List.range 128) [0] [0] = true) (k67 : okAt 67 (List.range 8) (List.range 128) [0] [0] = true) (k71 : okAt 71 (List.range 8) (List.range 128) [0] [0] = true) (k75 : okAt 75 (List.range 8) (List.range 128) [0] [0] = true) (k79 : okAt 79 (List.range 8) (List.range 128) [0] [0] = true) (k83 : okAt 83 (List.range 8) (List.range 128) (List.range 32) [0] = true) (k99 : okAt 99 (List.range 8) [0] [0] [0] = true) (k103 : okAt 103 (List.range 8) [0] [0] [0] = true) (k111 : okAt 111 (List.range 8) [0] [0] [0] = true) (k115 : okAt 115 (List.range 8) (List.range 128) (List.range 32) [0, 1] = true) : refN b = decN b := by
  by_cases h3 : fd b 0 7 = 3
  · exact fin_3 hb h3 k3
  by_cases h7 : fd b 0 7 = 7
  · exact fin_7 hb h7 k7
  by_cases h15 : fd b 0 7 = 15
  · exact fin_15 hb h15 k15
  by_cases h19 : fd b 0 7 = 19
  · exact fin_19 hb h19 k19
  by_cases h23 : fd b 0 7 = 23
  · exact fin_23 hb h23 k23
  by_cases h27 : fd b 0 7 = 27
  · exact fin_27 hb h27 k27
  by_cases h35 : fd b 0 7 = 35
  · exact fin_35 hb h35 k35
  by_cases h39 : fd b 0 7 = 39
  · exact fin_39 hb h39 k39
  by_cases h47 : fd b 0 7 = 47
  · exact fin_47 hb h47 k47
  by_cases h51 : fd b 0 7 = 51
  · exact fin_51 hb h51 k51
  by_cases h55 : fd b 0 7 = 55
  · exact fin_55 hb h55 k55
  by_cases h59 : fd b 0 7 = 59
  · exact fin_59 hb h59 k59
  by_cases h67 : fd b 0 7 = 67
  · exact fin_67 hb h67 k67
  by_cases h71 : fd b 0 7 = 71
  · exact fin_71 hb h71 k71
  by_cases h75 : fd b 0 7 = 75
  · exact fin_75 hb h75 k75
  by_cases h79 : fd b 0 7 = 79
  · exact fin_79 hb h79 k79
  by_cases h83 : fd b 0 7 = 83
  · exact fin_83 hb h83 k83
  by_cases h99 : fd b 0 7 = 99
  · exact fin_99 hb h99 k99
  by_cases h103 : fd b 0 7 = 103
  · exact fin_103 hb h103 k103
  by_cases h111 : fd b 0 7 = 111
  · exact fin_111 hb h111 k111
  by_cases h115 : fd b 0 7 = 115
  · exact fin_115 hb h115 k115
  exact fin_none hb (by simp only [List.mem_cons, List.mem_nil_iff, or_false, not_or]; exact ⟨h3, h7, h15, h19, h23, h27, h35, h39, h47, h51, h55, h59, h67, h71, h75, h79, h83, h99, h103, h111, h115⟩)
end Go.Proofs.Ytopbdiekfhikmaa
