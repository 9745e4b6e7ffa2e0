/- Layer 3: an instruction has the bits that the document's rows give: plain. / Layer 3: an instruction has the bits that the document's rows give: plain, joined. / Layer 3: DecodeWrites: the walk. -/
import Derived.Test.YtopbdiekfhikmaaQ2
import Derived.Test.YtopbdiekfhikmaaK4
import Derived.Test.YtopbdiekfhikmaaA6
import Derived.Test.YtopbdiekfhikmaaAV
namespace Go.Proofs.Ytopbdiekfhikmaa
/-- n bits from place sh. -/
def bm (sh n : Nat) : Nat := (2 ^ n - 1) * 2 ^ sh
theorem bm_bit (sh n i : Nat) : (bm sh n).testBit i = (decide (sh ≤ i) && decide (i - sh < n)) := by
  unfold bm
  rw [Nat.testBit_mul_two_pow, Nat.testBit_two_pow_sub_one]
theorem fd_bm (c sh n : Nat) : fd c sh n * 2 ^ sh = c &&& bm sh n := by
  refine Nat.eq_of_testBit_eq fun i => ?_
  rw [Nat.testBit_and, bm_bit, Nat.testBit_mul_two_pow]
  unfold fd
  rw [Nat.testBit_mod_two_pow, Nat.testBit_div_two_pow]
  by_cases h : sh ≤ i
  · rw [show i - sh + sh = i by omega]
    simp only [h, decide_true, Bool.true_and]
    exact Bool.and_comm _ _
  · simp [h]
theorem pt_bm (v : Int) (sh n : Nat) : (pt v n * 2 ^ sh) &&& bm sh n = pt v n * 2 ^ sh := by
  have h : fd (pt v n * 2 ^ sh) sh n = pt v n := by
    unfold fd
    rw [Nat.mul_div_cancel _ (Nat.pow_pos (by decide)), Nat.mod_eq_of_lt (pt_lt v n)]
  rw [← fd_bm, h]
theorem or32_eq {a b : Nat} (ha : a < 4294967296) (hb : b < 4294967296) : or32 a b = a ||| b := by
  unfold or32
  exact Nat.mod_eq_of_lt (Nat.or_lt_two_pow (n := 32) ha hb)
theorem and_lt {c m : Nat} (hc : c < 4294967296) : c &&& m < 4294967296 := Nat.lt_of_le_of_lt Nat.and_le_left hc
def mkw (q : Bool) (M sh n : Nat) : Nat := if q then M ||| bm sh n else M
def lm : List (Nat × Nat × Nat) → Nat → Nat
  | [], M => M
  | p :: l, M => lm l (M ||| bm p.1 p.2.1)
/-- What a form and a mask lay fast. -/
def cov (F : ByteArray) (M : Nat) : Nat := lm (pcN (letF F)) (mkw (hasF F 122) (mkw (hasF F 104) (mkw (hasF F 99) (mkw (hasF F 114) (mkw (hasF F 51) (mkw (hasF F 50) (mkw (hasF F 49) (mkw (hasF F 100) (M) 7 5) 15 5) 20 5) 27 5) 12 3) 20 12) 20 6) 15 5)
theorem opw_cov {c M sh n : Nat} {q : Bool} {v : Int} (hc : c < 4294967296) (h : q = true → pt v n = fd c sh n) : opw q (c &&& M) (pt v n * 2 ^ sh) = c &&& mkw q M sh n := by
  cases q with
  | false => rfl
  | true =>
    show or32 (c &&& M) (pt v n * 2 ^ sh) = c &&& (M ||| bm sh n)
    rw [h rfl, fd_bm, or32_eq (and_lt hc) (and_lt hc), ← Nat.and_or_distrib_left]
theorem pcW_cov {c : Nat} {n : Int} (hc : c < 4294967296) : ∀ (l : List (Nat × Nat × Nat)) (M : Nat), (∀ p ∈ l, pt (n / 2 ^ p.2.2) p.2.1 = fd c p.1 p.2.1) → pcW n (c &&& M) l = c &&& lm l M := by
  intro l
  induction l with
  | nil => intro M _; rfl
  | cons p l ih =>
    intro M h
    show pcW n (or32 (c &&& M) (pt (n / 2 ^ p.2.2) p.2.1 * 2 ^ p.1)) l = c &&& lm l (M ||| bm p.1 p.2.1)
    rw [h p (by simp), fd_bm, or32_eq (and_lt hc) (and_lt hc), ← Nat.and_or_distrib_left]
    exact ih _ fun q hq => h q (by simp [hq])
theorem pt_fd (c sh n : Nat) : pt ((fd c sh n : Nat) : Int) n = fd c sh n := by
  have h1 := pt_cast ((fd c sh n : Nat) : Int) n
  have h2 : ((fd c sh n : Nat) : Int) % 2 ^ n = ((fd c sh n % 2 ^ n : Nat) : Int) := by rw [Int.natCast_emod, Int.natCast_pow]; rfl
  rw [h2, Nat.mod_eq_of_lt (fd_lt c sh n)] at h1
  exact Int.natCast_inj.1 h1
theorem pt_of {v : Int} {n m : Nat} (h : v % 2 ^ n = (m : Int)) : pt v n = m := by
  have := pt_cast v n
  omega
theorem immP_pc (k : Int) (b : Nat) : ∀ p ∈ pcN k, pt (immP k b / 2 ^ p.2.2) p.2.1 = fd b p.1 p.2.1 := by
  intro p hp
  unfold pcN at hp
  split at hp
  · rename_i h; subst h
    simp only [List.mem_cons, List.mem_nil_iff, or_false] at hp
    subst hp
    refine pt_of ?_
    show immI b / 1 % 4096 = ((fd b 20 12 : Nat) : Int)
    unfold immI fd
    split <;> omega
  split at hp
  · rename_i h; subst h
    simp only [List.mem_cons, List.mem_nil_iff, or_false] at hp
    rcases hp with rfl | rfl <;> refine pt_of ?_
    · show immS b / 1 % 32 = ((fd b 7 5 : Nat) : Int)
      unfold immS fd
      split <;> omega
    · show immS b / 32 % 128 = ((fd b 25 7 : Nat) : Int)
      unfold immS fd
      split <;> omega
  split at hp
  · rename_i h; subst h
    simp only [List.mem_cons, List.mem_nil_iff, or_false] at hp
    have e1 := fd_lt b 31 1
    have e2 := fd_lt b 7 1
    have e3 := fd_lt b 25 6
    have e4 := fd_lt b 8 4
    rcases hp with rfl | rfl | rfl | rfl <;> refine pt_of ?_
    · show immB b / 2 % 16 = ((fd b 8 4 : Nat) : Int)
      unfold immB
      split <;> omega
    · show immB b / 32 % 64 = ((fd b 25 6 : Nat) : Int)
      unfold immB
      split <;> omega
    · show immB b / 2048 % 2 = ((fd b 7 1 : Nat) : Int)
      unfold immB
      split <;> omega
    · show immB b / 4096 % 2 = ((fd b 31 1 : Nat) : Int)
      unfold immB
      split <;> omega
  split at hp
  · rename_i h; subst h
    simp only [List.mem_cons, List.mem_nil_iff, or_false] at hp
    subst hp
    refine pt_of ?_
    show immU b / 4096 % 1048576 = ((fd b 12 20 : Nat) : Int)
    unfold immU fd
    split <;> omega
  split at hp
  · rename_i h; subst h
    simp only [List.mem_cons, List.mem_nil_iff, or_false] at hp
    have e1 := fd_lt b 31 1
    have e2 := fd_lt b 20 1
    have e3 := fd_lt b 12 8
    have e4 := fd_lt b 21 10
    rcases hp with rfl | rfl | rfl | rfl <;> refine pt_of ?_
    · show immJ b / 2 % 1024 = ((fd b 21 10 : Nat) : Int)
      unfold immJ
      split <;> omega
    · show immJ b / 2048 % 2 = ((fd b 20 1 : Nat) : Int)
      unfold immJ
      split <;> omega
    · show immJ b / 4096 % 256 = ((fd b 12 8 : Nat) : Int)
      unfold immJ
      split <;> omega
    · show immJ b / 1048576 % 2 = ((fd b 31 1 : Nat) : Int)
      unfold immJ
      split <;> omega
  · cases hp
def formOk (F : ByteArray) : Bool := (!(hasF F 122) || decide (letF F = 0)) && (!(hasF F 104) || (decide (letF F = 0) && !(hasF F 122)))
theorem forms_ok2 : rowsL.all (fun r => formOk r.form) = true := by decide +kernel
/-- What a row writes of an instruction that it reads are the bits that it lays fast. -/
theorem write_read {r : RowS} (hr : r ∈ rowsL) {c : Nat} (hc : c < 4294967296) {M : Nat} (hb : r.bits.toNat = c &&& M) : writeN r.form r.bits.toNat (readN r c) = c &&& cov r.form M := by
  have hf := List.all_eq_true.1 forms_ok2 r hr
  unfold formOk at hf
  simp only [Bool.and_eq_true, Bool.or_eq_true, Bool.not_eq_true', decide_eq_true_eq] at hf
  obtain ⟨f1, f2⟩ := hf
  have key : ∀ q (x : Nat), q = true → (if q then (x : Int) else 0) = x := fun q x h => by rw [h]; rfl
  unfold writeN preN cov
  rw [hb, opw_cov hc (fun h => by show pt (if hasF r.form 100 then ((fd c 7 5 : Nat) : Int) else 0) 5 = _; rw [key _ _ h, pt_fd]),
    opw_cov hc (fun h => by show pt (if hasF r.form 49 then ((fd c 15 5 : Nat) : Int) else 0) 5 = _; rw [key _ _ h, pt_fd]),
    opw_cov hc (fun h => by show pt (if hasF r.form 50 then ((fd c 20 5 : Nat) : Int) else 0) 5 = _; rw [key _ _ h, pt_fd]),
    opw_cov hc (fun h => by show pt (if hasF r.form 51 then ((fd c 27 5 : Nat) : Int) else 0) 5 = _; rw [key _ _ h, pt_fd]),
    opw_cov hc (fun h => by show pt (if hasF r.form 114 then ((fd c 12 3 : Nat) : Int) else 0) 3 = _; rw [key _ _ h, pt_fd]),
    opw_cov hc (fun h => by show pt (if hasF r.form 99 then ((fd c 20 12 : Nat) : Int) else 0) 12 = _; rw [key _ _ h, pt_fd]),
    opw_cov hc (fun h => by
      show pt (immF r.form c) 6 = _
      rcases f2 with f2 | ⟨_, f2⟩
      · rw [h] at f2; cases f2
      · rw [immF_of, f2, h]
        exact pt_fd c 20 6),
    opw_cov hc (fun h => by
      show pt (immF r.form c) 5 = _
      rw [immF_of, h]
      exact pt_fd c 15 5)]
  refine pcW_cov hc _ _ fun p hp => ?_
  show pt (immF r.form c / 2 ^ p.2.2) p.2.1 = fd c p.1 p.2.1
  have hl : letF r.form ≠ 0 := fun h => by rw [h] at hp; cases hp
  have g1 : hasF r.form 122 = false := f1.resolve_right hl
  have g2 : hasF r.form 104 = false := f2.resolve_right fun h => hl h.1
  rw [immF_of, g1, g2]
  exact immP_pc _ _ p hp
end Go.Proofs.Ytopbdiekfhikmaa
namespace Go.Proofs.Ytopbdiekfhikmaa
theorem match_nat {r : RowS} (hr : rowOk r = true) {b : Nat} (h : matchB r b = true) (hb : b < 4294967296) : r.bits.toNat = b &&& r.mask.toNat := by
  unfold matchB at h
  have h1 := of_decide_eq_true h
  unfold and32 at h1
  rw [Nat.mod_eq_of_lt (and_lt hb)] at h1
  omega
theorem kinds_ok : rowsL.all (fun r => decide (r.kind ≠ 0)) = true := by decide +kernel
/-- What is read is a row's. -/
theorem ref_row {b : Nat} (h : (refN b).kind ≠ 0) : ∃ r ∈ rowsL, matchB r b = true ∧ refN b = readN r b := by
  have e : refN b = match rowsL.find? (fun r => matchB r b) with | none => zero | some r => takeN r b := rfl
  cases hf : rowsL.find? (fun r => matchB r b) with
  | none => rw [hf] at e; rw [e] at h; exact absurd rfl h
  | some r =>
    rw [hf] at e
    refine ⟨r, List.mem_of_find?_eq_some hf, by simpa using List.find?_some hf, ?_⟩
    have e2 : refN b = takeN r b := e
    rw [e2] at h ⊢
    clear e e2
    unfold takeN at h ⊢
    by_cases hc : (readN r b).rm = 5 ∨ (readN r b).rm = 6
    · rw [if_pos hc] at h
      exact absurd rfl h
    · rw [if_neg hc]
theorem ref_zero {b : Nat} (h : (refN b).kind = 0) : refN b = zero := by
  have e : refN b = match rowsL.find? (fun r => matchB r b) with | none => zero | some r => takeN r b := rfl
  cases hf : rowsL.find? (fun r => matchB r b) with
  | none => rw [hf] at e; exact e
  | some r =>
    rw [hf] at e
    have e2 : refN b = takeN r b := e
    have hk := of_decide_eq_true (List.all_eq_true.1 kinds_ok r (List.mem_of_find?_eq_some hf))
    rw [e2] at h ⊢
    unfold takeN at h ⊢
    split
    · rfl
    · rename_i hc
      rw [if_neg hc] at h
      exact absurd h hk
/-- Whatever is written lies on the row's bits, within the form's places. -/
theorem opw_form {q : Bool} {bt S M sh n : Nat} {v : Int} (hl : sh + n ≤ 32) (h1 : S &&& M = S) (h2 : bt ||| S < 4294967296) : ∃ S', opw q (bt ||| S) (pt v n * 2 ^ sh) = bt ||| S' ∧ S' &&& mkw q M sh n = S' ∧ bt ||| S' < 4294967296 := by
  cases q with
  | false => exact ⟨S, rfl, h1, h2⟩
  | true =>
    have h3 := pt_fit v hl
    have h4 : bt ||| S ||| pt v n * 2 ^ sh < 4294967296 := Nat.or_lt_two_pow (n := 32) h2 h3
    refine ⟨S ||| pt v n * 2 ^ sh, ?_, ?_, by rw [← Nat.or_assoc]; exact h4⟩
    · show or32 (bt ||| S) (pt v n * 2 ^ sh) = _
      rw [or32_eq h2 h3, Nat.or_assoc]
    · show (S ||| pt v n * 2 ^ sh) &&& (M ||| bm sh n) = _
      refine Nat.eq_of_testBit_eq fun i => ?_
      have a1 := congrArg (·.testBit i) h1
      have a2 := congrArg (·.testBit i) (pt_bm v sh n)
      simp only [Nat.testBit_and, Nat.testBit_or] at a1 a2 ⊢
      generalize S.testBit i = x1 at *
      generalize M.testBit i = x2 at *
      generalize (pt v n * 2 ^ sh).testBit i = x3 at *
      generalize (bm sh n).testBit i = x4 at *
      revert a1 a2
      cases x1 <;> cases x2 <;> cases x3 <;> cases x4 <;> decide
theorem pcW_form {n : Int} {bt : Nat} : ∀ (l : List (Nat × Nat × Nat)) (S M : Nat), (∀ p ∈ l, p.1 + p.2.1 ≤ 32) → S &&& M = S → bt ||| S < 4294967296 → ∃ S', pcW n (bt ||| S) l = bt ||| S' ∧ S' &&& lm l M = S' := by
  intro l
  induction l with
  | nil => intro S M _ h1 _; exact ⟨S, rfl, h1⟩
  | cons p l ih =>
    intro S M hl h1 h2
    obtain ⟨S1, e1, e2, e3⟩ := opw_form (q := true) (v := n / 2 ^ p.2.2) (hl p (by simp)) h1 h2
    obtain ⟨S2, e4, e5⟩ := ih S1 (M ||| bm p.1 p.2.1) (fun q hq => hl q (by simp [hq])) e2 e3
    refine ⟨S2, ?_, e5⟩
    show pcW n (or32 (bt ||| S) (pt (n / 2 ^ p.2.2) p.2.1 * 2 ^ p.1)) l = _
    have e1' : or32 (bt ||| S) (pt (n / 2 ^ p.2.2) p.2.1 * 2 ^ p.1) = bt ||| S1 := e1
    rw [e1']
    exact e4
theorem pcN_fit (c : Int) : ∀ p ∈ pcN c, p.1 + p.2.1 ≤ 32 := by
  intro p hp
  obtain ⟨k, hk⟩ := List.getElem?_of_mem hp
  exact pc_ok2 (lo := p.1) (ln := p.2.1) (pl := p.2.2) hk
theorem write_form (F : ByteArray) {bt : Nat} (hb : bt < 4294967296) (X : Ins) : ∃ S, writeN F bt X = bt ||| S ∧ S &&& cov F 0 = S := by
  have h0 : bt ||| 0 = bt := Nat.or_zero bt
  obtain ⟨S1, e1, f1, g1⟩ := opw_form (q := hasF F 100) (bt := bt) (S := 0) (M := 0) (v := X.rd) (sh := 7) (n := 5) (by decide) (by simp) (by rw [h0]; exact hb)
  rw [h0] at e1
  obtain ⟨S2, e2, f2, g2⟩ := opw_form (q := hasF F 49) (v := X.rs1) (sh := 15) (n := 5) (by decide) f1 g1
  obtain ⟨S3, e3, f3, g3⟩ := opw_form (q := hasF F 50) (v := X.rs2) (sh := 20) (n := 5) (by decide) f2 g2
  obtain ⟨S4, e4, f4, g4⟩ := opw_form (q := hasF F 51) (v := X.rs3) (sh := 27) (n := 5) (by decide) f3 g3
  obtain ⟨S5, e5, f5, g5⟩ := opw_form (q := hasF F 114) (v := X.rm) (sh := 12) (n := 3) (by decide) f4 g4
  obtain ⟨S6, e6, f6, g6⟩ := opw_form (q := hasF F 99) (v := X.csr) (sh := 20) (n := 12) (by decide) f5 g5
  obtain ⟨S7, e7, f7, g7⟩ := opw_form (q := hasF F 104) (v := X.imm) (sh := 20) (n := 6) (by decide) f6 g6
  obtain ⟨S8, e8, f8, g8⟩ := opw_form (q := hasF F 122) (v := X.imm) (sh := 15) (n := 5) (by decide) f7 g7
  obtain ⟨S9, e9, f9⟩ := pcW_form (n := X.imm) (pcN (letF F)) S8 _ (pcN_fit _) f8 g8
  refine ⟨S9, ?_, f9⟩
  unfold writeN preN
  rw [e1, e2, e3, e4, e5, e6, e7, e8, e9]
/-- Two rows of one kind part at a place that no field of the first one reaches, or where the first one has a bit. -/
def apart (r s : RowS) : Bool :=
  decide (r.kind ≠ s.kind) ||
  (decide (r.bits.toNat &&& (r.bits.toNat ^^^ s.bits.toNat) &&& s.mask.toNat ≠ 0) ||
  decide ((s.bits.toNat &&& (r.bits.toNat ^^^ s.bits.toNat) &&& s.mask.toNat) &&& cov r.form 0 ≠ (s.bits.toNat &&& (r.bits.toNat ^^^ s.bits.toNat) &&& s.mask.toNat)))
def pw : List RowS → Bool
  | [] => true
  | r :: l => l.all (fun s => apart r s && apart s r) && pw l
theorem pw_ok : pw rowsL = true := by decide +kernel
theorem pw_spec : ∀ {l : List RowS}, pw l = true → ∀ r ∈ l, ∀ s ∈ l, r = s ∨ apart r s = true := by
  intro l
  induction l with
  | nil => intro _ r hr; cases hr
  | cons a l ih =>
    intro h r hr s hs
    unfold pw at h
    rw [Bool.and_eq_true] at h
    have h1 := List.all_eq_true.1 h.1
    rcases List.mem_cons.1 hr with hr2 | hr2
    · rcases List.mem_cons.1 hs with hs2 | hs2
      · exact .inl (hr2.trans hs2.symm)
      · have := h1 s hs2; rw [Bool.and_eq_true] at this; rw [hr2]; exact .inr this.1
    · rcases List.mem_cons.1 hs with hs2 | hs2
      · have := h1 r hr2; rw [Bool.and_eq_true] at this; rw [hs2]; exact .inr this.2
      · exact ih h.2 r hr2 s hs2
theorem part {rb sb sm S FM b : Nat} (hb : b = rb ||| S) (hS : S &&& FM = S) (hm : sb = b &&& sm) : rb &&& (rb ^^^ sb) &&& sm = 0 ∧ (sb &&& (rb ^^^ sb) &&& sm) &&& FM = (sb &&& (rb ^^^ sb) &&& sm) := by
  subst hb
  have key : ∀ i, (rb &&& (rb ^^^ sb) &&& sm).testBit i = false ∧ ((sb &&& (rb ^^^ sb) &&& sm) &&& FM).testBit i = (sb &&& (rb ^^^ sb) &&& sm).testBit i := fun i => by
    have a1 := congrArg (·.testBit i) hS
    have a2 := congrArg (·.testBit i) hm
    simp only [Nat.testBit_and, Nat.testBit_or, Nat.testBit_xor] at a1 a2 ⊢
    generalize rb.testBit i = x1 at *
    generalize sb.testBit i = x2 at *
    generalize sm.testBit i = x3 at *
    generalize S.testBit i = x4 at *
    generalize FM.testBit i = x5 at *
    revert a1 a2
    cases x1 <;> cases x2 <;> cases x3 <;> cases x4 <;> cases x5 <;> decide
  exact ⟨Nat.eq_of_testBit_eq fun i => by rw [(key i).1, Nat.zero_testBit], Nat.eq_of_testBit_eq fun i => (key i).2⟩
/-- What a row writes and is read again as the same, is read by that row. -/
theorem write_own {r : RowS} (hr : r ∈ rowsL) {X : Ins} (hk : X.kind ≠ 0) (hrk : r.kind = X.kind) (h : refN (writeN r.form r.bits.toNat X) = X) : matchB r (writeN r.form r.bits.toNat X) = true ∧ X = readN r (writeN r.form r.bits.toNat X) := by
  have hin := List.all_eq_true.1 rows_in3 r hr
  simp only [Bool.and_eq_true, decide_eq_true_eq] at hin
  have hbl : r.bits.toNat < 4294967296 := by omega
  have hwl := writeN_lt r.form hbl X
  obtain ⟨S, e1, e2⟩ := write_form r.form hbl X
  obtain ⟨s, hs, hm, he⟩ := ref_row (b := writeN r.form r.bits.toNat X) (by rw [h]; exact hk)
  have hsk : s.kind = X.kind := by rw [h] at he; rw [he]; rfl
  rcases pw_spec pw_ok r hr s hs with rfl | hp
  · exact ⟨hm, by rw [h] at he; exact he⟩
  · exfalso
    obtain ⟨p1, p2⟩ := part e1 e2 (match_nat (List.all_eq_true.1 rows_ok s hs) hm hwl)
    unfold apart at hp
    simp only [Bool.or_eq_true, decide_eq_true_eq] at hp
    rcases hp with hp | hp | hp
    · exact hp (by rw [hrk, hsk])
    · exact hp p1
    · exact hp p2
/-- Which places a row lays fast. -/
def covOk (r : RowS) : Bool := if fd r.bits.toNat 0 7 = 15 then decide (cov r.form r.mask.toNat = 28799) else if fd r.bits.toNat 0 7 = 47 then decide (cov r.form r.mask.toNat = 4194303999) else decide (cov r.form r.mask.toNat = 4294967295)
theorem covs_ok : rowsL.all covOk = true := by decide +kernel
theorem and_full {b : Nat} (hb : b < 4294967296) : b &&& 4294967295 = b := by
  have := Nat.and_two_pow_sub_one_eq_mod b 32
  rw [show (2 : Nat) ^ 32 - 1 = 4294967295 from rfl] at this
  rw [this]; exact Nat.mod_eq_of_lt hb
theorem and_15 (b : Nat) : b &&& 28799 = fd b 0 7 + fd b 12 3 * 4096 := by
  rw [show (28799 : Nat) = bm 12 3 ||| bm 0 7 by decide, Nat.and_or_distrib_left, ← fd_bm, ← fd_bm]
  have h1 := fd_lt b 0 7
  rw [nat_or_parts 7 _ _ (by omega) (by omega)]
  omega
theorem and_47 {b : Nat} (hb : b < 4294967296) : b &&& 4194303999 = b ↔ fd b 25 2 = 0 := by
  have e : b &&& bm 25 2 = fd b 25 2 * 2 ^ 25 := (fd_bm b 25 2).symm
  have f := and_full hb
  rw [show (4294967295 : Nat) = 4194303999 ||| bm 25 2 by decide, Nat.and_or_distrib_left, e] at f
  constructor
  · intro h
    have h2 : (b &&& 4194303999) &&& bm 25 2 = 0 := by rw [Nat.and_assoc, show (4194303999 : Nat) &&& bm 25 2 = 0 by decide, Nat.and_zero]
    rw [h, e] at h2
    omega
  · intro h
    rw [h, Nat.zero_mul, Nat.or_zero] at f
    exact f
theorem canon_cov {r : RowS} (hr : r ∈ rowsL) {b : Nat} (hb : b < 4294967296) (h : matchB r b = true) : b &&& cov r.form r.mask.toNat = b ↔ canon b = b := by
  have ho := List.all_eq_true.1 rows_ok r hr
  have hc := List.all_eq_true.1 covs_ok r hr
  have hop : fd b 0 7 = fd r.bits.toNat 0 7 := by
    rw [match_eq ho hb, Bool.and_eq_true, decide_eq_true_eq] at h
    exact h.1
  unfold covOk at hc
  rw [← hop] at hc
  unfold canon
  have hl := fd_lt b 25 2
  have hle : fd b 25 2 * 33554432 ≤ b := by unfold fd; omega
  split at hc
  · rename_i h1
    rw [if_pos h1, of_decide_eq_true hc, and_15, h1]
  · rename_i h1
    rw [if_neg h1]
    split at hc
    · rename_i h2
      rw [if_pos h2, of_decide_eq_true hc, and_47 hb]
      omega
    · rename_i h2
      rw [if_neg h2, of_decide_eq_true hc, and_full hb]
/-- The bits that a row writes of an instruction, where they are read as it: those that the program writes. -/
theorem row_enc {r : RowS} (hr : r ∈ rowsL) {X : Ins} (hk : X.kind ≠ 0) (ht : tryR X r = true) : encN X = (writeN r.form r.bits.toNat X, true) := by
  unfold tryR at ht
  simp only [Bool.and_eq_true, decide_eq_true_eq] at ht
  obtain ⟨hrk, h⟩ := ht
  have hin := List.all_eq_true.1 rows_in3 r hr
  simp only [Bool.and_eq_true, decide_eq_true_eq] at hin
  have hwl := writeN_lt r.form (show r.bits.toNat < 4294967296 by omega) X
  obtain ⟨hm, hX⟩ := write_own hr hk hrk h
  have ho := List.all_eq_true.1 rows_ok r hr
  have hb := match_nat ho hm hwl
  have hw := write_read hr hwl hb
  rw [← hX] at hw
  generalize writeN r.form r.bits.toNat X = b at *
  have hcan := (canon_cov hr hwl hm).1 hw.symm
  have hd : decN b = X := by rw [← reads_plain hwl]; exact h
  have := enc_back hwl (by rw [hd]; exact hk)
  rw [hd, hcan] at this
  exact this
theorem enc_zero_w : encN zero = (0, false) := by decide +kernel
theorem writes_plain (X : Ins) : encN X = docN X := by
  by_cases hk : X.kind = 0
  · have hd : docN X = (0, false) := by unfold docN; rw [if_pos hk]
    rw [hd]
    by_cases h : (formI X).2 = true ∧ decN (formI X).1 = X
    · have hl : (formI X).1 < 4294967296 := formN_lt ..
      have hz : X = zero := by
        rw [← h.2, ← reads_plain hl]
        exact ref_zero (by rw [reads_plain hl, h.2]; exact hk)
      rw [hz]
      exact enc_zero_w
    · unfold encN
      rw [if_neg h]
  · unfold docN
    rw [if_neg hk]
    cases hf : rowsL.find? (tryR X) with
    | some r => exact row_enc (List.mem_of_find?_eq_some hf) hk (List.find?_some hf)
    | none =>
      have hno := List.find?_eq_none.1 hf
      show encN X = (0, false)
      unfold encN
      rw [if_neg]
      rintro ⟨h1, h2⟩
      have hl : (formI X).1 < 4294967296 := formN_lt ..
      have he : encN X = ((formI X).1, true) := by unfold encN; rw [if_pos ⟨h1, h2⟩]
      generalize (formI X).1 = c at *
      have hb := enc_back hl (by rw [h2]; exact hk)
      rw [h2, he] at hb
      have hcan : canon c = c := by injection hb with hb _; exact hb.symm
      have hrc : refN c = X := by rw [reads_plain hl]; exact h2
      obtain ⟨r, hr, hm, hX⟩ := ref_row (b := c) (by rw [hrc]; exact hk)
      rw [hrc] at hX
      have ho := List.all_eq_true.1 rows_ok r hr
      have hw := write_read hr hl (match_nat ho hm hl)
      rw [← hX, (canon_cov hr hl hm).2 hcan] at hw
      refine hno r hr ?_
      unfold tryR
      rw [hw, hrc, decide_eq_true (show r.kind = X.kind by rw [hX]; rfl), decide_eq_true rfl]
      rfl
end Go.Proofs.Ytopbdiekfhikmaa
namespace Go.Proofs.Ytopbdiekfhikmaa
open Go.RowKit
set_option maxRecDepth 1000000 in
set_option maxHeartbeats 8000000 in
theorem writes_walk (X : Ins) (hx : WFI X) (w : World) : Calls Try.prog 4 #[.agg #[.int .i64 X.kind, .int .i64 X.rd, .int .i64 X.rs1, .int .i64 X.rs2, .int .i64 X.rs3, .int .i64 X.rm, .int .i64 X.csr, .int .i64 X.size, .int .i64 X.imm, .bool X.ui, .bool X.us, .bool X.wd]] w fun r w' => r = .returned (.bool true) ∧ GN w w' := by
  obtain ⟨⟨a, o⟩, hE⟩ : ∃ p, encN X = p := ⟨_, rfl⟩
  have hD : docN X = (a, o) := by rw [← writes_plain, hE]
  have H12 := hide (show ∀ w, Calls Try.prog 12 #[.agg #[.int .i64 X.kind, .int .i64 X.rd, .int .i64 X.rs1, .int .i64 X.rs2, .int .i64 X.rs3, .int .i64 X.rm, .int .i64 X.csr, .int .i64 X.size, .int .i64 X.imm, .bool X.ui, .bool X.us, .bool X.wd]] w fun e w' => e = .returned (.tuple #[.int .u32 (a : Int), .bool o]) ∧ GN w w' from fun w => by
    have h := encode_any X hx w
    rw [hE] at h
    exact h)
  have H13 := hide (show ∀ w, Calls Try.prog 13 #[.agg #[.int .i64 X.kind, .int .i64 X.rd, .int .i64 X.rs1, .int .i64 X.rs2, .int .i64 X.rs3, .int .i64 X.rm, .int .i64 X.csr, .int .i64 X.size, .int .i64 X.imm, .bool X.ui, .bool X.us, .bool X.wd]] w fun e w' => e = .returned (.tuple #[.int .u32 (a : Int), .bool o]) ∧ GN w w' from fun w => by
    have h := rencode_any X hx w
    rw [hD] at h
    exact h)
  clear hE hD hx
  have H := hide ((Heap.nil w).new (insA X) 25)
  go_enter Try.func4, Try.ntmps4
  go_wp2_with fail
  obtain ⟨gx, hgx⟩ : ∃ z, w.heap.size = z := ⟨_, rfl⟩
  rw [hgx] at H ⊢
  clear hgx
  refine (awake_any _).mono ?_
  rintro r w1 ⟨rfl, g1⟩
  have H1 := hide ((unhide H).grown g1)
  clear g1 H
  obtain ⟨⟨p0, r0⟩, ⟨p1, r1⟩, ⟨p2, r2⟩, ⟨p3, r3⟩, ⟨p4, r4⟩, ⟨p5, r5⟩, ⟨p6, r6⟩, ⟨p7, r7⟩, ⟨p8, r8⟩, ⟨p9, r9⟩, ⟨p10, r10⟩, ⟨p11, r11⟩⟩ := c12 (Heap.heap (unhide H1))
  go_wp2_with fail
  clear p0 r0 p1 r1 p2 r2 p3 r3 p4 r4 p5 r5 p6 r6 p7 r7 p8 r8 p9 r9 p10 r10 p11 r11
  refine (unhide H12 _).mono ?_
  rintro r w2 ⟨rfl, g1⟩
  have H2 := hide ((unhide H1).grown g1)
  clear g1 H1
  obtain ⟨⟨p0, r0⟩, ⟨p1, r1⟩, ⟨p2, r2⟩, ⟨p3, r3⟩, ⟨p4, r4⟩, ⟨p5, r5⟩, ⟨p6, r6⟩, ⟨p7, r7⟩, ⟨p8, r8⟩, ⟨p9, r9⟩, ⟨p10, r10⟩, ⟨p11, r11⟩⟩ := c12 (Heap.heap (unhide H2))
  go_wp2_with fail
  clear p0 r0 p1 r1 p2 r2 p3 r3 p4 r4 p5 r5 p6 r6 p7 r7 p8 r8 p9 r9 p10 r10 p11 r11
  refine (unhide H13 _).mono ?_
  rintro r w3 ⟨rfl, g1⟩
  have hJ := (unhide H2).grown g1
  have HG := hide (show GN w w3 from ⟨hJ.below.os, hJ.below.tape, hJ.below.output, hJ.below.size, fun k hk _ => hJ.below.block k hk⟩)
  clear g1 H2 hJ
  go_wp2
  go_ret
  exact ⟨by simp, unhide HG⟩
theorem fits_ins_of {cs : Array Value} (h : Fits [.some .i64, .some .i64, .some .i64, .some .i64, .some .i64, .some .i64, .some .i64, .some .i64, .some .i64, .none, .none, .none] cs.toList) : ∃ x : Ins, WFI x ∧ cs = insA x := by
  obtain ⟨l⟩ := cs
  simp only at h
  obtain ⟨vk, tk, ek, ⟨k, hk, wk⟩, fk⟩ := fits_c h
  obtain ⟨vrd, trd, erd, ⟨rd, hrd, wrd⟩, frd⟩ := fits_c fk
  obtain ⟨vr1, tr1, er1, ⟨r1, hr1, wr1⟩, fr1⟩ := fits_c frd
  obtain ⟨vr2, tr2, er2, ⟨r2, hr2, wr2⟩, fr2⟩ := fits_c fr1
  obtain ⟨vr3, tr3, er3, ⟨r3, hr3, wr3⟩, fr3⟩ := fits_c fr2
  obtain ⟨vrm, trm, erm, ⟨rm, hrm, wrm⟩, frm⟩ := fits_c fr3
  obtain ⟨vc, tc, ec, ⟨c, hc, wc⟩, fc⟩ := fits_c frm
  obtain ⟨vsz, tsz, esz, ⟨sz, hsz, wsz⟩, fsz⟩ := fits_c fc
  obtain ⟨vi, ti, ei, ⟨i, hi, wi⟩, fi⟩ := fits_c fsz
  obtain ⟨vui, tui, eui, ⟨ui, hui⟩, fui⟩ := fits_c fi
  obtain ⟨vus, tus, eus, ⟨us, hus⟩, fus⟩ := fits_c fui
  obtain ⟨vwd, twd, ewd, ⟨wd, hwd⟩, fwd⟩ := fits_c fus
  have ez := fits_n fwd
  refine ⟨⟨k, rd, r1, r2, r3, rm, c, sz, i, ui, us, wd⟩, ⟨wk, wrd, wr1, wr2, wr3, wrm, wc, wsz, wi⟩, ?_⟩
  rw [ek, erd, er1, er2, er3, erm, ec, esz, ei, eui, eus, ewd, ez, hk, hrd, hr1, hr2, hr3, hrm, hc, hsz, hi, hui, hus, hwd]
  rfl
end Go.Proofs.Ytopbdiekfhikmaa
