/- Layer 23: LsqDoes: equal answers. -/
import Derived.Test.YtdmkgomcomcfhaaR10
namespace Go.Proofs.Ytdmkgomcomcfhaa
open Go.RowKit

theorem whLoop_out (n : Nat) (pc : Int) (s : WS) (k0 : Nat) : ∀ j, (whLoop n pc s k0 j).out.length ≤ s.out.length + j := by
  intro j
  induction j with
  | zero => exact Nat.le_refl _
  | succ j ih =>
    show (whStep n pc (whLoop n pc s k0 j) (k0 + j)).out.length ≤ _
    unfold whStep
    split
    · split
      · simp only [List.length_append, List.length_cons, List.length_nil]; omega
      · omega
    · omega
theorem where_len {q : Qs} (hI : QI q) (t a sz : Int) : (whereQ q t a sz).1.1.length ≤ 16 := by
  have h16 := hI.len
  unfold whereQ
  split
  · simp
  · rename_i n e _
    split
    · have := whLoop_out n e.pc ⟨q.l.set n (placeE e a sz), q.h, []⟩ (n + 1) (q.l.length - (n + 1))
      show (whS q n e a sz).out.length ≤ 16
      unfold whS
      simp only [List.length_nil] at this
      omega
    · simp
theorem ints_len (l : List Int) : (ints l).length = l.length := by simp [ints]
theorem ints_get (l : List Int) {k : Nat} {x : Int} (h : l[k]? = some x) : (ints l)[k]? = some (.int .i64 x) := by unfold ints; rw [List.getElem?_map, h]; rfl
set_option maxRecDepth 100000 in
theorem same_eq {w : World} {v v' : Value} {l : List Int} (h1 : Sl w 1 v l.length (ints l)) (h2 : Sl w 1 v' l.length (ints l)) (hl : l.length ≤ 16) :
    Calls Try.prog 17 #[v, v'] w fun r w' => r = .returned (.bool true) ∧ GN w w' := by
  obtain ⟨A, cap, rfl, _⟩ := h1.parts
  obtain ⟨B, cap', rfl, _⟩ := h2.parts
  have H1 := hide h1
  have H2 := hide h2
  obtain ⟨n, hn⟩ : ∃ n, l.length = n := ⟨_, rfl⟩
  rw [hn] at hl H1 H2 ⊢
  have Hn := hide hn
  have hnn : ((n : Int) != (n : Int)) = false := by simp
  clear h1 h2 hn
  go_enter Try.func17, Try.ntmps17
  go_wp2
  go_loopw [5] (fun i wr => ∃ k : Nat, i = .int .i64 k ∧ k ≤ n ∧ GN w wr) (fun i _ => n - (intOf i).toNat)
  case atStart => exact ⟨0, rfl, Nat.zero_le _, GN.refl _⟩
  case round =>
    obtain ⟨k, rfl, hk, hG⟩ := hrel
    by_cases hlt : k < n
    · obtain ⟨x, hx⟩ : ∃ x, l[k]? = some x := ⟨_, List.getElem?_eq_getElem (by rw [unhide Hn]; exact hlt)⟩
      have h1 := (unhide H1).gn hG
      have h2 := (unhide H2).gn hG
      obtain ⟨g1, o1, c1, hv1, _⟩ := h1.addr (by omega)
      obtain ⟨g2, o2, c2, hv2, _⟩ := h2.addr (by omega)
      injection hv1 with hv1 _ hc1
      subst hv1 hc1
      injection hv2 with hv2 _ hc2
      subst hv2 hc2
      obtain ⟨l1, e1, _⟩ := h1.at_ (j := k) (by omega)
      obtain ⟨l2, e2, _⟩ := h2.at_ (j := k) (by omega)
      rw [ints_get l hx] at e1 e2
      have b0 : (0 : Int) ≤ (k : Int) := by omega
      have b1 : (k : Int) < (n : Int) := by omega
      have hxx : (x != x) = false := by simp
      clear h1 h2 hx
      go_wp2
      go_quiet (fail)
      go_wp2
      exact ⟨⟨k + 1, by go_num, by omega, hG.drewN _⟩, by simp [intOf]; omega⟩
    · obtain rfl : k = n := by omega
      go_wp2
      go_ret
      exact ⟨rfl, hG⟩
theorem wf_u64r {x : Int} (h0 : 0 ≤ x) (h1 : x < 18446744073709551616) : (Lit.int .u64 x).wf = true := by
  simp [Lit.wf, IntKind.min, IntKind.max, IntKind.signed, IntKind.bits]; omega
theorem wf_u8r {x : Int} (h0 : 0 ≤ x) (h1 : x < 256) : (Lit.int .u8 x).wf = true := by
  simp [Lit.wf, IntKind.min, IntKind.max, IntKind.signed, IntKind.bits]; omega
theorem flat40 : flat Try.prog 8 40 = .some [.none, .some .u8, .some .u64] := by kernel_rfl
theorem named40 : named Try.prog 8 40 = true := by kernel_rfl
theorem kt40 : Try.prog.keyTypeAt 8 40 = true := by kernel_rfl
theorem formed40 (a : Bool) (b c : Int) : (Value.agg #[.bool a, .int .u8 b, .int .u64 c]).formed Try.prog 40 = true := by kernel_rfl
theorem look_bd {q : Qs} (hI : QI q) (t : Int) : (0 ≤ (lookQ q t).1.mask ∧ (lookQ q t).1.mask < 256) ∧ 0 ≤ (lookQ q t).1.val ∧ (lookQ q t).1.val < 18446744073709551616 := by
  have hz : (0 ≤ GotS.z.mask ∧ GotS.z.mask < 256) ∧ 0 ≤ GotS.z.val ∧ GotS.z.val < 18446744073709551616 := by decide
  unfold lookQ
  split
  · exact hz
  · rename_i n _
    split
    · exact hz
    · rename_i e he
      split
      · exact hz
      · show (0 ≤ (lookG q n e).mask ∧ (lookG q n e).mask < 256) ∧ 0 ≤ (lookG q n e).val ∧ (lookG q n e).val < 18446744073709551616
        unfold lookG
        split
        · decide
        · have hs := size_bd (hI.ok e (List.mem_of_getElem? he))
          have hb := gotN_bd q.l e n (waitN q e n) e.size.toNat
          obtain ⟨m, hm⟩ : ∃ m, e.size.toNat = m := ⟨_, rfl⟩
          rw [hm] at hb ⊢
          have hm8 : m ≤ 8 := by omega
          have p1 : (2 : Int) ^ m ≤ 256 := by
            have h1 : 2 ^ m ≤ 2 ^ 8 := Nat.pow_le_pow_right (by decide) hm8
            have h2 : (2 : Int) ^ m = ((2 ^ m : Nat) : Int) := by simp
            rw [h2]; omega
          have p2 : (2 : Int) ^ (8 * m) ≤ 18446744073709551616 := by
            have h1 : 2 ^ (8 * m) ≤ 2 ^ 64 := Nat.pow_le_pow_right (by decide) (by omega)
            have h2 : (2 : Int) ^ (8 * m) = ((2 ^ (8 * m) : Nat) : Int) := by simp
            rw [h2]; omega
          obtain ⟨b0, b1, b2, b3⟩ := hb
          exact ⟨⟨b0, by omega⟩, b2, by omega⟩
theorem got_ne {q : Qs} (hI : QI q) (t : Int) (w : World) : (binOp .neq 40 (.agg (lookQ q t).1.cs.toArray) (.agg (lookQ q t).1.cs.toArray)).run Try.prog w = .ok (.bool false) w := by
  have hb := look_bd hI t
  obtain ⟨⟨gw, gm, gv⟩, hG⟩ : ∃ G, (lookQ q t).1 = G := ⟨_, rfl⟩
  rw [hG] at hb ⊢
  exact run_neq_same flat40 named40 kt40 (formed40 _ _ _) ⟨⟨_, rfl⟩, ⟨_, rfl, wf_u8r hb.1.1 hb.1.2⟩, ⟨_, rfl, wf_u64r hb.2.1 hb.2.2⟩, trivial⟩
theorem step_d {w wr : World} {A : Option Addr} {n k : Nat} (hS : SlArg [some .i64, some .i64, some .u64, some .i64, some .u64] w A n) (hb : Below w.heap.size w wr) (hk : k < n) : ∃ ab ao, A = some ⟨ab, ao, none⟩ ∧ ∃ (kd tg a sz v : Int),
    (wr.cell? ⟨ab, ao + k * 5, none⟩ = some (.int .i64 kd) ∧ wr.cell? ⟨ab, ao + k * 5 + 1, none⟩ = some (.int .i64 tg) ∧ wr.cell? ⟨ab, ao + k * 5 + 2, none⟩ = some (.int .u64 a) ∧ wr.cell? ⟨ab, ao + k * 5 + 3, none⟩ = some (.int .i64 sz) ∧
     wr.cell? ⟨ab, ao + k * 5 + 4, none⟩ = some (.int .u64 v)) ∧ ((-9223372036854775808 ≤ tg ∧ tg < 9223372036854775808) ∧ (0 ≤ a ∧ a < 18446744073709551616) ∧ 0 ≤ v ∧ v < 18446744073709551616) ∧ ab < wr.heap.size := by
  obtain ⟨ab, ao, hA, hab, hX⟩ := hS (by omega)
  obtain ⟨cs, hf, hc⟩ := hX k hk
  have c0 := cell_int hf hc (j := 0) rfl
  have c1 := cell_int hf hc (j := 1) rfl
  have c2 := cell_int hf hc (j := 2) rfl
  have c3 := cell_int hf hc (j := 3) rfl
  have c4 := cell_int hf hc (j := 4) rfl
  simp only [List.length_cons, List.length_nil, Nat.zero_add, Nat.reduceAdd, Nat.add_zero] at c0 c1 c2 c3 c4
  have up : ∀ {o : Nat} {v : Value}, w.cell? ⟨ab, o, none⟩ = some v → wr.cell? ⟨ab, o, none⟩ = some v := fun h => (hb.cell (p := ⟨ab, _, none⟩) hab).trans h
  exact ⟨ab, ao, hA, _, _, _, _, _, ⟨up c0.1, up c1.1, up c2.1, up c3.1, up c4.1⟩, ⟨i64' c1.2, b64' c2.2, b64' c4.2⟩, Nat.lt_of_lt_of_le hab hb.size⟩
theorem cells5s {w : World} {b : Nat} {a0 a1 a2 a3 a4 : Value} {T : TypeId} (h : w.heap[b]? = some (.cells #[a0, a1, a2, a3, a4] T (0, 0))) :
    w.cell? ⟨b, 0, none⟩ = some a0 ∧ w.cell? ⟨b, 1, none⟩ = some a1 ∧ w.cell? ⟨b, 2, none⟩ = some a2 ∧ w.cell? ⟨b, 3, none⟩ = some a3 ∧ w.cell? ⟨b, 4, none⟩ = some a4 := by
  simp [World.cell?, h]
end Go.Proofs.Ytdmkgomcomcfhaa
