/- Layer 23: the reference: Look. -/
import Derived.Test.YtdmkgomcomcfhaaR4
namespace Go.Proofs.Ytdmkgomcomcfhaa
open Go.RowKit
theorem Heap.got3 {w0 w : World} {L : List HP} {k : Nat} {a b c : Value} (h : Heap w0 w (HP.blk k #[a, b, c] 40 :: L)) (a' b' c' : Value) : Heap w0 (((w.setCell ⟨k, 0, none⟩ a').setCell ⟨k, 1, none⟩ b').setCell ⟨k, 2, none⟩ c') (HP.blk k #[a', b', c'] 40 :: L) := ((h.set 0 a').set 1 b').set 2 c'
theorem resR {fn : Func} {p u : Tmp} {tmps : Array Value} {w : World} {g : Nat} {a : Bool} {d f : Int} {x : Value} (h : fn.results = #[.cell p 40, .tmp u]) (hp : tmps.getD p undef = .pointer (some ⟨g, 0, none⟩)) (hu : tmps.getD u undef = x)
    (hg : w.heap[g]? = some (.cells #[.bool a, .int .u8 d, .int .u64 f] 40 (0, 0))) :
    (results fn tmps).run Try.prog w = .ok (.tuple #[.agg #[.bool a, .int .u8 d, .int .u64 f], x]) w := by
  have hl := run_loadVar_row (P := Try.prog) w g 40 40 #[.bool a, .int .u8 d, .int .u64 f] (0, 0) _ hg Try.underlying40 rfl (by kernel_rfl)
  subst hu
  have hp' : tmps[p]?.getD undef = .pointer (some ⟨g, 0, none⟩) := by simpa using hp
  simp only [results, h]
  simp [Sem.run_bind, Result.andThen, hp', asAddr, hl]
theorem gotStep_wait {l : List Ent} {e : Ent} {n i : Nat} {G : GotS} (h : G.wait = true) : (gotStep l e n i G).wait = true := by
  unfold gotStep
  split
  · exact h
  · split
    · simp [h]
    · exact h
theorem gotN_wait {l : List Ent} {e : Ent} {n : Nat} {w0 : Bool} {i : Nat} : ∀ {j : Nat}, i ≤ j → (gotN l e n w0 i).wait = true → (gotN l e n w0 j).wait = true := by
  intro j hij h
  induction j with
  | zero => obtain rfl : i = 0 := by omega
            exact h
  | succ j ih =>
    by_cases hj : i ≤ j
    · exact gotStep_wait (ih hj)
    · obtain rfl : i = j + 1 := by omega
      exact h
theorem waitN_up {q : Qs} {e x : Ent} {k : Nat} (hx : q.l[k]? = some x) : waitN q e (k + 1) = (waitN q e k || (x.store && !x.placed && (q.h (rowN e.pc)).2 && ((q.h (rowN e.pc)).1 == x.pc))) := by
  unfold waitN
  rw [List.take_add_one, hx, List.any_append]
  simp
theorem waitN_le {q : Qs} {e : Ent} {k n : Nat} (hk : k ≤ n) (h : waitN q e k = true) : waitN q e n = true := by
  unfold waitN at *
  rw [List.any_eq_true] at *
  obtain ⟨x, hx, hp⟩ := h
  exact ⟨x, (List.take_sublist_take_left hk).subset hx, hp⟩
theorem lookG_wait {q : Qs} {n : Nat} {e : Ent} (h : waitN q e n = true) : lookG q n e = ⟨true, 0, 0⟩ := by
  unfold lookG
  rw [if_pos]
  exact gotN_wait (Nat.zero_le _) (by show waitN q e n = true; exact h)
theorem lookG_nodata {q : Qs} {n j : Nat} {e : Ent} (h : waitN q e n = false) (hj : j ≤ e.size.toNat) (hw : (gotN q.l e n false j).wait = true) : lookG q n e = ⟨true, 0, 0⟩ := by
  unfold lookG
  rw [h, if_pos]
  exact gotN_wait hj hw
theorem lookG_end {q : Qs} {n : Nat} {e : Ent} {m v : Int} (h : waitN q e n = false) (hw : gotN q.l e n false e.size.toNat = ⟨false, m, v⟩) : lookG q n e = ⟨false, m, v⟩ := by
  unfold lookG
  rw [h, hw, if_neg (by simp)]
theorem look_arith {e s : Ent} (heo : e.ok) (hso : s.ok) {i : Nat} (hi : i < 8) {gm gv : Int} (hG : (⟨false, gm, gv⟩ : GotS).bd i) (hD : shD e s i < 8) : ∃ (D : Nat) (Y B S M : Int),
    IntKind.u64.wrap (wrapA e.at_ i - s.at_) = (D : Int) ∧ IntKind.u64.wrap (8 * (D : Int)) = 8 * (D : Int) ∧
    (∀ w, (binOp .shr 28 (.int .u64 s.v) (.int .u64 (8 * (D : Int)))).run Try.prog w = .ok (.int .u64 Y) w) ∧ IntKind.u64.wrap (Y.tmod 256) = B ∧
    (∀ w, (binOp .shl 5 (.int .u8 1) (.int .i64 (i : Nat))).run Try.prog w = .ok (.int .u8 M) w) ∧ (∀ w, (binOp .add 5 (.int .u8 gm) (.int .u8 M)).run Try.prog w = .ok (.int .u8 (gm + M)) w) ∧
    (∀ w, (binOp .shl 28 (.int .u64 B) (.int .i64 (IntKind.i64.wrap (8 * (i : Int))))).run Try.prog w = .ok (.int .u64 S) w) ∧ (∀ w, (binOp .add 28 (.int .u64 gv) (.int .u64 S)).run Try.prog w = .ok (.int .u64 (gv + S)) w) ∧
    M = 2 ^ i ∧ S = byteG e s i * 2 ^ (8 * i) ∧ D < 8 ∧ (s.v / 2 ^ (8 * D)).tmod 256 = B := by
  obtain ⟨m0, m1, v0, v1⟩ := hG
  dsimp only at m0 m1 v0 v1
  obtain ⟨e0, e1⟩ := heo.at_
  obtain ⟨s0, s1⟩ := hso.at_
  obtain ⟨t0, t1⟩ := hso.v
  obtain ⟨D, hDe⟩ : ∃ D, shD e s i = D := ⟨_, rfl⟩
  have hb1 := byteG_bd e s i
  have hb2 : byteG e s i = s.v / 2 ^ (8 * D) % 256 := by unfold byteG; rw [hDe]
  rw [hDe] at hD
  obtain ⟨B, hBe⟩ : ∃ B, byteG e s i = B := ⟨_, rfl⟩
  rw [hBe] at hb1 hb2 ⊢
  have p2 : (1 : Int) ≤ 2 ^ (8 * D) := by have := pow_pos (8 * D); omega
  have hW : IntKind.u64.wrap (wrapA e.at_ i - s.at_) = (D : Int) := by
    unfold shD at hDe
    rw [IntKind.wrap_u64]
    omega
  have yb0 : 0 ≤ s.v / 2 ^ (8 * D) := Int.ediv_nonneg t0 (by omega)
  have yb1 : s.v / 2 ^ (8 * D) ≤ s.v := Int.ediv_le_self _ t0
  have p3 := pow_pos (8 * i)
  have p4 : (2 : Int) ^ (8 * i) ≤ 72057594037927936 := by
    have h1 : 2 ^ (8 * i) ≤ 2 ^ 56 := Nat.pow_le_pow_right (by decide) (by omega)
    have h2 : (2 : Int) ^ (8 * i) = ((2 ^ (8 * i) : Nat) : Int) := by simp
    rw [h2]
    omega
  have h3 : B * 2 ^ (8 * i) ≤ 255 * 2 ^ (8 * i) := Int.mul_le_mul_of_nonneg_right (by omega) (by omega)
  have h4 : 0 ≤ B * 2 ^ (8 * i) := Int.mul_nonneg hb1.1 (by omega)
  have hc8 : IntKind.i64.wrap (8 * (i : Int)) = ((8 * i : Nat) : Int) := by rw [wrap_i64]; split <;> omega
  have q3 : (2 : Int) ^ i ≤ 128 := by
    have h1 : 2 ^ i ≤ 2 ^ 7 := Nat.pow_le_pow_right (by decide) (by omega)
    have h2 : (2 : Int) ^ i = ((2 ^ i : Nat) : Int) := by simp
    rw [h2]
    omega
  have q4 := pow_pos i
  refine ⟨D, s.v / 2 ^ (8 * D), B, B * 2 ^ (8 * i), 2 ^ i, hW, by rw [IntKind.wrap_u64]; omega, shr64 s.v _ (8 * D) (by omega) (by omega), ?_, shl8 i hi, fun w => ?_, shl64 B _ (8 * i) hc8 (by omega) h4 (by omega), fun w => ?_, rfl, rfl, hD, by rw [Int.tmod_eq_emod_of_nonneg yb0, hb2]⟩
  · rw [Int.tmod_eq_emod_of_nonneg yb0, IntKind.wrap_u64, hb2]
    omega
  · have h : IntKind.u8.wrap (gm + 2 ^ i) = gm + 2 ^ i := by
      show (gm + 2 ^ i) % 256 = gm + 2 ^ i
      omega
    have h2 : (binOp .add 5 (.int .u8 gm) (.int .u8 (2 ^ i))).run Try.prog w = .ok (.int .u8 (IntKind.u8.wrap (gm + 2 ^ i))) w := rfl
    rw [h2, h]
  · have h : IntKind.u64.wrap (gv + B * 2 ^ (8 * i)) = gv + B * 2 ^ (8 * i) := by
      rw [IntKind.wrap_u64]
      omega
    have h2 : (binOp .add 28 (.int .u64 gv) (.int .u64 (B * 2 ^ (8 * i)))).run Try.prog w = .ok (.int .u64 (IntKind.u64.wrap (gv + B * 2 ^ (8 * i)))) w := rfl
    rw [h2, h]
section
variable {w0 w : World} {L : List HP} {b : Nat} {q : Qs}
set_option maxRecDepth 100000 in
set_option maxHeartbeats 4000000 in
theorem look_r (h : Heap w0 w (HP.r b q :: L)) (tag : Int) :
    Calls Try.prog 21 #[ptr b, .int .i64 tag] w fun r w' => r = .returned (.tuple #[.agg (lookQ q tag).1.cs.toArray, .bool (lookQ q tag).2]) ∧ Heap w0 w' (HP.r b q :: L) := by
  obtain ⟨A, cap, gh, oh, ch, gi, oi, ci, hR, hh⟩ := h.rro
  have HR := hide hR
  have HH := hide h
  obtain ⟨R, hR2⟩ : ∃ R, lookQ q tag = R := ⟨_, rfl⟩
  rw [hR2]
  have HR2 := hide hR2
  have HI := hide hR.inv
  have hlen16 := hR.inv.len
  have hcall := hide fun w' (hg : GN w w') => findR (hR.gn hg) tag
  have H0 := hide (hh.new #[.bool false, .int .u8 0, .int .u64 0] 40)
  have hcapl := hide hR.capl
  clear hR h hh hR2
  unfold ptr
  go_enter Try.func21, Try.ntmps21
  go_wp2_with fail
  refine (unhide hcall _ ((GN.refl w).alloc _)).mono ?_
  rintro r w1 ⟨rfl, hw1⟩
  replace hw1 := hw1.symm
  subst hw1
  clear hcall HH
  obtain ⟨ka, hka⟩ : ∃ k, w.heap.size = k := ⟨_, rfl⟩
  rw [hka] at H0 ⊢
  have HRA := hide ((unhide HR).gn ((GN.refl w).alloc (.cells #[.bool false, .int .u8 0, .int .u64 0] 40)))
  generalize w.alloc (.cells #[.bool false, .int .u8 0, .int .u64 0] 40) = wA at *
  clear HR hka
  obtain ⟨q0, _, hbl⟩ := (unhide HRA).c0
  obtain ⟨a0, fa0⟩ := cell_blk (Heap.heap (unhide H0)) 0
  obtain ⟨a1, fa1⟩ := cell_blk (Heap.heap (unhide H0)) 1
  obtain ⟨a2, fa2⟩ := cell_blk (Heap.heap (unhide H0)) 2
  have hal := lt_of_heap' (Heap.heap (unhide H0))
  cases hf : findN q.l tag with
  | none =>
    have hfin := hide (show R = (GotS.z, false) by rw [← unhide HR2]; unfold lookQ; rw [hf])
    clear hf
    unfold optI
    have HS := hide (Heap.got3 (unhide H0) (.bool false) (.int .u8 0) (.int .u64 0))
    go_wp2
    exact bodyPost_ret (v := .tuple #[.agg #[.bool false, .int .u8 0, .int .u64 0], .bool false]) (resR rfl rfl rfl (Heap.heap (unhide HS))) rfl ⟨by rw [unhide hfin]; rfl, Heap.rrc (unhide HI) (unhide HS).tail⟩
  | some n =>
    obtain ⟨e, he, het⟩ := findN_get hf
    clear het
    have hn0 : decide ((n : Int) < 0) = false := decide_eq_false (by omega)
    have hnl := (List.getElem?_eq_some_iff.1 he).1
    obtain ⟨g, o, e', rfl, he', hgl, d0, d1, d2, d3, d4, d5, d6, d7, d8⟩ := (unhide HRA).at_ hnl
    rw [he] at he'
    injection he' with he'
    subst he'
    have hfin0 : R = if e.store || !e.placed then (GotS.z, false) else (lookG q n e, true) := by rw [← unhide HR2]; unfold lookQ; rw [hf]; simp only [he]
    have Hfin0 := hide hfin0
    have He := hide he
    have heo := (unhide HI).ok e (List.mem_of_getElem? he)
    have Heo := hide heo
    obtain ⟨len, hlen⟩ : ∃ len, q.l.length = len := ⟨_, rfl⟩
    have Hlen := hide hlen
    rw [hlen] at q0 hnl hlen16
    clear hf he hfin0 heo hlen HR2
    unfold optI
    cases hs : e.store with
    | true =>
      rw [hs] at d2
      have hfin := hide (show R = (GotS.z, false) by rw [unhide Hfin0, hs]; rfl)
      have HS := hide (Heap.got3 (unhide H0) (.bool false) (.int .u8 0) (.int .u64 0))
      go_wp2
      exact bodyPost_ret (v := .tuple #[.agg #[.bool false, .int .u8 0, .int .u64 0], .bool false]) (resR rfl rfl rfl (Heap.heap (unhide HS))) rfl ⟨by rw [unhide hfin]; rfl, Heap.rrc (unhide HI) (unhide HS).tail⟩
    | false =>
    cases hp : e.placed with
    | false =>
      rw [hs] at d2
      rw [hp] at d3
      have hfin := hide (show R = (GotS.z, false) by rw [unhide Hfin0, hs, hp]; rfl)
      have HS := hide (Heap.got3 (unhide H0) (.bool false) (.int .u8 0) (.int .u64 0))
      go_wp2
      exact bodyPost_ret (v := .tuple #[.agg #[.bool false, .int .u8 0, .int .u64 0], .bool false]) (resR rfl rfl rfl (Heap.heap (unhide HS))) rfl ⟨by rw [unhide hfin]; rfl, Heap.rrc (unhide HI) (unhide HS).tail⟩
    | true =>
    have hfin := hide (show R = (lookG q n e, true) by rw [unhide Hfin0, hs, hp]; rfl)
    have Hsp := hide (And.intro hs hp)
    rw [hs] at d2
    rw [hp] at d3
    clear Hfin0 hs hp
    obtain ⟨kx, hkx⟩ : ∃ k, wA.heap.size = k := ⟨_, rfl⟩
    obtain ⟨ko, hko⟩ : ∃ k, wA.heap.size + 1 = k := ⟨_, rfl⟩
    have h1 := ((unhide H0).new #[.int .i64 e.tag, .int .u64 e.pc, .bool false, .bool true, .bool e.data, .bool e.read, .int .u64 e.at_, .int .i64 e.size, .int .u64 e.v] 84).new #[.bool false, .int .u8 0, .int .u64 0] 40
    rw [show (wA.alloc (.cells #[.int .i64 e.tag, .int .u64 e.pc, .bool false, .bool true, .bool e.data, .bool e.read, .int .u64 e.at_, .int .i64 e.size, .int .u64 e.v] 84)).heap.size = wA.heap.size + 1 by simp, hko, hkx] at h1
    have H1 := hide h1
    have Hk := hide (And.intro hkx hko)
    clear h1 hkx hko
    go_upto_region 6 with fail
    rw [(unhide Hk).2, (unhide Hk).1]
    generalize (wA.alloc (.cells #[.int .i64 e.tag, .int .u64 e.pc, .bool false, .bool true, .bool e.data, .bool e.read, .int .u64 e.at_, .int .i64 e.size, .int .u64 e.v] 84)).alloc (.cells #[.bool false, .int .u8 0, .int .u64 0] 40) = wB at H1 ⊢
    have H1 := hide (show Heap w0 wB (HP.blk ka #[.bool false, .int .u8 0, .int .u64 0] 40 :: HP.blk kx #[.int .i64 e.tag, .int .u64 e.pc, .bool false, .bool true, .bool e.data, .bool e.read, .int .u64 e.at_, .int .i64 e.size, .int .u64 e.v] 84 :: HP.blk ko #[.bool false, .int .u8 0, .int .u64 0] 40 :: OR b (some ⟨g, o, none⟩) cap gh oh ch gi oi ci q L) from (unhide H1).b3.f2)
    clear hbl hgl q0 d0 d1 d2 d3 d4 d5 d6 d7 d8 a0 a1 a2 fa0 fa1 fa2 hal H0 HRA Hk
    go_wp2
    go_loopw [9] (fun i wr => ∃ k : Nat, i = .int .i64 k ∧ k ≤ n ∧ waitN q e k = false ∧ Heap w0 wr (HP.blk ka #[.bool false, .int .u8 0, .int .u64 0] 40 :: HP.blk kx #[.int .i64 e.tag, .int .u64 e.pc, .bool false, .bool true, .bool e.data, .bool e.read, .int .u64 e.at_, .int .i64 e.size, .int .u64 e.v] 84 :: HP.blk ko #[.bool false, .int .u8 0, .int .u64 0] 40 :: OR b (some ⟨g, o, none⟩) cap gh oh ch gi oi ci q L)) (fun i _ => n - (intOf i).toNat)
    case atStart => exact ⟨0, rfl, Nat.zero_le _, by simp [waitN], unhide H1⟩
    case round =>
      obtain ⟨k, rfl, hk, hwt, hJ⟩ := hrel
      clear H1
      have Hwt := hide hwt
      by_cases hlt : k < n
      · have hR := Heap.rrr (unhide HI) (unhide hcapl) hJ.tail.tail.tail
        obtain ⟨q0, _, hbl⟩ := hR.c0
        obtain ⟨g', o', x, hA', hx, hgl, d0, d1, d2, d3, d4, d5, d6, d7, d8⟩ := hR.at_ (k := k) (by rw [unhide Hlen]; omega)
        injection hA' with hA'
        injection hA' with hA1 hA2 _
        subst hA1 hA2
        rw [unhide Hlen] at q0
        obtain ⟨ky, hky⟩ : ∃ k, wr.heap.size = k := ⟨_, rfl⟩
        have hD := hJ.new #[.int .i64 x.tag, .int .u64 x.pc, .bool x.store, .bool x.placed, .bool x.data, .bool x.read, .int .u64 x.at_, .int .i64 x.size, .int .u64 x.v] 84
        rw [hky] at hD
        have Hky := hide hky
        have HD := hide hD
        have hup := waitN_up (e := e) hx
        have Hup := hide hup
        clear hJ hR hky hD hx hwt hup
        go_upto_region 10 with fail
        rw [unhide Hky]
        generalize wr.alloc (.cells #[.int .i64 x.tag, .int .u64 x.pc, .bool x.store, .bool x.placed, .bool x.data, .bool x.read, .int .u64 x.at_, .int .i64 x.size, .int .u64 x.v] 84) = wd at HD ⊢
        clear q0 hbl hgl d0 d1 d2 d3 d4 d5 d6 d7 d8 Hky
        obtain ⟨n0, n1, n2, n3, n4, n5, n6, n7, n8⟩ := cells9r (e := x) (Heap.heap (unhide HD))
        have hnl2 := lt_of_heap' (Heap.heap (unhide HD))
        have x1 : wd.cell? ⟨kx, 1, none⟩ = some (.int .u64 e.pc) := (cell_blk (Heap.heap (Heap.f3 (unhide HD))) 1).1
        have hxl := lt_of_heap' (Heap.heap (Heap.f3 (unhide HD)))
        have hR := Heap.rrr (unhide HI) (unhide hcapl) (unhide HD).tail.tail.tail.tail
        obtain ⟨_, _, hbl⟩ := hR.c0
        have c1 := hR.c1
        have c2 := hR.c2
        have hr16 := rowN_lt e.pc
        obtain ⟨u0, _, ul, b0, _, bl⟩ := hR.hab hr16
        obtain ⟨rw_, hrw⟩ : ∃ r, rowN e.pc = r := ⟨_, rfl⟩
        have Hrw := hide hrw
        rw [hrw] at u0 b0 hr16
        obtain ⟨hp_, hhp⟩ : ∃ p, q.h rw_ = p := ⟨_, rfl⟩
        have Hhp := hide hhp
        rw [hhp] at u0 b0
        clear hR hrw hhp n0 n4 n5 n6 n7 n8
        have hrow := hide fun w' => row_any (w := w') e.pc (unhide Heo).pc.1 (unhide Heo).pc.2
        rw [unhide Hrw] at hrow
        cases hs : x.store with
        | false =>
          rw [hs] at n2
          have HW := hide (show waitN q e (k + 1) = false by rw [unhide Hup, unhide Hwt, hs]; rfl)
          clear hs
          go_quiet (fail)
          go_wp2
          exact ⟨⟨k + 1, by go_num, by omega, unhide HW, ((unhide HD).tail).drewN _⟩, by simp [intOf]; omega⟩
        | true =>
        cases hp : x.placed with
        | true =>
          rw [hs] at n2
          rw [hp] at n3
          have HW := hide (show waitN q e (k + 1) = false by rw [unhide Hup, unhide Hwt, hs, hp]; rfl)
          clear hs hp
          go_quiet (fail)
          go_wp2
          exact ⟨⟨k + 1, by go_num, by omega, unhide HW, ((unhide HD).tail).drewN _⟩, by simp [intOf]; omega⟩
        | false =>
        rw [hs] at n2
        rw [hp] at n3
        have Hsp2 := hide (And.intro hs hp)
        clear hs hp
        obtain ⟨pp, pb⟩ := hp_
        dsimp only at u0 b0
        cases pb with
        | false =>
          have HW := hide (show waitN q e (k + 1) = false by rw [unhide Hup, unhide Hwt, (unhide Hsp2).1, (unhide Hsp2).2, unhide Hrw, unhide Hhp]; rfl)
          go_quiet ((go_at_call 41; exact Calls.quiet_of_same (unhide hrow _)))
          go_wp2
          exact ⟨⟨k + 1, by go_num, by omega, unhide HW, ((unhide HD).tail).drewN _⟩, by simp [intOf]; omega⟩
        | true =>
          cases hpc : (pp == x.pc) with
          | false =>
            have HW := hide (show waitN q e (k + 1) = false by rw [unhide Hup, unhide Hwt, (unhide Hsp2).1, (unhide Hsp2).2, unhide Hrw, unhide Hhp]; simp only [hpc]; rfl)
            go_quiet ((go_at_call 41; exact Calls.quiet_of_same (unhide hrow _)))
            go_wp2
            exact ⟨⟨k + 1, by go_num, by omega, unhide HW, ((unhide HD).tail).drewN _⟩, by simp [intOf]; omega⟩
          | true =>
            have HW := show waitN q e (k + 1) = true by rw [unhide Hup, unhide Hwt, (unhide Hsp2).1, (unhide Hsp2).2, unhide Hrw, unhide Hhp]; simp only [hpc]; rfl
            have HLK := hide (lookG_wait (waitN_le (n := n) (by omega) HW))
            clear HW
            go_quiet ((go_at_call 41; exact Calls.quiet_of_same (unhide hrow _)))
            go_upto_region 11 with fail
            have HE := hide ((unhide HD).tail.drewN nq)
            generalize wd.drewN nq = we at HE ⊢
            clear n1 n2 n3 hnl2 x1 hxl hbl c1 c2 u0 ul b0 bl HD
            obtain ⟨a0, fa0⟩ := cell_blk (Heap.heap (unhide HE)) 0
            obtain ⟨a1, fa1⟩ := cell_blk (Heap.heap (unhide HE)) 1
            obtain ⟨a2, fa2⟩ := cell_blk (Heap.heap (unhide HE)) 2
            have hal := lt_of_heap' (Heap.heap (unhide HE))
            have HS := hide (Heap.got3 (unhide HE) (.bool true) (.int .u8 0) (.int .u64 0))
            go_wp2
            exact bodyPost_ret (v := .tuple #[.agg #[.bool true, .int .u8 0, .int .u64 0], .bool true]) (resR rfl rfl rfl (Heap.heap (unhide HS))) rfl ⟨by rw [unhide hfin, unhide HLK]; rfl, Heap.rrc (unhide HI) (unhide HS).tail.tail.tail⟩
      · obtain rfl : n = k := by omega
        obtain ⟨sz, hsz⟩ : ∃ z : Nat, e.size = z := ⟨e.size.toNat, by have := (size_bd (unhide Heo)).1; omega⟩
        have hsz8 : sz ≤ 8 := by have := (size_bd (unhide Heo)).2; omega
        have Hsz := hide hsz
        have H2 := hide (show Heap w0 wr (HP.blk ko #[.bool false, .int .u8 0, .int .u64 0] 40 :: HP.blk ka #[.bool false, .int .u8 0, .int .u64 0] 40 :: HP.blk kx #[.int .i64 e.tag, .int .u64 e.pc, .bool false, .bool true, .bool e.data, .bool e.read, .int .u64 e.at_, .int .i64 e.size, .int .u64 e.v] 84 :: OR b (some ⟨g, o, none⟩) cap gh oh ch gi oi ci q L) from hJ.f3)
        have Hwn := hide hwt
        clear hJ hwt Hwt
        go_wp2
        go_loopw [11] (fun i wr => ∃ (j : Nat) (gm gv : Int), i = .int .i64 j ∧ j ≤ sz ∧ gotN q.l e n false j = ⟨false, gm, gv⟩ ∧ Heap w0 wr (HP.blk ko #[.bool false, .int .u8 gm, .int .u64 gv] 40 :: HP.blk ka #[.bool false, .int .u8 0, .int .u64 0] 40 :: HP.blk kx #[.int .i64 e.tag, .int .u64 e.pc, .bool false, .bool true, .bool e.data, .bool e.read, .int .u64 e.at_, .int .i64 e.size, .int .u64 e.v] 84 :: OR b (some ⟨g, o, none⟩) cap gh oh ch gi oi ci q L)) (fun i _ => sz - (intOf i).toNat)
        case atStart => exact ⟨0, 0, 0, rfl, Nat.zero_le _, rfl, unhide H2⟩
        case round =>
          obtain ⟨j, gm, gv, rfl, hj, hgN, hJ⟩ := hrel
          clear H2
          have HgN := hide hgN
          have HJ := hide hJ
          have x6 : wr.cell? ⟨kx, 6, none⟩ = some (.int .u64 e.at_) := (cell_blk (Heap.heap (Heap.f3 hJ)) 6).1
          have x7 : wr.cell? ⟨kx, 7, none⟩ = some (.int .i64 (sz : Int)) := by rw [← hsz]; exact (cell_blk (Heap.heap (Heap.f3 hJ)) 7).1
          have hxl := lt_of_heap' (Heap.heap (Heap.f3 hJ))
          have a0 := (cell_blk (Heap.heap (Heap.f2 hJ)) 0).1
          have fa0 := (cell_blk (Heap.heap (Heap.f2 hJ)) 0).2
          have a1 := (cell_blk (Heap.heap (Heap.f2 hJ)) 1).1
          have fa1 := (cell_blk (Heap.heap (Heap.f2 hJ)) 1).2
          have a2 := (cell_blk (Heap.heap (Heap.f2 hJ)) 2).1
          have fa2 := (cell_blk (Heap.heap (Heap.f2 hJ)) 2).2
          have hal := lt_of_heap' (Heap.heap (Heap.f2 hJ))
          clear hgN hsz
          by_cases hlt : j < sz
          · have hR := Heap.rrr (unhide HI) (unhide hcapl) hJ.tail.tail.tail
            obtain ⟨q0, _, hbl⟩ := hR.c0
            rw [unhide Hlen] at q0
            have hwb := wrapA_bd e.at_ j
            have e1 : IntKind.u64.wrap (j : Int) = (j : Int) := by rw [IntKind.wrap_u64]; omega
            have e2 : IntKind.u64.wrap (e.at_ + (j : Int)) = wrapA e.at_ j := IntKind.wrap_u64 _
            obtain ⟨A2, hA2⟩ : ∃ x, wrapA e.at_ j = x := ⟨_, rfl⟩
            have HA2 := hide hA2
            rw [hA2] at hwb e2
            have hgv := hide (giverR hR n (by rw [unhide Hlen]; omega) A2 hwb.1 hwb.2)
            clear hJ hA2 hR
            go_wp2_with fail
            refine (unhide hgv).mono ?_
            rintro r w2 ⟨rfl, hg2⟩
            clear hgv q0 hbl a0 fa0 a1 fa1 a2 fa2 hal x6 x7 hxl
            have hJ := (unhide HJ).grown hg2
            clear HJ hg2
            cases hgq : giver q.l A2 n with
            | none =>
              have hup : gotN q.l e n false (j + 1) = ⟨false, gm, gv⟩ := by
                show gotStep q.l e n j (gotN q.l e n false j) = _
                unfold gotStep
                rw [unhide HA2, hgq, unhide HgN]
              have Hup := hide hup
              have HJ := hide hJ
              clear hgq hup hJ
              unfold optI
              go_wp2
              exact ⟨⟨j + 1, gm, gv, by go_num, by omega, unhide Hup, unhide HJ⟩, by simp [intOf]; omega⟩
            | some gi_ =>
              obtain ⟨hgin, s, hsl, hss, hsh⟩ := giver_some hgq
              have hD8 := giver_sh (unhide HI) (by rw [unhide HA2]; exact hgq) hsl
              have hso := (unhide HI).ok s (List.mem_of_getElem? hsl)
              have hup : gotN q.l e n false (j + 1) = ⟨!s.data, gm + 2 ^ j, gv + byteG e s j * 2 ^ (8 * j)⟩ := by
                show gotStep q.l e n j (gotN q.l e n false j) = _
                unfold gotStep
                rw [unhide HA2, hgq, unhide HgN]
                simp only [hsl, Bool.false_or]
              have Hup := hide hup
              obtain ⟨D, Y, B, S, M, y1, y2, y3, y4, y5, y6, y7, y8, hM, hS, hD, y9⟩ := look_arith (unhide Heo) hso (show j < 8 by omega) (gm := gm) (gv := gv) (by have := gotN_bd q.l e n false j; rw [unhide HgN] at this; exact this) hD8
              rw [unhide HA2] at y1
              have HY9 := hide y9
              have hM1 := hide y5
              have hM2 := hide y6
              have hS1 := hide y7
              have hS2 := hide y8
              have HMS := hide (And.intro hM hS)
              have hR := Heap.rrr (unhide HI) (unhide hcapl) hJ.tail.tail.tail
              obtain ⟨q0, _, hbl⟩ := hR.c0
              rw [unhide Hlen] at q0
              obtain ⟨⟨d0, d1, d2, d3, d4, d5, d6, d7, d8⟩, hgl⟩ := ent_cells hR.sl hsl (by rw [unhide Hlen]; omega)
              have hgz : decide ((gi_ : Int) < 0) = false := decide_eq_false (by omega)
              obtain ⟨ky, hky⟩ : ∃ k, w2.heap.size = k := ⟨_, rfl⟩
              have hD2 := hJ.new #[.int .i64 s.tag, .int .u64 s.pc, .bool s.store, .bool s.placed, .bool s.data, .bool s.read, .int .u64 s.at_, .int .i64 s.size, .int .u64 s.v] 84
              rw [hky] at hD2
              have Hky := hide hky
              have HD := hide hD2
              clear hgq hss hsh hsl hD8 hso hup y5 y6 y7 y8 y9 hM hS hR hD2 hky hJ
              unfold optI
              go_upto_region 18 with fail
              rw [unhide Hky]
              generalize w2.alloc (.cells #[.int .i64 s.tag, .int .u64 s.pc, .bool s.store, .bool s.placed, .bool s.data, .bool s.read, .int .u64 s.at_, .int .i64 s.size, .int .u64 s.v] 84) = wd at HD ⊢
              clear q0 hbl hgl d0 d1 d2 d3 d4 d5 d6 d7 d8 Hky
              obtain ⟨n0, n1, n2, n3, n4, n5, n6, n7, n8⟩ := cells9r (e := s) (Heap.heap (unhide HD))
              have hnl2 := lt_of_heap' (Heap.heap (unhide HD))
              clear n0 n1 n2 n3 n5 n7
              have x6 : wd.cell? ⟨kx, 6, none⟩ = some (.int .u64 e.at_) := (cell_blk (Heap.heap (Heap.f4 (unhide HD))) 6).1
              have hxl := lt_of_heap' (Heap.heap (Heap.f4 (unhide HD)))
              cases hdt : s.data with
              | false =>
                rw [hdt] at n4
                have HLK := hide (lookG_nodata (unhide Hwn) (j := j + 1) (by rw [unhide Hsz]; omega) (by rw [unhide Hup, hdt]; rfl))
                have a0 := (cell_blk (Heap.heap (Heap.f3 (unhide HD))) 0).1
                have fa0 := (cell_blk (Heap.heap (Heap.f3 (unhide HD))) 0).2
                have a1 := (cell_blk (Heap.heap (Heap.f3 (unhide HD))) 1).1
                have fa1 := (cell_blk (Heap.heap (Heap.f3 (unhide HD))) 1).2
                have a2 := (cell_blk (Heap.heap (Heap.f3 (unhide HD))) 2).1
                have fa2 := (cell_blk (Heap.heap (Heap.f3 (unhide HD))) 2).2
                have hal := lt_of_heap' (Heap.heap (Heap.f3 (unhide HD)))
                have HS := hide (Heap.got3 (Heap.f3 (unhide HD)) (.bool true) (.int .u8 0) (.int .u64 0))
                clear n6 n8 x6 y1 y2 y3 y4 e1 e2 hdt
                go_wp2
                exact bodyPost_ret (v := .tuple #[.agg #[.bool true, .int .u8 0, .int .u64 0], .bool true]) (resR rfl rfl rfl (Heap.heap (unhide HS))) rfl ⟨by rw [unhide hfin, unhide HLK]; rfl, Heap.rrc (unhide HI) (unhide HS).tail.tail.tail.tail⟩
              | true =>
                rw [hdt] at n4
                have HN := hide (show gotN q.l e n false (j + 1) = ⟨false, gm + M, gv + S⟩ by rw [unhide Hup, hdt, (unhide HMS).1, (unhide HMS).2]; rfl)
                clear hdt Hup
                go_upto_region 21 with fail
                first | rw [unhide HY9] | skip
                clear n4 n6 n8 x6 y1 y2 y3 y4 hnl2 hxl
                have HE := hide (unhide HD).tail
                clear HD
                go_wp2_with fail
                refine wp_region_E (fun w_ => Heap w0 w_ (HP.blk ko #[.bool false, .int .u8 gm, .int .u64 gv] 40 :: HP.blk ka #[.bool false, .int .u8 0, .int .u64 0] 40 :: HP.blk kx #[.int .i64 e.tag, .int .u64 e.pc, .bool false, .bool true, .bool e.data, .bool e.read, .int .u64 e.at_, .int .i64 e.size, .int .u64 e.v] 84 :: OR b (some ⟨g, o, none⟩) cap gh oh ch gi oi ci q L)) (fun _ _ => True) (fun k_ v_ w_ => match k_ with
                    | 0 => v_ = .pointer (some ⟨ko, 1, none⟩)
                    | 1 => v_ = .int .u8 gm
                    | 2 => v_ = .int .i64 (j : Nat)
                    | 3 => v_ = .int .u8 M
                    | 4 => v_ = .int .u8 (gm + M)
                    | _ => v_ = .pointer (some ⟨ko, 1, none⟩)) fol (by kernel_rfl) ?_ ?_ (n := 6) rfl rfl rfl (by kernel_rfl) ?_ ?_
                · exact (unhide HE).drew
                · intro k_ v_ w_ w2_ h1 hg
                  split at h1 <;> exact h1
                · intro vals
                  show wpG _ _ _ _ _ _ 0 (_ :: _) _
                  refine wpG_cons (gval (.pointer (some ⟨ko, 1, none⟩)) (fun _ => trivial) fun w_ hJ hd => ?_) ?_
                  · exact ⟨by kernel_rfl, by kernel_rfl, rfl⟩
                  refine wpG_cons (gop (Instr.loadAt 5 (.pointer (some ⟨ko, 1, none⟩))) (.int .u8 gm) (fun _ => trivial) fun w_ hJ hd => ?_) ?_
                  · have e0 : vals 0 = _ := hd 0 (by decide) (by kernel_rfl)
                    rw [e0]
                    exact ⟨by kernel_rfl, by kernel_rfl, run_load1 (by kernel_rfl) (cell_blk (Heap.heap hJ) 1).1, rfl⟩
                  refine wpG_cons (gval (.int .i64 (j : Nat)) (fun _ => trivial) fun w_ hJ hd => ?_) ?_
                  · exact ⟨by kernel_rfl, by kernel_rfl, rfl⟩
                  refine wpG_cons (gop (binOp .shl 5 (.int .u8 1) (.int .i64 (j : Nat))) (.int .u8 M) (fun _ => trivial) fun w_ hJ hd => ?_) ?_
                  · have e2 : vals 2 = _ := hd 2 (by decide) (by kernel_rfl)
                    rw [e2]
                    exact ⟨by kernel_rfl, by kernel_rfl, unhide hM1 w_, rfl⟩
                  refine wpG_cons (gop (binOp .add 5 (.int .u8 gm) (.int .u8 M)) (.int .u8 (gm + M)) (fun _ => trivial) fun w_ hJ hd => ?_) ?_
                  · have e1 : vals 1 = _ := hd 1 (by decide) (by kernel_rfl)
                    have e3 : vals 3 = _ := hd 3 (by decide) (by kernel_rfl)
                    rw [e1, e3]
                    exact ⟨by kernel_rfl, by kernel_rfl, unhide hM2 w_, rfl⟩
                  refine wpG_cons (gval (.pointer (some ⟨ko, 1, none⟩)) (fun _ => trivial) fun w_ hJ hd => ?_) wpG_nil
                  · exact ⟨by kernel_rfl, by kernel_rfl, rfl⟩
                · intro vals w_ hJ hf
                  have e0 : vals 0 = _ := hf 0 (by decide)
                  have e1 : vals 1 = _ := hf 1 (by decide)
                  have e2 : vals 2 = _ := hf 2 (by decide)
                  have e3 : vals 3 = _ := hf 3 (by decide)
                  have e4 : vals 4 = _ := hf 4 (by decide)
                  have e5 : vals 5 = _ := hf 5 (by decide)
                  show Oper.wp _ _ (fillG vals 0 (_ :: _ :: _ :: _ :: _ :: _ :: []) _) _ _ _
                  simp only [fillG, Nat.zero_add, Nat.reduceAdd, e0, e1, e2, e3, e4, e5, Act.put, List.setIfInBounds_toArray, List.set_cons_succ, List.set_cons_zero]
                  clear e0 e1 e2 e3 e4 e5 hf
                  refine wp_last_skip (w' := w_.setCell ⟨ko, 1, none⟩ (.int .u8 (gm + M))) (m := Instr.storeAt 5 (.pointer (some ⟨ko, 1, none⟩)) (.int .u8 (gm + M))) (by kernel_rfl) (run_store1 (by kernel_rfl) rfl rfl (cell_blk (Heap.heap hJ) 1).1 (cell_blk (Heap.heap hJ) 1).2) ?_
                  first | show Exit.then _ _ Exit.normal (Act.put ⟨_, _⟩ none _) _ | show Exit.inBlock _ _ Exit.normal (Act.put ⟨_, _⟩ none _) _ | skip
                  simp only [Act.put]
                  have HF : Heap w0 (w_.setCell ⟨ko, 1, none⟩ (.int .u8 (gm + M))) (HP.blk ko #[.bool false, .int .u8 (gm + M), .int .u64 gv] 40 :: HP.blk ka #[.bool false, .int .u8 0, .int .u64 0] 40 :: HP.blk kx #[.int .i64 e.tag, .int .u64 e.pc, .bool false, .bool true, .bool e.data, .bool e.read, .int .u64 e.at_, .int .i64 e.size, .int .u64 e.v] 84 :: OR b (some ⟨g, o, none⟩) cap gh oh ch gi oi ci q L) := hJ.set 1 (.int .u8 (gm + M))
                  generalize w_.setCell ⟨ko, 1, none⟩ (.int .u8 (gm + M)) = wHF at HF ⊢
                  clear hJ
                  go_wp2_with fail
                  refine wp_region_E (fun w_ => Heap w0 w_ (HP.blk ko #[.bool false, .int .u8 (gm + M), .int .u64 gv] 40 :: HP.blk ka #[.bool false, .int .u8 0, .int .u64 0] 40 :: HP.blk kx #[.int .i64 e.tag, .int .u64 e.pc, .bool false, .bool true, .bool e.data, .bool e.read, .int .u64 e.at_, .int .i64 e.size, .int .u64 e.v] 84 :: OR b (some ⟨g, o, none⟩) cap gh oh ch gi oi ci q L)) (fun _ _ => True) (fun k_ v_ w_ => match k_ with
                      | 0 => v_ = .pointer (some ⟨ko, 2, none⟩)
                      | 1 => v_ = .int .u64 gv
                      | 2 => v_ = .int .u64 B
                      | 3 => v_ = .int .i64 (j : Nat)
                      | 4 => v_ = .int .i64 (IntKind.i64.wrap (8 * (j : Int)))
                      | 5 => v_ = .int .u64 S
                      | 6 => v_ = .int .u64 (gv + S)
                      | _ => v_ = .pointer (some ⟨ko, 2, none⟩)) fol (by kernel_rfl) ?_ ?_ (n := 8) rfl rfl rfl (by kernel_rfl) ?_ ?_
                  · exact HF.drew
                  · intro k_ v_ w_ w2_ h1 hg
                    split at h1 <;> exact h1
                  · intro vals
                    show wpG _ _ _ _ _ _ 0 (_ :: _) _
                    refine wpG_cons (gval (.pointer (some ⟨ko, 2, none⟩)) (fun _ => trivial) fun w_ hJ hd => ?_) ?_
                    · exact ⟨by kernel_rfl, by kernel_rfl, rfl⟩
                    refine wpG_cons (gop (Instr.loadAt 28 (.pointer (some ⟨ko, 2, none⟩))) (.int .u64 gv) (fun _ => trivial) fun w_ hJ hd => ?_) ?_
                    · have e0 : vals 0 = _ := hd 0 (by decide) (by kernel_rfl)
                      rw [e0]
                      exact ⟨by kernel_rfl, by kernel_rfl, run_load1 (by kernel_rfl) (cell_blk (Heap.heap hJ) 2).1, rfl⟩
                    refine wpG_cons (gval (.int .u64 B) (fun _ => trivial) fun w_ hJ hd => ?_) ?_
                    · exact ⟨by kernel_rfl, by kernel_rfl, rfl⟩
                    refine wpG_cons (gval (.int .i64 (j : Nat)) (fun _ => trivial) fun w_ hJ hd => ?_) ?_
                    · exact ⟨by kernel_rfl, by kernel_rfl, rfl⟩
                    refine wpG_cons (gval (.int .i64 (IntKind.i64.wrap (8 * (j : Int)))) (fun _ => trivial) fun w_ hJ hd => ?_) ?_
                    · have e3 : vals 3 = _ := hd 3 (by decide) (by kernel_rfl)
                      rw [e3]
                      exact ⟨by kernel_rfl, by kernel_rfl, rfl⟩
                    refine wpG_cons (gop (binOp .shl 28 (.int .u64 B) (.int .i64 (IntKind.i64.wrap (8 * (j : Int))))) (.int .u64 S) (fun _ => trivial) fun w_ hJ hd => ?_) ?_
                    · have e2 : vals 2 = _ := hd 2 (by decide) (by kernel_rfl)
                      have e4 : vals 4 = _ := hd 4 (by decide) (by kernel_rfl)
                      rw [e2, e4]
                      exact ⟨by kernel_rfl, by kernel_rfl, unhide hS1 w_, rfl⟩
                    refine wpG_cons (gop (binOp .add 28 (.int .u64 gv) (.int .u64 S)) (.int .u64 (gv + S)) (fun _ => trivial) fun w_ hJ hd => ?_) ?_
                    · have e1 : vals 1 = _ := hd 1 (by decide) (by kernel_rfl)
                      have e5 : vals 5 = _ := hd 5 (by decide) (by kernel_rfl)
                      rw [e1, e5]
                      exact ⟨by kernel_rfl, by kernel_rfl, unhide hS2 w_, rfl⟩
                    refine wpG_cons (gval (.pointer (some ⟨ko, 2, none⟩)) (fun _ => trivial) fun w_ hJ hd => ?_) wpG_nil
                    · exact ⟨by kernel_rfl, by kernel_rfl, rfl⟩
                  · intro vals w_ hJ hf
                    have e0 : vals 0 = _ := hf 0 (by decide)
                    have e1 : vals 1 = _ := hf 1 (by decide)
                    have e2 : vals 2 = _ := hf 2 (by decide)
                    have e3 : vals 3 = _ := hf 3 (by decide)
                    have e4 : vals 4 = _ := hf 4 (by decide)
                    have e5 : vals 5 = _ := hf 5 (by decide)
                    have e6 : vals 6 = _ := hf 6 (by decide)
                    have e7 : vals 7 = _ := hf 7 (by decide)
                    show Oper.wp _ _ (fillG vals 0 (_ :: _ :: _ :: _ :: _ :: _ :: _ :: _ :: []) _) _ _ _
                    simp only [fillG, Nat.zero_add, Nat.reduceAdd, e0, e1, e2, e3, e4, e5, e6, e7, Act.put, List.setIfInBounds_toArray, List.set_cons_succ, List.set_cons_zero]
                    clear e0 e1 e2 e3 e4 e5 e6 e7 hf
                    refine wp_last_skip (w' := w_.setCell ⟨ko, 2, none⟩ (.int .u64 (gv + S))) (m := Instr.storeAt 28 (.pointer (some ⟨ko, 2, none⟩)) (.int .u64 (gv + S))) (by kernel_rfl) (run_store1 (by kernel_rfl) rfl rfl (cell_blk (Heap.heap hJ) 2).1 (cell_blk (Heap.heap hJ) 2).2) ?_
                    first | show Exit.then _ _ Exit.normal (Act.put ⟨_, _⟩ none _) _ | show Exit.inBlock _ _ Exit.normal (Act.put ⟨_, _⟩ none _) _ | skip
                    simp only [Act.put]
                    have HK : Heap w0 (w_.setCell ⟨ko, 2, none⟩ (.int .u64 (gv + S))) (HP.blk ko #[.bool false, .int .u8 (gm + M), .int .u64 (gv + S)] 40 :: HP.blk ka #[.bool false, .int .u8 0, .int .u64 0] 40 :: HP.blk kx #[.int .i64 e.tag, .int .u64 e.pc, .bool false, .bool true, .bool e.data, .bool e.read, .int .u64 e.at_, .int .i64 e.size, .int .u64 e.v] 84 :: OR b (some ⟨g, o, none⟩) cap gh oh ch gi oi ci q L) := hJ.set 2 (.int .u64 (gv + S))
                    generalize w_.setCell ⟨ko, 2, none⟩ (.int .u64 (gv + S)) = wHK at HK ⊢
                    clear hJ
                    clear HF
                    have HK2 := hide HK
                    clear HK
                    go_wp2
                    exact ⟨⟨j + 1, gm + M, gv + S, by go_num, by omega, unhide HN, unhide HK2⟩, by simp [intOf]; omega⟩
          · obtain rfl : j = sz := by omega
            have HLK := hide (lookG_end (unhide Hwn) (m := gm) (v := gv) (by rw [unhide Hsz]; exact unhide HgN))
            obtain ⟨o0, _⟩ := cell_blk (Heap.heap hJ) 0
            obtain ⟨o1, _⟩ := cell_blk (Heap.heap hJ) 1
            obtain ⟨o2, _⟩ := cell_blk (Heap.heap hJ) 2
            have hol := lt_of_heap' (Heap.heap hJ)
            have HS := hide (Heap.got3 hJ.f2 (.bool false) (.int .u8 gm) (.int .u64 gv))
            clear hJ
            go_wp2
            exact bodyPost_ret (v := .tuple #[.agg #[.bool false, .int .u8 gm, .int .u64 gv], .bool true]) (resR rfl rfl rfl (Heap.heap (unhide HS))) rfl ⟨by rw [unhide hfin, unhide HLK]; rfl, Heap.rrc (unhide HI) (unhide HS).tail.tail.tail⟩
end
end Go.Proofs.Ytdmkgomcomcfhaa
