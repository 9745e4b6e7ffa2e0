/- Layer 23: Where. -/
import Derived.Test.YtdmkgomcomcfhaaQ7
namespace Go.Proofs.Ytdmkgomcomcfhaa
open Go.RowKit

def ints (l : List Int) : List Value := l.map fun x => .int .i64 x
structure WS where
  l : List Ent
  h : Hb
  out : List Int
/-- One entry behind the store whose place is told. -/
def whStep (n : Nat) (pc : Int) (s : WS) (k : Nat) : WS := match s.l[k]? with
  | some x => if !x.store && x.read && early s.l k n x.at_ x.size.toNat then ⟨s.l.set k { x with read := false }, setH s.h (rowN x.pc) (pc, true), s.out ++ [x.tag]⟩ else s
  | none => s
def whLoop (n : Nat) (pc : Int) (s : WS) (k0 : Nat) : Nat → WS
  | 0 => s
  | j + 1 => whStep n pc (whLoop n pc s k0 j) (k0 + j)
def placeE (e : Ent) (a sz : Int) : Ent := { e with placed := true, at_ := a, size := sz }
def okSize (sz : Int) : Bool := decide (sz = 1) || decide (sz = 2) || decide (sz = 4) || decide (sz = 8)
def whN (l : List Ent) (t a sz : Int) : Option (Nat × Ent) := (findN l t).bind fun n => (l[n]?).bind fun e => if !e.placed && okSize sz && decide (a % sz = 0) then some (n, e) else none
def whS (q : Qs) (n : Nat) (e : Ent) (a sz : Int) : WS := whLoop n e.pc ⟨q.l.set n (placeE e a sz), q.h, []⟩ (n + 1) (q.l.length - (n + 1))
def whereQ (q : Qs) (t a sz : Int) : (List Int × Bool) × Qs := match whN q.l t a sz with
  | none => (([], false), q)
  | some (n, e) => if e.store then (((whS q n e a sz).out, true), ⟨(whS q n e a sz).l, (whS q n e a sz).h⟩) else (([], true), ⟨q.l.set n (placeE e a sz), q.h⟩)
theorem Ent.ok.unread {e : Ent} (h : e.ok) : ({ e with read := false } : Ent).ok := ⟨h.tag, h.pc, h.at_, h.v, h.size, (fun h2 => by cases h2), h.data⟩
theorem info3 : (Try.prog.info? 3).map (fun i => (i.zero, i.size, i.bytes)) = some (some (.int .i64 0), 1, 8) := by kernel_rfl
theorem okSize_iff {sz : Int} : okSize sz = true ↔ sz = 1 ∨ sz = 2 ∨ sz = 4 ∨ sz = 8 := by
  unfold okSize
  simp [or_assoc]
theorem Ent.ok.place {e : Ent} (h : e.ok) (hp : e.placed = false) {a sz : Int} (ha : 0 ≤ a ∧ a < 18446744073709551616) (hs : okSize sz = true) (hm : a % sz = 0) : (placeE e a sz).ok :=
  ⟨h.tag, h.pc, ha, h.v, .inr ⟨rfl, okSize_iff.1 hs, hm⟩, fun hr => ⟨(h.read hr).1, rfl⟩, h.data⟩
section
variable {w0 w : World} {L : List HP} {b : Nat} {q : Qs}
set_option maxRecDepth 100000 in
set_option maxHeartbeats 4000000 in
theorem where_h (h : Heap w0 w (HP.q b q :: L)) (tag a sz : Int) (a0 : 0 ≤ a ∧ a < 18446744073709551616) :
    Calls Try.prog 15 #[ptr b, .int .i64 tag, .int .u64 a, .int .i64 sz] w fun r w' => ∃ v, r = .returned (.tuple #[v, .bool (whereQ q tag a sz).1.2]) ∧
      Heap w0 w' (HP.slw v 1 (whereQ q tag a sz).1.1.length (ints (whereQ q tag a sz).1.1) :: HP.q b (whereQ q tag a sz).2 :: L) := by
  obtain ⟨A, cap, bs, hR, hh⟩ := h.qr
  have hcall := hide (find_any hR tag)
  have HR := hide hR
  have HQ := hide h
  have HB := hide hh
  obtain ⟨R, hR2⟩ : ∃ R, whereQ q tag a sz = R := ⟨_, rfl⟩
  rw [hR2]
  have HR2 := hide hR2
  clear hR h hh hR2
  unfold ptr
  go_enter Try.func15, Try.ntmps15
  go_wp2_with fail
  refine (unhide hcall).mono ?_
  rintro r w1 ⟨rfl, hw1⟩
  replace hw1 := hw1.symm
  subst hw1
  clear hcall
  cases hf : findN q.l tag with
  | none =>
    have hd : whN q.l tag a sz = none := by unfold whN; rw [hf]; rfl
    have hfin := hide (show R = (([], false), q) by rw [← unhide HR2]; unfold whereQ; rw [hd])
    clear hf hd
    unfold optI
    go_wp2
    go_quiet (fail)
    go_wp2
    go_ret2
    exact ⟨.slice none 0 0, by rw [unhide hfin]; rfl, by rw [unhide hfin]; exact (((unhide HQ).alloc _).drewN _).noneS⟩
  | some n =>
    obtain ⟨e, he, _⟩ := findN_get hf
    have hd : whN q.l tag a sz = if !e.placed && okSize sz && decide (a % sz = 0) then some (n, e) else none := by unfold whN; rw [hf]; simp only [Option.bind_some, he]
    have hwq : R = if !e.placed && okSize sz && decide (a % sz = 0) then (if e.store then (((whS q n e a sz).out, true), ⟨(whS q n e a sz).l, (whS q n e a sz).h⟩) else (([], true), ⟨q.l.set n (placeE e a sz), q.h⟩)) else (([], false), q) := by
      rw [← unhide HR2]
      unfold whereQ
      rw [hd]
      cases (!e.placed && okSize sz && decide (a % sz = 0)) <;> rfl
    have Hwq := hide hwq
    clear hwq hd hf HR2
    obtain ⟨g, o, x, rfl, hx, hgl, hg, hxl, hxb⟩ := (unhide HR).ent_at he
    obtain ⟨d0, d1, d2, d3, d4, d5, d6, d7, d8⟩ := cells9 hxb
    obtain ⟨q0, _, hbl⟩ := (unhide HR).c0
    unfold ptr at hg
    have hnl := (List.getElem?_eq_some_iff.1 he).1
    have hlen16 := (unhide HR).inv.len
    have He := hide he
    have Hx := hide hx
    clear he hx hxb
    obtain ⟨len, hlen⟩ : ∃ len, q.l.length = len := ⟨_, rfl⟩
    rw [hlen] at q0 hnl hlen16
    have Hlen := hide hlen
    clear hlen
    unfold optI
    cases hp : e.placed with
    | true =>
      rw [hp] at d3
      have hfin := hide (show R = (([], false), q) by rw [unhide Hwq, hp]; rfl)
      go_wp2
      go_quiet (fail)
      go_wp2
      go_ret2
      exact ⟨.slice none 0 0, by rw [unhide hfin]; rfl, by rw [unhide hfin]; exact (((unhide HQ).alloc _).drewN _).noneS⟩
    | false =>
      rw [hp] at d3
      go_wp2
      go_quiet (fail)
      go_upto_if 34 with fail
      go_cut [34] (fun s34 wx => s34 = .bool (okSize sz) ∧ wx = (w.alloc (.cells #[.int .i64 (n : Nat)] 3)).drewN nq)
      case first =>
        by_cases h1 : sz = 1
        · have z1 : (sz == 1) = true := beq_iff_eq.2 h1
          have hv : okSize sz = true := okSize_iff.2 (.inl h1)
          go_wp2
          go_meet
          exact ⟨by rw [hv, z1], rfl⟩
        · have z1 : (sz == 1) = false := beq_eq_false_iff_ne.2 h1
          by_cases h2 : sz = 2
          · have z2 : (sz == 2) = true := beq_iff_eq.2 h2
            have hv : okSize sz = true := okSize_iff.2 (.inr (.inl h2))
            go_wp2
            go_meet
            exact ⟨by rw [hv], rfl⟩
          · have z2 : (sz == 2) = false := beq_eq_false_iff_ne.2 h2
            by_cases h4 : sz = 4
            · have z4 : (sz == 4) = true := beq_iff_eq.2 h4
              have hv : okSize sz = true := okSize_iff.2 (.inr (.inr (.inl h4)))
              go_wp2
              go_meet
              exact ⟨by rw [hv], rfl⟩
            · have z4 : (sz == 4) = false := beq_eq_false_iff_ne.2 h4
              have hv : okSize sz = (sz == 8) := by unfold okSize; simp [h1, h2, h4]; rfl
              go_wp2
              go_meet
              exact ⟨by rw [hv], rfl⟩
      case rest =>
        obtain ⟨rfl, rfl⟩ := hcut
        cases hok : okSize sz with
        | false =>
          have hfin := hide (show R = (([], false), q) by rw [unhide Hwq, hok]; simp)
          go_wp2
          go_ret2
          exact ⟨.slice none 0 0, by rw [unhide hfin]; rfl, by rw [unhide hfin]; exact (((unhide HQ).alloc _).drewN _).noneS⟩
        | true =>
          have hs4 := okSize_iff.1 hok
          have hszb : 0 < sz ∧ sz ≤ 8 := by omega
          have hwz : IntKind.u64.wrap sz = sz := by rw [IntKind.wrap_u64]; omega
          have htm : a.tmod sz = a % sz := Int.tmod_eq_emod_of_nonneg a0.1
          have hz0 : (sz == 0) = false := beq_eq_false_iff_ne.2 (by omega)
          have hrb : 0 ≤ a % sz ∧ a % sz < 8 := ⟨Int.emod_nonneg _ (by omega), by have := Int.emod_lt_of_pos a hszb.1; omega⟩
          have hwr : IntKind.u64.wrap (a % sz) = a % sz := by rw [IntKind.wrap_u64]; omega
          by_cases hm : a % sz = 0
          · have zm : (a % sz != 0) = false := by simp [hm]
            have hwq := unhide Hwq
            rw [hok, hp] at hwq
            simp only [Bool.not_false, Bool.true_and, hm, decide_true, if_true] at hwq
            have Hwq2 := hide hwq
            clear hwq Hwq
            have hOK := (unhide HR).ok
            have HOK := hide hOK
            have hA : Heap w0 ((w.alloc (.cells #[.int .i64 (n : Nat)] 3)).drewN nq) (HP.blk w.heap.size #[.int .i64 (n : Nat)] 3 :: O b (some ⟨g, o, none⟩) cap bs q L) := ((unhide HB).new _ 3).drewN nq
            obtain ⟨kN, hkN⟩ : ∃ kN, w.heap.size = kN := ⟨_, rfl⟩
            rw [hkN] at hA ⊢
            generalize (w.alloc (.cells #[.int .i64 (n : Nat)] 3)).drewN nq = wA at *
            clear q0 hbl hgl hg hxl d0 d1 d2 d3 d4 d5 d6 d7 d8 hOK hkN
            have hR := Heap.rq (unhide HOK) hA.tail
            obtain ⟨q0, _, hbl⟩ := hR.c0
            obtain ⟨g', o', x', hA', hx', hgl, hg, hxl, hxb⟩ := hR.ent_at (unhide He)
            injection hA' with hA'
            injection hA' with hA1 hA2
            subst hA1 hA2
            rw [unhide Hx] at hx'
            injection hx' with hx'
            subst hx'
            obtain ⟨d0, d1, d2, d3, d4, d5, d6, d7, d8⟩ := cells9 hxb
            have f9 := frozen9 hxb
            unfold ptr at hg
            rw [unhide Hlen] at q0
            obtain ⟨cN, _⟩ := cells1 hA.heap
            have hNl := lt_of_heap' hA.heap
            have F3 := f9 3
            have F6 := f9 6
            have F7 := f9 7
            have hX := (Heap.f4 hA).ents_out (unhide Hx) (unhide He)
            have HX := hide hX
            clear hX hR hxb f9
            go_wp2
            go_quiet (fail)
            go_upto_region 14 with fail
            have hY : Heap w0 _ (HP.blk x (placeE e a sz).cs.toArray 76 :: HP.ents (bs.eraseIdx n) (q.l.eraseIdx n) :: HP.blk kN #[.int .i64 (n : Nat)] 3 :: HP.blk b (qcs (.slice (some ⟨g, o, none⟩) q.l.length cap) q.h).toArray 69 :: HP.slw (.slice (some ⟨g, o, none⟩) q.l.length cap) 1 q.l.length (ptrs bs) :: L) := ((((unhide HX).drewN nq).setl 3 (.bool true)).setl 6 (.int .u64 a)).setl 7 (.int .i64 sz)
            have hZ := (hY.ents_in (unhide Hx) (by rw [unhide Hlen]; exact hnl)).b4
            have hOK1 : OK b (some ⟨g, o, none⟩) cap bs ⟨q.l.set n (placeE e a sz), q.h⟩ := ⟨(unhide HOK).inv.set (unhide He) rfl rfl (((unhide HOK).inv.ok e (List.mem_of_getElem? (unhide He))).place hp a0 hok hm), by rw [(unhide HOK).lenl]; exact (List.length_set ..).symm, by have := (unhide HOK).capl; rw [← List.length_set (i := n) (a := placeE e a sz)] at this; exact this⟩
            have hlen1 : (q.l.set n (placeE e a sz)).length = len := by rw [List.length_set]; exact unhide Hlen
            have hZ2 : Heap w0 ((((wA.drewN nq).setCell ⟨x, 3, none⟩ (.bool true)).setCell ⟨x, 6, none⟩ (.int .u64 a)).setCell ⟨x, 7, none⟩ (.int .i64 sz)) (HP.blk kN #[.int .i64 (n : Nat)] 3 :: O b (some ⟨g, o, none⟩) cap bs ⟨q.l.set n (placeE e a sz), q.h⟩ L) := by
              unfold O
              simp only [List.length_set]
              exact hZ
            generalize (((wA.drewN nq).setCell ⟨x, 3, none⟩ (.bool true)).setCell ⟨x, 6, none⟩ (.int .u64 a)).setCell ⟨x, 7, none⟩ (.int .i64 sz) = wB at *
            have hsn1 : (q.l.set n (placeE e a sz))[n]? = some (placeE e a sz) := by rw [List.getElem?_set_self (by rw [unhide Hlen]; exact hnl)]
            have Hsn1 := hide hsn1
            have HOK1 := hide hOK1
            have Hlen1 := hide hlen1
            clear hY hZ HX hA q0 hbl hgl hg hxl d0 d1 d2 d3 d4 d5 d6 d7 d8 cN hNl F3 F6 F7 hOK1 hlen1 hsn1
            cases hes : e.store with
            | false =>
              have hR := Heap.rq (unhide HOK1) hZ2.tail
              obtain ⟨q0, _, hbl⟩ := hR.c0
              obtain ⟨g', o', x', hA', hx', hgl, hg, hxl, hxb⟩ := hR.ent_at (unhide Hsn1)
              rw [unhide Hx] at hx'
              injection hx' with hx'
              subst hx'
              obtain ⟨d0, d1, d2, d3, d4, d5, d6, d7, d8⟩ := cells9 hxb
              replace d2 : wB.cell? ⟨x, 2, none⟩ = some (.bool false) := by rw [d2, ← hes]; rfl
              replace q0 : wB.cell? ⟨b, 0, none⟩ = some (.slice (some ⟨g, o, none⟩) len cap) := by rw [q0]; dsimp only; rw [unhide Hlen1]
              have hfin := hide (show R = (([], true), ⟨q.l.set n (placeE e a sz), q.h⟩) by rw [unhide Hwq2, hes]; rfl)
              have cN := (cells1 hZ2.heap).1
              have hNl := lt_of_heap' hZ2.heap
              have HZ2 := hide hZ2
              clear hZ2 hR hxb d0 d1 d3 d4 d5 d6 d7 d8 hA' hgl hg
              go_wp2
              go_loopw [12, 13] (fun v12 v13 wr => v12 = .slice none 0 0 ∧ v13 = .int .i64 ((n : Int) + 1) ∧ wr = wB) (fun _ _ _ => 0)
              case atStart => exact ⟨rfl, rfl, rfl⟩
              case round =>
                obtain ⟨rfl, rfl, rfl⟩ := hrel
                by_cases hlt : n + 1 < len
                · go_wp2
                  go_ret2
                  exact ⟨.slice none 0 0, by rw [unhide hfin]; rfl, by rw [unhide hfin]; exact (Heap.qc (unhide HOK1).inv (unhide HOK1).lenl (unhide HZ2).tail).noneS⟩
                · go_wp2
                  go_ret2
                  exact ⟨.slice none 0 0, by rw [unhide hfin]; rfl, by rw [unhide hfin]; exact (Heap.qc (unhide HOK1).inv (unhide HOK1).lenl (unhide HZ2).tail).noneS⟩
            | true =>
              have hfin := hide (show R = (((whS q n e a sz).out, true), ⟨(whS q n e a sz).l, (whS q n e a sz).h⟩) by rw [unhide Hwq2, hes]; rfl)
              have cN := (cells1 hZ2.heap).1
              have hNl := lt_of_heap' hZ2.heap
              have HZ2 := hide hZ2
              clear hZ2
              go_wp2
              clear cN hNl
              go_loopw [12, 13] (fun v12 v13 wr => ∃ (k : Nat) (s : WS) (A2 : Option Addr) (cap2 : Nat), v12 = .slice A2 s.out.length cap2 ∧ v13 = .int .i64 k ∧ (n + 1 ≤ k ∧ k ≤ len ∧ s.out.length ≤ k) ∧ s = whLoop n e.pc ⟨q.l.set n (placeE e a sz), q.h, []⟩ (n + 1) (k - (n + 1)) ∧ s.l.length = len ∧ s.l[n]? = some (placeE e a sz) ∧ OK b (some ⟨g, o, none⟩) cap bs ⟨s.l, s.h⟩ ∧ Heap w0 wr (HP.blk kN #[.int .i64 (n : Nat)] 3 :: O b (some ⟨g, o, none⟩) cap bs ⟨s.l, s.h⟩ (HP.slw (.slice A2 s.out.length cap2) 1 s.out.length (ints s.out) :: L))) (fun _ i _ => len - (intOf i).toNat)
              case atStart =>
                refine ⟨n + 1, ⟨q.l.set n (placeE e a sz), q.h, []⟩, none, 0, rfl, by go_num, ⟨Nat.le_refl _, hnl, Nat.zero_le _⟩, by rw [Nat.sub_self]; rfl, unhide Hlen1, unhide Hsn1, unhide HOK1, ?_⟩
                exact ((((unhide HZ2).noneS (sz := 1)).f5.f5.f5.f5))
              case round =>
                obtain ⟨k, s, A2, cap2, rfl, rfl, ⟨hk1, hk2, hout⟩, hs, hsl, hsn, hsk, hJ⟩ := hrel
                clear HZ2 HOK1 Hlen1 Hsn1
                have hR := Heap.rq hsk hJ.tail
                obtain ⟨q0, _, hbl⟩ := hR.c0
                obtain ⟨g', o', x', hA', hx', hgl, _, hxl, hxb⟩ := hR.ent_at hsn
                clear hA'
                rw [unhide Hx] at hx'
                injection hx' with hx'
                subst hx'
                obtain ⟨_, d1, d2, _⟩ := cells9 hxb
                replace d2 : wr.cell? ⟨x, 2, none⟩ = some (.bool true) := by rw [d2, ← hes]; rfl
                replace d1 : wr.cell? ⟨x, 1, none⟩ = some (.int .u64 e.pc) := d1
                replace q0 : wr.cell? ⟨b, 0, none⟩ = some (.slice (some ⟨g, o, none⟩) len cap) := by rw [q0]; dsimp only; rw [hsl]
                by_cases hlt : k < len
                · obtain ⟨xk, hxk⟩ : ∃ xk, s.l[k]? = some xk := ⟨_, List.getElem?_eq_getElem (by rw [hsl]; exact hlt)⟩
                  obtain ⟨g', o', y, hA', hy, hgl', hg, hyl, hyb⟩ := hR.ent_at hxk
                  injection hA' with hA'
                  injection hA' with hA1 hA2
                  subst hA1 hA2
                  obtain ⟨y0, y1, y2, _, _, y5, _, _, _⟩ := cells9 hyb
                  unfold ptr at hg
                  have hst : whLoop n e.pc ⟨q.l.set n (placeE e a sz), q.h, []⟩ (n + 1) (k + 1 - (n + 1)) = whStep n e.pc s k := by
                    rw [show k + 1 - (n + 1) = (k - (n + 1)) + 1 by omega]
                    show whStep n e.pc (whLoop n e.pc _ (n + 1) (k - (n + 1))) (n + 1 + (k - (n + 1))) = _
                    rw [← hs, show n + 1 + (k - (n + 1)) = k by omega]
                  have hk16 : len ≤ 16 := hlen16
                  cases hks : xk.store with
                  | true =>
                    have hst2 : whStep n e.pc s k = s := by unfold whStep; rw [hxk]; simp [hks]
                    rw [hks] at y2
                    have HF := hide (And.intro (hst.trans hst2) (And.intro hsl (And.intro hsn hsk)))
                    have HJ := hide hJ
                    clear hst hst2 hs hsl hsn hsk hJ hR hxb hyb hxk
                    go_wp2
                    exact ⟨⟨k + 1, s, A2, cap2, rfl, by go_num, ⟨by omega, by omega, by omega⟩, (unhide HF).1.symm, (unhide HF).2.1, (unhide HF).2.2.1, (unhide HF).2.2.2, unhide HJ⟩, by simp [intOf]; omega⟩
                  | false =>
                    cases hkr : xk.read with
                    | false =>
                      have hst2 : whStep n e.pc s k = s := by unfold whStep; rw [hxk]; simp [hkr]
                      rw [hks] at y2
                      rw [hkr] at y5
                      have HF := hide (And.intro (hst.trans hst2) (And.intro hsl (And.intro hsn hsk)))
                      have HJ := hide hJ
                      clear hst hst2 hs hsl hsn hsk hJ hR hxb hyb hxk
                      go_wp2
                      exact ⟨⟨k + 1, s, A2, cap2, rfl, by go_num, ⟨by omega, by omega, by omega⟩, (unhide HF).1.symm, (unhide HF).2.1, (unhide HF).2.2.1, (unhide HF).2.2.2, unhide HJ⟩, by simp [intOf]; omega⟩
                    | true =>
                      rw [hks] at y2
                      rw [hkr] at y5
                      have hE := hJ.new #[.bool false] 4
                      have hmf1 := fun (fn : Fn) (first cap : Array Value) (w : World) => hmf fn first cap w
                      obtain ⟨kE, hkE⟩ : ∃ kE, wr.heap.size = kE := ⟨_, rfl⟩
                      rw [hkE] at hE
                      have HE := hide hE
                      have HF := hide (And.intro hst (And.intro hsl (And.intro hsn (And.intro hsk hxk))))
                      have HK2 := hide hkE
                      clear hst hs hsl hsn hsk hJ hR hxb hyb hxk hE hkE
                      go_wp2_with fail
                      rw [unhide HK2]
                      obtain ⟨E, hE⟩ : ∃ E, early s.l k n xk.at_ xk.size.toNat = E := ⟨_, rfl⟩
                      refine (each37 (unhide HF).2.2.2.1 (unhide HF).2.2.2.2 (unhide HE)).mono ?_
                      rintro r w2 ⟨rfl, hE2⟩
                      dsimp only at hE2
                      rw [hE] at hE2
                      have cE := (cells1 hE2.heap).1
                      have hEl := lt_of_heap' hE2.heap
                      clear HE HK2 q0 hbl hgl hxl d1 d2 hyl hgl' hg y0 y1 y2 y5
                      cases E with
                      | false =>
                        have hst2 : whStep n e.pc s k = s := by unfold whStep; rw [(unhide HF).2.2.2.2]; simp [hE]
                        have HJ := hide hE2.tail
                        clear hE2
                        go_wp2
                        exact ⟨⟨k + 1, s, A2, cap2, rfl, by go_num, ⟨by omega, by omega, by omega⟩, ((unhide HF).1.trans hst2).symm, (unhide HF).2.1, (unhide HF).2.2.1, (unhide HF).2.2.2.1, unhide HJ⟩, by simp [intOf]; omega⟩
                      | true =>
                        have hxk := (unhide HF).2.2.2.2
                        have hxo := (unhide HF).2.2.2.1.inv.ok xk (List.mem_of_getElem? hxk)
                        have hpx := hxo.pc
                        have hst2 : whStep n e.pc s k = ⟨s.l.set k { xk with read := false }, setH s.h (rowN xk.pc) (e.pc, true), s.out ++ [xk.tag]⟩ := by unfold whStep; rw [hxk]; simp [hE, hks, hkr]
                        have hX := (Heap.f5 hE2).ents_out hy hxk
                        have F5 := frozen9 hX.heap 5
                        have Y5 := (cells9 hX.heap).2.2.2.2.2.1
                        have hyl := lt_of_heap' hX.heap
                        have HX := hide hX
                        have hs2 := (unhide HF).2.1
                        have Hxk := hide hxk
                        have Hst2 := hide hst2
                        have Hxo := hide hxo
                        have Hs2 := hide hs2
                        clear hX hE2 hxk hst2 hxo hs2
                        go_wp2
                        have hJ5 : Heap w0 (w2.setCell ⟨y, 5, none⟩ (.bool false)) (HP.blk kE #[.bool true] 4 :: HP.blk kN #[.int .i64 (n : Nat)] 3 :: O b (some ⟨g, o, none⟩) cap bs ⟨s.l.set k { xk with read := false }, s.h⟩ (HP.slw (.slice A2 s.out.length cap2) 1 s.out.length (ints s.out) :: L)) := by
                          have h9 := ((unhide HX).setl 5 (.bool false))
                          have h10 : Heap w0 (w2.setCell ⟨y, 5, none⟩ (.bool false)) (HP.blk y ({ xk with read := false } : Ent).cs.toArray 76 :: _) := h9
                          have h11 := (h10.ents_in hy (by rw [unhide Hs2]; exact hlt)).f5.f5.f5.f5
                          unfold O
                          simp only [List.length_set]
                          exact h11
                        clear cE hEl F5 Y5 hyl HX
                        have hsn2 : (s.l.set k { xk with read := false })[n]? = some (placeE e a sz) := by rw [List.getElem?_set_ne (by omega)]; exact (unhide HF).2.2.1
                        have hsk2 : (s.l.set k { xk with read := false })[k]? = some { xk with read := false } := by rw [List.getElem?_set_self (by rw [unhide Hs2]; exact hlt)]
                        have G1 : ∀ w_, Heap w0 w_ (HP.blk kE #[.bool true] 4 :: HP.blk kN #[.int .i64 (n : Nat)] 3 :: O b (some ⟨g, o, none⟩) cap bs ⟨s.l.set k { xk with read := false }, s.h⟩ (HP.slw (.slice A2 s.out.length cap2) 1 s.out.length (ints s.out) :: L)) → w_.cell? ⟨y, 1, none⟩ = some (.int .u64 xk.pc) := fun w_ hJ => (cells9 ((Heap.f5 hJ).ents_get hy hsk2)).2.1
                        have G2 : ∀ w_, Heap w0 w_ (HP.blk kE #[.bool true] 4 :: HP.blk kN #[.int .i64 (n : Nat)] 3 :: O b (some ⟨g, o, none⟩) cap bs ⟨s.l.set k { xk with read := false }, s.h⟩ (HP.slw (.slice A2 s.out.length cap2) 1 s.out.length (ints s.out) :: L)) → w_.cell? ⟨x, 1, none⟩ = some (.int .u64 e.pc) := fun w_ hJ => (cells9 ((Heap.f5 hJ).ents_get (unhide Hx) hsn2)).2.1
                        refine wp_region_E (fun w_ => Heap w0 w_ (HP.blk kE #[.bool true] 4 :: HP.blk kN #[.int .i64 (n : Nat)] 3 :: O b (some ⟨g, o, none⟩) cap bs ⟨s.l.set k { xk with read := false }, s.h⟩ (HP.slw (.slice A2 s.out.length cap2) 1 s.out.length (ints s.out) :: L))) (fun _ _ => True) (fun k_ v_ w_ => match k_ with
                            | 0 => v_ = .pointer (some ⟨b, 0, none⟩)
                            | 1 => v_ = .pointer (some ⟨y, 0, none⟩)
                            | 2 => v_ = .pointer (some ⟨y, 0, none⟩)
                            | 3 => v_ = .pointer (some ⟨y, 1, none⟩)
                            | 4 => v_ = .int .u64 xk.pc
                            | 5 => v_ = .pointer (some ⟨b, 1 + rowN xk.pc * 2, none⟩)
                            | 6 => v_ = .pointer (some ⟨x, 0, none⟩)
                            | 7 => v_ = .pointer (some ⟨x, 0, none⟩)
                            | 8 => v_ = .pointer (some ⟨x, 1, none⟩)
                            | 9 => v_ = .int .u64 e.pc
                            | 10 => v_ = .agg #[.int .u64 e.pc, .bool true]
                            | _ => v_ = .pointer (some ⟨b, 1 + rowN xk.pc * 2, none⟩)) fol (by kernel_rfl) ?_ ?_ (n := 12) rfl rfl rfl (by kernel_rfl) ?_ ?_
                        · exact hJ5.drew
                        · intro k_ v_ w_ w2_ h1 hg
                          split at h1 <;> exact h1
                        · intro vals
                          show wpG _ _ _ _ _ _ 0 (_ :: _) _
                          refine wpG_cons (gval (.pointer (some ⟨b, 0, none⟩)) (fun _ => trivial) fun w_ hJ hd => ?_) ?_
                          · exact ⟨by kernel_rfl, by kernel_rfl, rfl⟩
                          refine wpG_cons (gval (.pointer (some ⟨y, 0, none⟩)) (fun _ => trivial) fun w_ hJ hd => ?_) ?_
                          · exact ⟨by kernel_rfl, by kernel_rfl, rfl⟩
                          refine wpG_cons (gval (.pointer (some ⟨y, 0, none⟩)) (fun _ => trivial) fun w_ hJ hd => ?_) ?_
                          · have e1 : vals 1 = _ := hd 1 (by decide) (by kernel_rfl)
                            rw [e1]
                            exact ⟨by kernel_rfl, by kernel_rfl, rfl⟩
                          refine wpG_cons (gval (.pointer (some ⟨y, 1, none⟩)) (fun _ => trivial) fun w_ hJ hd => ?_) ?_
                          · have e2 : vals 2 = _ := hd 2 (by decide) (by kernel_rfl)
                            rw [e2]
                            exact ⟨by kernel_rfl, by kernel_rfl, rfl⟩
                          refine wpG_cons (gop (Instr.loadAt 28 (.pointer (some ⟨y, 1, none⟩))) (.int .u64 xk.pc) (fun _ => trivial) fun w_ hJ hd => ?_) ?_
                          · have e3 : vals 3 = _ := hd 3 (by decide) (by kernel_rfl)
                            rw [e3]
                            exact ⟨by kernel_rfl, by kernel_rfl, run_load1 (by kernel_rfl) (G1 w_ hJ), rfl⟩
                          refine wpG_cons (gcall 38 #[.pointer (some ⟨b, 0, none⟩), .int .u64 xk.pc] fun w_ hJ hd => ?_) ?_
                          · have e0 : vals 0 = _ := hd 0 (by decide) (by kernel_rfl)
                            have e4 : vals 4 = _ := hd 4 (by decide) (by kernel_rfl)
                            rw [e0, e4]
                            exact ⟨by kernel_rfl, by kernel_rfl, (habit_any b xk.pc hpx.1 hpx.2).mono fun e w' ⟨hr, hw⟩ => ⟨_, hr, by rw [hw]; exact hJ, trivial, rfl⟩⟩
                          refine wpG_cons (gval (.pointer (some ⟨x, 0, none⟩)) (fun _ => trivial) fun w_ hJ hd => ?_) ?_
                          · exact ⟨by kernel_rfl, by kernel_rfl, rfl⟩
                          refine wpG_cons (gval (.pointer (some ⟨x, 0, none⟩)) (fun _ => trivial) fun w_ hJ hd => ?_) ?_
                          · have e6 : vals 6 = _ := hd 6 (by decide) (by kernel_rfl)
                            rw [e6]
                            exact ⟨by kernel_rfl, by kernel_rfl, rfl⟩
                          refine wpG_cons (gval (.pointer (some ⟨x, 1, none⟩)) (fun _ => trivial) fun w_ hJ hd => ?_) ?_
                          · have e7 : vals 7 = _ := hd 7 (by decide) (by kernel_rfl)
                            rw [e7]
                            exact ⟨by kernel_rfl, by kernel_rfl, rfl⟩
                          refine wpG_cons (gop (Instr.loadAt 28 (.pointer (some ⟨x, 1, none⟩))) (.int .u64 e.pc) (fun _ => trivial) fun w_ hJ hd => ?_) ?_
                          · have e8 : vals 8 = _ := hd 8 (by decide) (by kernel_rfl)
                            rw [e8]
                            exact ⟨by kernel_rfl, by kernel_rfl, run_load1 (by kernel_rfl) (G2 w_ hJ), rfl⟩
                          refine wpG_cons (gval (.agg #[.int .u64 e.pc, .bool true]) (fun _ => trivial) fun w_ hJ hd => ?_) ?_
                          · have e9 : vals 9 = _ := hd 9 (by decide) (by kernel_rfl)
                            rw [e9]
                            exact ⟨by kernel_rfl, by kernel_rfl, rfl⟩
                          refine wpG_cons (gval (.pointer (some ⟨b, 1 + rowN xk.pc * 2, none⟩)) (fun _ => trivial) fun w_ hJ hd => ?_) wpG_nil
                          · have e5 : vals 5 = _ := hd 5 (by decide) (by kernel_rfl)
                            rw [e5]
                            exact ⟨by kernel_rfl, by kernel_rfl, rfl⟩
                        · intro vals w_ hJ hf
                          have e0 : vals 0 = _ := hf 0 (by decide)
                          have e1 : vals 1 = _ := hf 1 (by decide)
                          have e2 : vals 2 = _ := hf 2 (by decide)
                          have e3 : vals 3 = _ := hf 3 (by decide)
                          have e4 : vals 4 = _ := hf 4 (by decide)
                          have e5 : vals 5 = _ := hf 5 (by decide)
                          have e6 : vals 6 = _ := hf 6 (by decide)
                          have e7 : vals 7 = _ := hf 7 (by decide)
                          have e8 : vals 8 = _ := hf 8 (by decide)
                          have e9 : vals 9 = _ := hf 9 (by decide)
                          have e10 : vals 10 = _ := hf 10 (by decide)
                          have e11 : vals 11 = _ := hf 11 (by decide)
                          show Oper.wp _ _ (fillG vals 0 (_ :: _ :: _ :: _ :: _ :: _ :: _ :: _ :: _ :: _ :: _ :: _ :: []) _) _ _ _
                          simp only [fillG, Nat.zero_add, Nat.reduceAdd, e0, e1, e2, e3, e4, e5, e6, e7, e8, e9, e10, e11, Act.put, List.setIfInBounds_toArray, List.set_cons_succ, List.set_cons_zero]
                          clear e0 e1 e2 e3 e4 e5 e6 e7 e8 e9 e10 e11 hf
                          have hb8 := (Heap.f3 hJ).heap
                          have hth := there_blk (n := 2) (o := 1 + rowN xk.pc * 2) hb8 (by have := rowN_lt xk.pc; rw [qcs_len]; omega)
                          refine wp_last_skip (w' := w_.setCells b (1 + rowN xk.pc * 2) [.int .u64 e.pc, .bool true]) (m := Instr.storeAt 66 (.pointer (some ⟨b, 1 + rowN xk.pc * 2, none⟩)) (.agg #[.int .u64 e.pc, .bool true])) (by kernel_rfl) (run_storeAt_mid w_ b (1 + rowN xk.pc * 2) 66 #[.int .u64 e.pc, .bool true] hth (by kernel_rfl) (by kernel_rfl)) ?_
                          first | show Exit.then _ _ Exit.normal (Act.put ⟨_, _⟩ none _) _ | show Exit.inBlock _ _ Exit.normal (Act.put ⟨_, _⟩ none _) _
                          simp only [Act.put]
                          have h12 := (Heap.f3 hJ).sets (xs := qcs (.slice (some ⟨g, o, none⟩) (s.l.set k { xk with read := false }).length cap) s.h) [.int .u64 e.pc, .bool true] (1 + rowN xk.pc * 2)
                          rw [qcs_hab _ _ (rowN_lt xk.pc)] at h12
                          have hK := Heap.f6 h12
                          generalize w_.setCells b (1 + rowN xk.pc * 2) [.int .u64 e.pc, .bool true] = w4 at *
                          have hyb := (Heap.f6 hK).ents_get hy hsk2
                          have y0 := (cells9 hyb).1
                          have hyl := lt_of_heap' hyb
                          replace y0 : w4.cell? ⟨y, 0, none⟩ = some (.int .i64 xk.tag) := y0
                          clear h12 hb8 hth hJ hJ5 G1 G2 hyb
                          obtain ⟨m, hm9⟩ : ∃ m, s.out.length = m := ⟨_, rfl⟩
                          rw [hm9] at hK hout ⊢
                          obtain ⟨i0, hi, hz0, hz1, hz2⟩ := info_parts info3
                          go_wp2_with (at_builtin; refine wpList_append_sl (n := m) (m := 1) rfl _ _ 32 rfl 3 i0 _ 1 8 Try.underlying32 hi hz0 hz1 hz2 rfl rfl rfl (hK.slw.alloc _) (Sl.single _ 3 (.int .i64 xk.tag) (by simp)) (by simp; rfl) (by omega) (by omega) ?_; intro v' w' hsl hgr hblk hsp; obtain ⟨A', cap', rfl, _⟩ := hsl.parts; have hA := (hK.alloc _).appendw hsl hgr hblk; clear y0 hyl hsl hgr hblk hsp hK)
                          have hA2 := (Heap.f3 hA).tail.f5.f5.f5.f5.f2
                          have hin : QI ⟨s.l.set k { xk with read := false }, setH s.h (rowN xk.pc) (e.pc, true)⟩ := by
                            have h1 := (unhide HF).2.2.2.1.inv.set (e' := { xk with read := false }) (unhide Hxk) rfl rfl (unhide Hxo).unread
                            refine ⟨h1.ok, h1.up, h1.ld, h1.st, fun j => ?_⟩
                            have h2 := ((unhide HOK).inv.ok e (List.mem_of_getElem? (unhide He))).pc
                            have h3 := h1.hb j
                            dsimp only [setH]
                            split
                            · exact h2
                            · exact h3
                          have hok3 : OK b (some ⟨g, o, none⟩) cap bs ⟨s.l.set k { xk with read := false }, setH s.h (rowN xk.pc) (e.pc, true)⟩ := ⟨hin, by rw [(unhide HF).2.2.2.1.lenl]; exact (List.length_set ..).symm, by have h4 := (unhide HF).2.2.2.1.capl; show (s.l.set k _).length ≤ _; rw [List.length_set]; exact h4⟩
                          refine ⟨⟨k + 1, ⟨s.l.set k { xk with read := false }, setH s.h (rowN xk.pc) (e.pc, true), s.out ++ [xk.tag]⟩, A', cap', by rw [List.length_append, hm9]; rfl, by go_num, ⟨by omega, by omega, by rw [List.length_append, hm9]; simp; omega⟩, ((unhide HF).1.trans (unhide Hst2)).symm, by show (s.l.set k _).length = _; rw [List.length_set]; exact unhide Hs2, hsn2, hok3, ?_⟩, by simp [intOf]; omega⟩
                          have hl9 : (s.out ++ [xk.tag]).length = m + 1 := by rw [List.length_append, hm9]; rfl
                          have hi9 : ints (s.out ++ [xk.tag]) = ints s.out ++ [.int .i64 xk.tag] := by simp [ints]
                          show Heap w0 _ (_ :: O b _ cap bs _ (HP.slw (.slice A' (s.out ++ [xk.tag]).length cap') 1 (s.out ++ [xk.tag]).length (ints (s.out ++ [xk.tag])) :: L))
                          rw [hl9, hi9]
                          exact hA2
                · obtain rfl : k = len := by omega
                  have hse : s = whS q n e a sz := by unfold whS; rw [hs, unhide Hlen]
                  have HF := hide (And.intro hse (And.intro hsk hJ))
                  clear hs hsl hsn hsk hJ hR hxb hse
                  go_wp2
                  go_ret2
                  refine ⟨.slice A2 s.out.length cap2, by rw [unhide hfin]; rfl, ?_⟩
                  rw [unhide hfin, ← (unhide HF).1]
                  have h7 := (unhide HF).2.2.tail
                  exact (Heap.qc (unhide HF).2.1.inv (unhide HF).2.1.lenl (Heap.f4 h7).b4).f2
          · have zm : (a % sz != 0) = true := by simp [hm]
            have hfin := hide (show R = (([], false), q) by rw [unhide Hwq, hok, hp, decide_eq_false hm]; rfl)
            go_wp2
            go_ret2
            exact ⟨.slice none 0 0, by rw [unhide hfin]; rfl, by rw [unhide hfin]; exact (((unhide HQ).alloc _).drewN _).noneS⟩
end
end Go.Proofs.Ytdmkgomcomcfhaa
