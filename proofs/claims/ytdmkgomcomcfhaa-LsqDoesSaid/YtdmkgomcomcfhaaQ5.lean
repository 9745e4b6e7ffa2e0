/- Layer 23: New, Load, Store, Count, Data, Pop, Squash. -/
import Derived.Test.YtdmkgomcomcfhaaQ4
import Derived.Test.YtdmkgomcomcfhaaRegionS
namespace Go.Proofs.Ytdmkgomcomcfhaa
open Go.RowKit

def comeQ (q : Qs) (e : Ent) : Qs := if mayCome q.l e.tag e.store then ⟨q.l ++ [e], q.h⟩ else q
theorem set_same {α β : Type} {f : α → β} {l : List α} {n : Nat} {e e' : α} (h : l[n]? = some e) (he : f e' = f e) : (l.set n e').map f = l.map f := by
  apply List.ext_getElem?
  intro i
  rw [List.getElem?_map, List.getElem?_map, List.getElem?_set]
  obtain ⟨hn, hg⟩ := List.getElem?_eq_some_iff.1 h
  by_cases hi : n = i
  · subst hi
    rw [if_pos rfl, if_pos hn, h]
    simp [he]
  · rw [if_neg hi]
theorem QI.set {q : Qs} (h : QI q) {n : Nat} {e e' : Ent} (hn : q.l[n]? = some e) (ht : e'.tag = e.tag) (hs : e'.store = e.store) (ho : e'.ok) : QI ⟨q.l.set n e', q.h⟩ := by
  have h1 := set_same (f := fun x : Ent => x.tag) hn ht
  have h2 := set_same (f := fun x : Ent => x.store) hn hs
  have c1 : ∀ l : List Ent, nLd l = (l.map fun x => x.store).countP (fun b => !b) := fun l => by unfold nLd; rw [List.countP_map]; rfl
  have c2 : ∀ l : List Ent, nSt l = (l.map fun x => x.store).countP (fun b => b) := fun l => by unfold nSt; rw [List.countP_map]; rfl
  refine ⟨fun y hy => ?_, ?_, ?_, ?_, h.hb⟩
  · rcases List.mem_or_eq_of_mem_set hy with hy | hy
    · exact h.ok y hy
    · rw [hy]; exact ho
  · have hp : (q.l.map fun x => x.tag).Pairwise (· < ·) := List.pairwise_map.2 h.up
    rw [← h1] at hp
    exact List.pairwise_map.1 hp
  · show nLd (q.l.set n e') ≤ 8
    rw [c1, h2, ← c1]; exact h.ld
  · show nSt (q.l.set n e') ≤ 8
    rw [c2, h2, ← c2]; exact h.st
theorem QI.sub {q : Qs} (h : QI q) {l : List Ent} (hs : l.Sublist q.l) : QI ⟨l, q.h⟩ :=
  ⟨fun e he => h.ok e (hs.subset he), h.up.sublist hs, Nat.le_trans (hs.countP_le) h.ld, Nat.le_trans (hs.countP_le) h.st, h.hb⟩
theorem QI.len {q : Qs} (h : QI q) : q.l.length ≤ 16 := by
  have := cnt q.l
  have h1 := h.ld
  have h2 := h.st
  omega
def H0 : Hb := fun _ => (0, false)
def Q0 : Qs := ⟨[], H0⟩
theorem Q0_inv : QI Q0 := ⟨by simp [Q0], .nil, by simp [Q0, nLd], by simp [Q0, nSt], by simp [Q0, H0]⟩
theorem qcs0 : (qcs (.slice none 0 0) H0).toArray = #[.slice none 0 0, .int .u64 0, .bool false, .int .u64 0, .bool false, .int .u64 0, .bool false, .int .u64 0, .bool false, .int .u64 0, .bool false, .int .u64 0, .bool false, .int .u64 0, .bool false, .int .u64 0, .bool false,
  .int .u64 0, .bool false, .int .u64 0, .bool false, .int .u64 0, .bool false, .int .u64 0, .bool false, .int .u64 0, .bool false, .int .u64 0, .bool false, .int .u64 0, .bool false, .int .u64 0, .bool false] := by kernel_rfl
/-- What Data does. -/
def dataN (l : List Ent) (t : Int) : Option Nat := (findN l t).bind fun n => (l[n]?).bind fun e => if e.store && !e.data then some n else none
def dataQ (q : Qs) (t v : Int) : Qs := match dataN q.l t with
  | some n => ⟨q.l.modify n fun e => { e with data := true, v := v }, q.h⟩
  | none => q
theorem modify_set {α : Type} {l : List α} {n : Nat} {e : α} (f : α → α) (h : l[n]? = some e) : l.modify n f = l.set n (f e) := by
  apply List.ext_getElem?
  intro i
  obtain ⟨hn, hg⟩ := List.getElem?_eq_some_iff.1 h
  rw [List.getElem?_modify, List.getElem?_set]
  by_cases hi : n = i
  · subst hi
    simp [hn, hg]
  · simp [hi]
def popQ (q : Qs) : (Int × Bool) × Qs := match q.l with
  | [] => ((0, false), q)
  | e :: l => if e.ready then ((e.tag, true), ⟨l, q.h⟩) else ((0, false), q)
def squashQ (q : Qs) (t : Int) : Qs := ⟨q.l.takeWhile fun e => decide (e.tag < t), q.h⟩
section
variable {w0 w : World} {L : List HP} {b : Nat} {q : Qs}
set_option maxRecDepth 100000 in
theorem new_h (h : Heap w0 w L) : Calls Try.prog 9 #[] w fun r w' => ∃ b, r = .returned (ptr b) ∧ Heap w0 w' (HP.q b Q0 :: L) := by
  go_enter Try.func9, Try.ntmps9
  go_wp2
  go_ret
  refine ⟨w.heap.size, rfl, Heap.qq.2 ⟨(.slice none 0 0, []), ⟨Q0_inv, rfl⟩, ?_⟩⟩
  show Heap w0 _ (HP.blk w.heap.size (qcs (.slice none 0 0) H0).toArray 69 :: HP.slw (.slice none 0 0) 1 0 [] :: HP.ents [] [] :: L)
  rw [qcs0]
  exact ((Heap.ents_nil.2 (h.new _ _)).noneS (sz := 1)).f3
theorem count_h (h : Heap w0 w (HP.q b q :: L)) : Calls Try.prog 28 #[ptr b] w fun r w' => r = .returned (.tuple #[.int .i64 (nLd q.l), .int .i64 (nSt q.l)]) ∧ Heap w0 w' (HP.q b q :: L) := by
  obtain ⟨A, cap, bs, hR, _⟩ := h.qr
  exact (count_any hR).mono fun r w' ⟨h1, h2⟩ => ⟨h1, by rw [h2]; exact h⟩
set_option maxRecDepth 100000 in
theorem load_h (h : Heap w0 w (HP.q b q :: L)) (tag pc : Int) (t0 : -9223372036854775808 ≤ tag ∧ tag < 9223372036854775808) (p0 : 0 ≤ pc ∧ pc < 18446744073709551616) :
    Calls Try.prog 11 #[ptr b, .int .i64 tag, .int .u64 pc] w fun r w' => r = .returned (.bool (mayCome q.l tag false)) ∧ Heap w0 w' (HP.q b (comeQ q (.fresh tag pc false)) :: L) := by
  have h1 := (h.new (Ent.fresh tag pc false).cs.toArray 76).f2
  unfold ptr
  go_enter Try.func11, Try.ntmps11
  go_wp2_with fail
  refine (come_h h1 (Ent.fresh_ok t0 p0 false)).mono ?_
  rintro r w2 ⟨rfl, h2⟩
  go_wp2
  go_ret
  exact ⟨rfl, h2⟩
set_option maxRecDepth 100000 in
theorem store_h (h : Heap w0 w (HP.q b q :: L)) (tag pc : Int) (t0 : -9223372036854775808 ≤ tag ∧ tag < 9223372036854775808) (p0 : 0 ≤ pc ∧ pc < 18446744073709551616) :
    Calls Try.prog 13 #[ptr b, .int .i64 tag, .int .u64 pc] w fun r w' => r = .returned (.bool (mayCome q.l tag true)) ∧ Heap w0 w' (HP.q b (comeQ q (.fresh tag pc true)) :: L) := by
  have h1 := (h.new (Ent.fresh tag pc true).cs.toArray 76).f2
  unfold ptr
  go_enter Try.func13, Try.ntmps13
  go_wp2_with fail
  refine (come_h h1 (Ent.fresh_ok t0 p0 true)).mono ?_
  rintro r w2 ⟨rfl, h2⟩
  go_wp2
  go_ret
  exact ⟨rfl, h2⟩
theorem findN_get {l : List Ent} {t : Int} {n : Nat} (h : findN l t = some n) : ∃ e, l[n]? = some e ∧ e.tag = t := by
  unfold findN at h
  rw [List.findIdx?_eq_some_iff_getElem] at h
  obtain ⟨hn, ht, _⟩ := h
  exact ⟨_, List.getElem?_eq_getElem hn, by simpa using ht⟩
theorem RQ.ent_at {w : World} {b : Nat} {A : Option Addr} {cap : Nat} {bs : List Nat} {q : Qs} (h : RQ w b A cap bs q) {k : Nat} {e : Ent} (he : q.l[k]? = some e) : ∃ g o x, A = some ⟨g, o, none⟩ ∧ bs[k]? = some x ∧ g < w.heap.size ∧
    w.cell? ⟨g, o + k, none⟩ = some (ptr x) ∧ x < w.heap.size ∧ w.heap[x]? = some (.cells e.cs.toArray 76 (0, 0)) := by
  obtain ⟨hk, _⟩ := List.getElem?_eq_some_iff.1 he
  obtain ⟨g, o, x, e', hA, he', hx, h1, h2, h3, h4⟩ := h.at_ hk
  rw [he] at he'
  injection he' with he'
  subst he'
  exact ⟨g, o, x, hA, hx, h1, h2, h3, h4⟩
theorem Ent.ok.with_data {e : Ent} (h : e.ok) (hs : e.store = true) {v : Int} (v0 : 0 ≤ v ∧ v < 18446744073709551616) : ({ e with data := true, v := v } : Ent).ok :=
  ⟨h.tag, h.pc, h.at_, v0, h.size, h.read, fun _ => hs⟩
theorem sl_ptr {w : World} {g o cap n k x : Nat} {bs : List Nat} (h : Sl w 1 (.slice (some ⟨g, o, none⟩) n cap) n (ptrs bs)) (hk : k < n) (hx : bs[k]? = some x) : w.cell? ⟨g, o + k, none⟩ = some (.pointer (some ⟨x, 0, none⟩)) := by
  obtain ⟨_, h2, _⟩ := h.at_ (j := k) (by omega)
  rw [h2, ptrs_get, hx]
  rfl
def dE (e : Ent) (v : Int) (f : Nat → Bool) : Ent := { e with data := f 17 || e.data, v := bif f 20 then v else e.v }
set_option maxRecDepth 100000 in
set_option maxHeartbeats 2000000 in
theorem data_h (h : Heap w0 w (HP.q b q :: L)) (tag v : Int) (v0 : 0 ≤ v ∧ v < 18446744073709551616) :
    Calls Try.prog 18 #[ptr b, .int .i64 tag, .int .u64 v] w fun r w' => r = .returned (.bool (dataN q.l tag).isSome) ∧ Heap w0 w' (HP.q b (dataQ q tag v) :: L) := by
  obtain ⟨A, cap, bs, hR, hh⟩ := h.qr
  obtain ⟨q0, _, hbl⟩ := hR.c0
  have hcall := hide (find_any hR tag)
  have hlen16 := hR.inv.len
  have HR := hide hR
  have HQ := hide h
  have HB := hide hh
  obtain ⟨R, hR2⟩ : ∃ R, (dataN q.l tag).isSome = R := ⟨_, rfl⟩
  obtain ⟨q2, hq2⟩ : ∃ q2, dataQ q tag v = q2 := ⟨_, rfl⟩
  rw [hR2, hq2]
  have HR2 := hide hR2
  have Hq2 := hide hq2
  clear hR h hh hR2 hq2
  unfold ptr
  go_enter Try.func18, Try.ntmps18
  go_wp2_with fail
  refine (unhide hcall).mono ?_
  rintro r w1 ⟨rfl, hw1⟩
  replace hw1 := hw1.symm
  subst hw1
  clear hcall
  cases hf : findN q.l tag with
  | none =>
    have hd : dataN q.l tag = none := by unfold dataN; rw [hf]; rfl
    have hfin := hide (And.intro (show R = false by rw [← unhide HR2, hd]; rfl) (show q2 = q by rw [← unhide Hq2]; unfold dataQ; rw [hd]))
    clear hf hd
    unfold optI
    go_wp2
    go_ret
    exact ⟨by rw [(unhide hfin).1]; rfl, by rw [(unhide hfin).2]; exact unhide HQ⟩
  | some n =>
    obtain ⟨e, he, _⟩ := findN_get hf
    have hd : dataN q.l tag = if e.store && !e.data then some n else none := by unfold dataN; rw [hf]; simp only [Option.bind_some, he]
    obtain ⟨g, o, x, rfl, hx, hgl, hg, hxl, hxb⟩ := (unhide HR).ent_at he
    obtain ⟨d0, d1, d2, d3, d4, d5, d6, d7, d8⟩ := cells9 hxb
    unfold ptr at hg
    have hnl := (List.getElem?_eq_some_iff.1 he).1
    have He := hide he
    have Hx := hide hx
    have Hd := hide hd
    clear hf hd he hx hxb
    obtain ⟨len, hlen⟩ : ∃ len, q.l.length = len := ⟨_, rfl⟩
    have hB := unhide HB
    rw [hlen] at q0 hnl hlen16 hB
    have HB2 := hide hB
    have Hlen := hide hlen
    clear hB hlen HB
    unfold optI
    cases hs : e.store with
    | false =>
      rw [hs] at d2
      have hfin := hide (And.intro (show R = false by rw [← unhide HR2, unhide Hd, hs]; rfl) (show q2 = q by rw [← unhide Hq2]; unfold dataQ; rw [unhide Hd, hs]; rfl))
      go_wp2
      go_ret
      exact ⟨by rw [(unhide hfin).1]; rfl, by rw [(unhide hfin).2]; exact unhide HQ⟩
    | true =>
      rw [hs] at d2
      cases hdt : e.data with
      | true =>
        rw [hdt] at d4
        have hfin := hide (And.intro (show R = false by rw [← unhide HR2, unhide Hd, hs, hdt]; rfl) (show q2 = q by rw [← unhide Hq2]; unfold dataQ; rw [unhide Hd, hs, hdt]; rfl))
        go_wp2
        go_ret
        exact ⟨by rw [(unhide hfin).1]; rfl, by rw [(unhide hfin).2]; exact unhide HQ⟩
      | false =>
        rw [hdt] at d4
        have hfin := hide (And.intro (show R = true by rw [← unhide HR2, unhide Hd, hs, hdt]; rfl) (show q2 = ⟨q.l.set n { e with data := true, v := v }, q.h⟩ by rw [← unhide Hq2]; unfold dataQ; rw [unhide Hd, show (e.store && !e.data) = true by rw [hs, hdt]; rfl]; simp only [if_true]; rw [modify_set _ (unhide He)]))
        have hB3 := ((unhide HB2).f3.ents_out (unhide Hx) (unhide He))
        go_wp2
        obtain ⟨vals, e0, e1, e2, e3, e4, e5, e6, e7, e8, e9, e10, e11, e12, e13, e14, e15, e16, e17, e18, e19, e20⟩ : ∃ vals : Nat → Value, vals 0 = .pointer (some ⟨b, 0, none⟩) ∧ vals 1 = .pointer (some ⟨b, 0, none⟩) ∧ vals 2 = .pointer (some ⟨b, 0, none⟩) ∧ vals 3 = .slice (some ⟨g, o, none⟩) len cap ∧ vals 4 = .int .i64 (n : Nat) ∧ vals 5 = .pointer (some ⟨g, o + n, none⟩) ∧ vals 6 = .pointer (some ⟨x, 0, none⟩) ∧ vals 7 = .pointer (some ⟨b, 0, none⟩) ∧ vals 8 = .pointer (some ⟨b, 0, none⟩) ∧ vals 9 = .pointer (some ⟨b, 0, none⟩) ∧ vals 10 = .slice (some ⟨g, o, none⟩) len cap ∧ vals 11 = .int .i64 (n : Nat) ∧ vals 12 = .pointer (some ⟨g, o + n, none⟩) ∧ vals 13 = .pointer (some ⟨x, 0, none⟩) ∧ vals 14 = .int .u64 v ∧ vals 15 = .pointer (some ⟨x, 0, none⟩) ∧ vals 16 = .pointer (some ⟨x, 4, none⟩) ∧ vals 17 = undef ∧ vals 18 = .pointer (some ⟨x, 0, none⟩) ∧ vals 19 = .pointer (some ⟨x, 8, none⟩) ∧ vals 20 = undef :=
          ⟨fun k_ => match k_ with
            | 0 => .pointer (some ⟨b, 0, none⟩)
            | 1 => .pointer (some ⟨b, 0, none⟩)
            | 2 => .pointer (some ⟨b, 0, none⟩)
            | 3 => .slice (some ⟨g, o, none⟩) len cap
            | 4 => .int .i64 (n : Nat)
            | 5 => .pointer (some ⟨g, o + n, none⟩)
            | 6 => .pointer (some ⟨x, 0, none⟩)
            | 7 => .pointer (some ⟨b, 0, none⟩)
            | 8 => .pointer (some ⟨b, 0, none⟩)
            | 9 => .pointer (some ⟨b, 0, none⟩)
            | 10 => .slice (some ⟨g, o, none⟩) len cap
            | 11 => .int .i64 (n : Nat)
            | 12 => .pointer (some ⟨g, o + n, none⟩)
            | 13 => .pointer (some ⟨x, 0, none⟩)
            | 14 => .int .u64 v
            | 15 => .pointer (some ⟨x, 0, none⟩)
            | 16 => .pointer (some ⟨x, 4, none⟩)
            | 17 => undef
            | 18 => .pointer (some ⟨x, 0, none⟩)
            | 19 => .pointer (some ⟨x, 8, none⟩)
            | _ => undef
            , rfl, rfl, rfl, rfl, rfl, rfl, rfl, rfl, rfl, rfl, rfl, rfl, rfl, rfl, rfl, rfl, rfl, rfl, rfl, rfl, rfl⟩
        refine wp_region_V (JE [17, 20] (fun f_ w_ => Heap w0 w_ (HP.blk x (dE e v f_).cs.toArray 76 :: HP.ents (bs.eraseIdx n) (q.l.eraseIdx n) :: HP.blk b (qcs (.slice (some ⟨g, o, none⟩) len cap) q.h).toArray 69 :: HP.slw (.slice (some ⟨g, o, none⟩) len cap) 1 len (ptrs bs) :: L))) vals fol (by kernel_rfl) (JE.start ?_) ?_ ?_
        · exact hB3.drew
        · show wpV _ _ _ _ 0 (_ :: _) _
          refine wpV_cons e0 (jeVal (by decide) (.pointer (some ⟨b, 0, none⟩)) fun f_ w_ hK => ?_) ?_
          · exact ⟨by kernel_rfl, by kernel_rfl⟩
          refine wpV_cons e1 (jeVal (by decide) (.pointer (some ⟨b, 0, none⟩)) fun f_ w_ hK => ?_) ?_
          · exact ⟨by kernel_rfl, by kernel_rfl⟩
          refine wpV_cons e2 (jeVal (by decide) (.pointer (some ⟨b, 0, none⟩)) fun f_ w_ hK => ?_) ?_
          · exact ⟨by kernel_rfl, by kernel_rfl⟩
          refine wpV_cons e3 (jeOp (by decide) (Instr.loadAt 64 (.pointer (some ⟨b, 0, none⟩))) (.slice (some ⟨g, o, none⟩) len cap) fun f_ w_ hK => ?_) ?_
          · exact ⟨by kernel_rfl, by kernel_rfl, run_load1 (by kernel_rfl) (cell_blk hK.f3.heap 0).1⟩
          refine wpV_cons e4 (jeVal (by decide) (.int .i64 (n : Nat)) fun f_ w_ hK => ?_) ?_
          · exact ⟨by kernel_rfl, by kernel_rfl⟩
          refine wpV_cons e5 (jeOp (by decide) (Instr.indexAt 64 (.slice (some ⟨g, o, none⟩) len cap) (.int .i64 (n : Nat))) (.pointer (some ⟨g, o + n, none⟩)) fun f_ w_ hK => ?_) ?_
          · exact ⟨by kernel_rfl, by kernel_rfl, (run_ixat 64 74 1 Try.underlying64 (by kernel_rfl) g o len cap n hnl w_).trans (by rw [Nat.mul_one])⟩
          refine wpV_cons e6 (jeOp (by decide) (Instr.loadAt 74 (.pointer (some ⟨g, o + n, none⟩))) (.pointer (some ⟨x, 0, none⟩)) fun f_ w_ hK => ?_) ?_
          · exact ⟨by kernel_rfl, by kernel_rfl, run_load1 (by kernel_rfl) (sl_ptr hK.f4.slw hnl (unhide Hx))⟩
          refine wpV_cons e7 (jeVal (by decide) (.pointer (some ⟨b, 0, none⟩)) fun f_ w_ hK => ?_) ?_
          · exact ⟨by kernel_rfl, by kernel_rfl⟩
          refine wpV_cons e8 (jeVal (by decide) (.pointer (some ⟨b, 0, none⟩)) fun f_ w_ hK => ?_) ?_
          · exact ⟨by kernel_rfl, by kernel_rfl⟩
          refine wpV_cons e9 (jeVal (by decide) (.pointer (some ⟨b, 0, none⟩)) fun f_ w_ hK => ?_) ?_
          · exact ⟨by kernel_rfl, by kernel_rfl⟩
          refine wpV_cons e10 (jeOp (by decide) (Instr.loadAt 64 (.pointer (some ⟨b, 0, none⟩))) (.slice (some ⟨g, o, none⟩) len cap) fun f_ w_ hK => ?_) ?_
          · exact ⟨by kernel_rfl, by kernel_rfl, run_load1 (by kernel_rfl) (cell_blk hK.f3.heap 0).1⟩
          refine wpV_cons e11 (jeVal (by decide) (.int .i64 (n : Nat)) fun f_ w_ hK => ?_) ?_
          · exact ⟨by kernel_rfl, by kernel_rfl⟩
          refine wpV_cons e12 (jeOp (by decide) (Instr.indexAt 64 (.slice (some ⟨g, o, none⟩) len cap) (.int .i64 (n : Nat))) (.pointer (some ⟨g, o + n, none⟩)) fun f_ w_ hK => ?_) ?_
          · exact ⟨by kernel_rfl, by kernel_rfl, (run_ixat 64 74 1 Try.underlying64 (by kernel_rfl) g o len cap n hnl w_).trans (by rw [Nat.mul_one])⟩
          refine wpV_cons e13 (jeOp (by decide) (Instr.loadAt 74 (.pointer (some ⟨g, o + n, none⟩))) (.pointer (some ⟨x, 0, none⟩)) fun f_ w_ hK => ?_) ?_
          · exact ⟨by kernel_rfl, by kernel_rfl, run_load1 (by kernel_rfl) (sl_ptr hK.f4.slw hnl (unhide Hx))⟩
          refine wpV_cons e14 (jeVal (by decide) (.int .u64 v) fun f_ w_ hK => ?_) ?_
          · exact ⟨by kernel_rfl, by kernel_rfl⟩
          refine wpV_cons e15 (jeVal (by decide) (.pointer (some ⟨x, 0, none⟩)) fun f_ w_ hK => ?_) ?_
          · exact ⟨by kernel_rfl, by kernel_rfl⟩
          refine wpV_cons e16 (jeVal (by decide) (.pointer (some ⟨x, 4, none⟩)) fun f_ w_ hK => ?_) ?_
          · exact ⟨by kernel_rfl, by kernel_rfl⟩
          refine wpV_cons e17 (jeStore (by decide) (Instr.storeAt 4 (.pointer (some ⟨x, 4, none⟩)) (.bool true)) fun f_ w_ hK => ?_) ?_
          · have hc := cell_blk hK.heap 4
            have hs_ := hK.setl 4 (.bool true)
            rw [show (dE e v f_).cs.set 4 (.bool true) = (dE e v fun s => if s = 17 then true else f_ s).cs from by simp [dE, Ent.cs]] at hs_
            exact ⟨by kernel_rfl, by kernel_rfl, _, run_store1 (by kernel_rfl) rfl rfl hc.1 hc.2, hs_⟩
          refine wpV_cons e18 (jeVal (by decide) (.pointer (some ⟨x, 0, none⟩)) fun f_ w_ hK => ?_) ?_
          · exact ⟨by kernel_rfl, by kernel_rfl⟩
          refine wpV_cons e19 (jeVal (by decide) (.pointer (some ⟨x, 8, none⟩)) fun f_ w_ hK => ?_) ?_
          · exact ⟨by kernel_rfl, by kernel_rfl⟩
          refine wpV_cons e20 (jeStore (by decide) (Instr.storeAt 28 (.pointer (some ⟨x, 8, none⟩)) (.int .u64 v)) fun f_ w_ hK => ?_) wpV_nil
          · have hc := cell_blk hK.heap 8
            have hs_ := hK.setl 8 (.int .u64 v)
            rw [show (dE e v f_).cs.set 8 (.int .u64 v) = (dE e v fun s => if s = 20 then true else f_ s).cs from by simp [dE, Ent.cs]] at hs_
            exact ⟨by kernel_rfl, by kernel_rfl, _, run_store1 (by kernel_rfl) rfl rfl hc.1 hc.2, hs_⟩
        · intro w_ hJ2
          have h5 := hJ2.done (by decide)
          clear hJ2
          simp only [fillG, Nat.zero_add, Nat.reduceAdd, e0, e1, e2, e3, e4, e5, e6, e7, e8, e9, e10, e11, e12, e13, e14, e15, e16, e17, e18, e19, e20, Act.put, List.setIfInBounds_toArray, List.set_cons_succ, List.set_cons_zero]
          clear e0 e1 e2 e3 e4 e5 e6 e7 e8 e9 e10 e11 e12 e13 e14 e15 e16 e17 e18 e19 e20
          go_wp2
          go_ret
          refine ⟨by rw [(unhide hfin).1]; rfl, ?_⟩
          rw [(unhide hfin).2]
          have h6 : Heap w0 w_ (HP.blk x ({ e with data := true, v := v } : Ent).cs.toArray 76 :: HP.ents (bs.eraseIdx n) (q.l.eraseIdx n) :: HP.blk b (qcs (.slice (some ⟨g, o, none⟩) len cap) q.h).toArray 69 :: HP.slw (.slice (some ⟨g, o, none⟩) len cap) 1 len (ptrs bs) :: L) := h5
          have h7 := (h6.ents_in (unhide Hx) (by rw [unhide Hlen]; exact hnl)).b3
          rw [← unhide Hlen] at h7
          have hl : (q.l.set n ({ e with data := true, v := v } : Ent)).length = q.l.length := List.length_set
          refine Heap.qc (q := ⟨q.l.set n { e with data := true, v := v }, q.h⟩) (A := some ⟨g, o, none⟩) (cap := cap) (bs := bs) ((unhide HR).inv.set (unhide He) rfl rfl (((unhide HR).inv.ok e (List.mem_of_getElem? (unhide He))).with_data hs v0)) (by rw [(unhide HR).lenl]; exact hl.symm) ?_
          show Heap w0 w_ (HP.blk b (qcs (.slice (some ⟨g, o, none⟩) (q.l.set n _).length cap) q.h).toArray 69 :: HP.slw (.slice (some ⟨g, o, none⟩) (q.l.set n _).length cap) 1 (q.l.set n _).length (ptrs bs) :: HP.ents bs (q.l.set n _) :: L)
          rw [hl]
          exact h7
end
end Go.Proofs.Ytdmkgomcomcfhaa
