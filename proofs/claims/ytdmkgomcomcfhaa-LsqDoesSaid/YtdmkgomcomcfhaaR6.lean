/- Layer 23: the reference: Done. -/
import Derived.Test.YtdmkgomcomcfhaaR5
namespace Go.Proofs.Ytdmkgomcomcfhaa
open Go.RowKit
section
variable {w0 w : World} {L : List HP} {b : Nat} {q : Qs}
set_option maxRecDepth 100000 in
set_option maxHeartbeats 4000000 in
theorem done_r (h : Heap w0 w (HP.r b q :: L)) (tag : Int) :
    Calls Try.prog 23 #[ptr b, .int .i64 tag] w fun r w' => r = .returned (.bool (doneQ q tag).1) ∧ Heap w0 w' (HP.r b (doneQ q tag).2 :: L) := by
  have hcall := hide (look_r h tag)
  obtain ⟨R, hR2⟩ : ∃ R, doneQ q tag = R := ⟨_, rfl⟩
  rw [hR2]
  have hd : R = if !(lookQ q tag).2 || (lookQ q tag).1.wait then (false, q) else match findN q.l tag with
    | none => (false, q)
    | some n => match q.l[n]? with
      | none => (false, q)
      | some e => if e.read then (false, q) else (true, ⟨q.l.set n { e with read := true }, q.h⟩) := hR2.symm
  clear h hR2
  unfold ptr
  go_enter Try.func23, Try.ntmps23
  go_wp2_with fail
  refine (unhide hcall).mono ?_
  rintro r w1 ⟨rfl, h1⟩
  clear hcall
  obtain ⟨⟨gw, gm, gv⟩, hG⟩ : ∃ G, (lookQ q tag).1 = G := ⟨_, rfl⟩
  rw [hG] at hd ⊢
  have hls := look_some (q := q) (t := tag)
  obtain ⟨ok, hok⟩ : ∃ ok, (lookQ q tag).2 = ok := ⟨_, rfl⟩
  rw [hok] at hd hls ⊢
  unfold GotS.cs
  dsimp only at hd ⊢
  have h2 := h1.new #[.bool gw, .int .u8 gm, .int .u64 gv] 40
  obtain ⟨k5, hk5⟩ : ∃ k, w1.heap.size = k := ⟨_, rfl⟩
  rw [hk5] at h2
  have Hd := hide hd
  have Hls := hide hls
  have HK5 := hide hk5
  have H2 := hide h2
  clear h1 hd hls hG hok hk5 h2
  go_upto_region 2 with fail
  rw [unhide HK5]
  generalize w1.alloc (.cells #[.bool gw, .int .u8 gm, .int .u64 gv] 40) = wA at H2 ⊢
  have k0 : wA.cell? ⟨k5, 0, none⟩ = some (.bool gw) := (cell_blk (Heap.heap (unhide H2)) 0).1
  have hkl := lt_of_heap' (Heap.heap (unhide H2))
  have H3 := hide (unhide H2).tail
  cases ok with
  | false =>
    have hfin := hide (show R = (false, q) by rw [unhide Hd]; rfl)
    go_wp2
    go_ret
    exact ⟨by rw [unhide hfin]; rfl, by rw [unhide hfin]; exact unhide H3⟩
  | true =>
  cases gw with
  | true =>
    have hfin := hide (show R = (false, q) by rw [unhide Hd]; rfl)
    go_wp2
    go_ret
    exact ⟨by rw [unhide hfin]; rfl, by rw [unhide hfin]; exact unhide H3⟩
  | false =>
    obtain ⟨n, e, hf, he, hs2, hp2⟩ := unhide Hls rfl
    have HSP := hide (And.intro hs2 hp2)
    clear hs2 hp2
    have hd : R = if e.read then (false, q) else (true, ⟨q.l.set n { e with read := true }, q.h⟩) := by rw [unhide Hd]; simp only [hf, he]; rfl
    obtain ⟨A, cap, gh, oh, ch, gi, oi, ci, hR, hO⟩ := (unhide H3).rro
    have hcall := hide (findR hR tag)
    have HR := hide hR
    have Hd2 := hide hd
    have He := hide he
    have Hf := hide hf
    have HO := hide hO
    clear hd Hd hf he hR hO H2
    go_wp2_with fail
    refine (unhide hcall).mono ?_
    rintro r w2 ⟨rfl, hw2⟩
    replace hw2 := hw2.symm
    subst hw2
    clear hcall k0 hkl
    rw [unhide Hf]
    unfold optI
    have hnl := (List.getElem?_eq_some_iff.1 (unhide He)).1
    have hlen16 := (unhide HR).inv.len
    obtain ⟨q0, _, hbl⟩ := (unhide HR).c0
    obtain ⟨g, o, e', rfl, he', hgl, _, _, _, _, _, d5, _, _, _⟩ := (unhide HR).at_ hnl
    rw [unhide He] at he'
    injection he' with he'
    subst he'
    have f5 := ent_frozen (unhide HR).sl hnl (j := 5) (by omega)
    obtain ⟨len, hlen⟩ : ∃ len, q.l.length = len := ⟨_, rfl⟩
    have hB := unhide HO
    unfold OR at hB
    rw [hlen] at q0 hnl hlen16 hB
    have HB2 := hide hB
    have Hlen := hide hlen
    clear hB hlen HO
    cases hrd : e.read with
    | true =>
      rw [hrd] at d5
      have hfin := hide (show R = (false, q) by rw [unhide Hd2, hrd]; rfl)
      go_wp2
      go_ret
      exact ⟨by rw [unhide hfin]; rfl, by rw [unhide hfin]; exact unhide H3⟩
    | false =>
      rw [hrd] at d5
      have hfin := hide (show R = (true, ⟨q.l.set n { e with read := true }, q.h⟩) by rw [unhide Hd2, hrd]; rfl)
      go_wp2
      go_ret
      refine ⟨by rw [unhide hfin]; rfl, ?_⟩
      rw [unhide hfin]
      have hW := (unhide HB2).f2.write (j := n * 9 + 5) (by omega) (.bool true)
      rw [entsC_set (e := e) (e' := { e with read := true }) (j := 5) (by omega) rfl (unhide He), ← Nat.add_assoc] at hW
      have hl : (q.l.set n ({ e with read := true } : Ent)).length = q.l.length := List.length_set
      have heo := (unhide HR).inv.ok e (List.mem_of_getElem? (unhide He))
      refine Heap.rr.2 ⟨(.slice (some ⟨g, o, none⟩) len cap, .slice (some ⟨gh, oh, none⟩) 16 ch, .slice (some ⟨gi, oi, none⟩) 16 ci), (unhide HR).inv.set (unhide He) rfl rfl ⟨heo.tag, heo.pc, heo.at_, heo.v, heo.size, fun _ => unhide HSP, heo.data⟩, ?_⟩
      show Heap w0 _ (HP.blk b #[.slice (some ⟨g, o, none⟩) len cap, .slice (some ⟨gh, oh, none⟩) 16 ch, .slice (some ⟨gi, oi, none⟩) 16 ci] 72 :: HP.slw (.slice (some ⟨g, o, none⟩) len cap) 9 (q.l.set n _).length (entsC (q.l.set n _)) :: HP.slw (.slice (some ⟨gh, oh, none⟩) 16 ch) 1 16 (hU q.h) :: HP.slw (.slice (some ⟨gi, oi, none⟩) 16 ci) 1 16 (hB q.h) :: L)
      rw [hl, unhide Hlen]
      exact hW.f2
end
end Go.Proofs.Ytdmkgomcomcfhaa
