/- Layer 23: the reference: Where: a round that changes an entry. -/
import Derived.Test.YtdmkgomcomcfhaaR8
namespace Go.Proofs.Ytdmkgomcomcfhaa
open Go.RowKit

theorem Heap.b6_ {w0 w : World} {A B C D E F : HP} {L : List HP} (h : Heap w0 w (F :: A :: B :: C :: D :: E :: L)) : Heap w0 w (A :: B :: C :: D :: E :: F :: L) := Heap.f6 (Heap.f6 (Heap.f6 (Heap.f6 (Heap.f6 h))))
variable {w0 : World} {L : List HP} {b : Nat} {g o cap gh oh ch gi oi ci : Nat} {n len : Nat} {p : Ent} {s0 : WS} {k : Nat} {s : WS} {x : Ent} {A2 : Option Addr} {cap2 : Nat} {wr : World}
set_option maxRecDepth 1000000 in
set_option maxHeartbeats 8000000 in
theorem goWO (hcap : len ≤ cap) (hpc : 0 ≤ p.pc ∧ p.pc < 18446744073709551616) (hnl : n < len) (hR : RelWO w0 L b g o cap gh oh ch gi oi ci n len p s0 k s A2 cap2 wr) (hlt : k < len) (hx : s.l[k]? = some x) (hx1 : x.store = false) (hx2 : x.read = true) (Q0 : Exit → Act → World → Prop) (c1 c2 c3 c4 c5 c6 c7 c8 c9 c17 c18 c19 c20 c21 c22 c23 c24 c25 c26 c27 c28 c29 c30 c31 c32 c33 c34 c35 c36 c37 c38 c39 c40 c41 c42 c43 c44 c45 c46 c47 c48 c49 c50 c51 c52 c53 c54 c55 c56 c57 c58 c59 c60 c61 c62 c63 c64 c65 c66 c67 c68 c69 c70 c71 c72 c73 c74 c75 c76 c77 c78 c79 c80 c81 c82 c83 c84 c85 c86 c87 c88 c89 c90 c173 u13 u14 u15 u16 u91 u92 u93 u94 u95 u96 u97 u98 u99 u100 u101 u102 u103 u104 u105 u106 u107 u108 u109 u110 u111 u112 u113 u114 u115 u116 u117 u118 u119 u120 u121 u122 u123 u124 u125 u126 u127 u128 u129 u130 u131 u132 u133 u134 u135 u136 u137 u138 u139 u140 u141 u142 u143 u144 u145 u146 u147 u148 u149 u150 u151 u152 u153 u154 u155 u156 u157 u158 u159 u160 u161 u162 u163 u164 u165 u166 u167 u168 u169 u170 u171 u172 : Value) :
    Code.wp Try.prog bodyWO (Exit.then (fun a' w'' => WIwo c1 c2 c3 c4 c5 c6 c7 c8 c9 c17 c18 c19 c20 c21 c22 c23 c24 c25 c26 c27 c28 c29 c30 c31 c32 c33 c34 c35 c36 c37 c38 c39 c40 c41 c42 c43 c44 c45 c46 c47 c48 c49 c50 c51 c52 c53 c54 c55 c56 c57 c58 c59 c60 c61 c62 c63 c64 c65 c66 c67 c68 c69 c70 c71 c72 c73 c74 c75 c76 c77 c78 c79 c80 c81 c82 c83 c84 c85 c86 c87 c88 c89 c90 c173 w0 L b g o cap gh oh ch gi oi ci n len p s0 a' w'' ∧ WmuO_ len a' w'' < len - k) Q0) ⟨#[.pointer (some ⟨b, 0, none⟩), c1, c2, c3, c4, c5, c6, c7, c8, c9, .int .i64 (n : Nat), .slice A2 s.out.length cap2, .int .i64 (k : Int), u13, u14, u15, u16, c17, c18, c19, c20, c21, c22, c23, c24, c25, c26, c27, c28, c29, c30, c31, c32, c33, c34, c35, c36, c37, c38, c39, c40, c41, c42, c43, c44, c45, c46, c47, c48, c49, c50, c51, c52, c53, c54, c55, c56, c57, c58, c59, c60, c61, c62, c63, c64, c65, c66, c67, c68, c69, c70, c71, c72, c73, c74, c75, c76, c77, c78, c79, c80, c81, c82, c83, c84, c85, c86, c87, c88, c89, c90, u91, u92, u93, u94, u95, u96, u97, u98, u99, u100, u101, u102, u103, u104, u105, u106, u107, u108, u109, u110, u111, u112, u113, u114, u115, u116, u117, u118, u119, u120, u121, u122, u123, u124, u125, u126, u127, u128, u129, u130, u131, u132, u133, u134, u135, u136, u137, u138, u139, u140, u141, u142, u143, u144, u145, u146, u147, u148, u149, u150, u151, u152, u153, u154, u155, u156, u157, u158, u159, u160, u161, u162, u163, u164, u165, u166, u167, u168, u169, u170, u171, u172, c173], []⟩ wr := by
  conv => arg 2; whnf
  have HX12 := hide (And.intro hx1 hx2)
  clear hx1 hx2
  have HR := hide hR
  have HX := hide hx
  have hJ := hR.heap
  have hsl := hR.sl
  have hn16 := hR.qi.len
  dsimp only at hn16
  have hout := hR.out
  have hJ1 := hJ
  unfold OR at hJ1
  dsimp only at hJ1
  rw [hsl] at hJ1 hn16
  obtain ⟨m, hm⟩ : ∃ m, s.out.length = m := ⟨_, rfl⟩
  have Hm := hide hm
  rw [hm] at hJ1 hout
  have c0 : wr.cell? ⟨b, 0, none⟩ = some (.slice (some ⟨g, o, none⟩) len cap) := (cell_blk (Heap.heap hJ1.f2) 0).1
  have hbl := lt_of_heap' (Heap.heap hJ1.f2)
  obtain ⟨⟨d0, d1, d2, d3, d4, d5, d6, d7, d8⟩, hgl⟩ := ent_cells hJ1.f3.slw hx hlt
  have hst := hR.step
  obtain ⟨ky, hky⟩ : ∃ k, wr.heap.size = k := ⟨_, rfl⟩
  have hD2 := hJ.new #[.int .i64 x.tag, .int .u64 x.pc, .bool x.store, .bool x.placed, .bool x.data, .bool x.read, .int .u64 x.at_, .int .i64 x.size, .int .u64 x.v] 84
  rw [hky] at hD2
  have Hky := hide hky
  have HD2 := hide hD2
  have Hst := hide hst
  rw [hm]
  clear hR hJ hJ1 hx hky hD2 hst hsl hm
  go_upto_region 14 with fail
  rw [unhide Hky]
  generalize wr.alloc (.cells #[.int .i64 x.tag, .int .u64 x.pc, .bool x.store, .bool x.placed, .bool x.data, .bool x.read, .int .u64 x.at_, .int .i64 x.size, .int .u64 x.v] 84) = wd at HD2 ⊢
  generalize (Value.agg #[.int .i64 x.tag, .int .u64 x.pc, .bool x.store, .bool x.placed, .bool x.data, .bool x.read, .int .u64 x.at_, .int .i64 x.size, .int .u64 x.v]) = ag
  clear c0 hbl d0 d1 d2 d3 d4 d5 d6 d7 d8 hgl Hky
  have hs16 := hn16
  have hqi := (unhide HR).qi
  have hcap2 : s.l.length ≤ cap := by rw [(unhide HR).sl]; exact hcap
  have hkl : k < s.l.length := by rw [(unhide HR).sl]; exact hlt
  go_wp2
  rw [← unhide Hm]
  refine loopWI (n := n) (k := k) (s := s) (x := x) hqi hcap2 hkl (unhide HX) (unhide HX12).1 (unhide HX12).2 _ _ _ _ _ _ _ _ _ _ _ _ _ _ _ _ _ _ _ _ _ _ _ _ _ _ _ _ _ _ _ _ _ _ _ _ _ _ _ _ _ _ _ _ _ _ _ _ _ _ _ _ _ _ _ _ _ _ _ _ _ _ _ _ _ _ _ _ _ _ _ _ _ _ _ _ _ _ _ _ _ _ _ _ _ _ _ _ _ _ _ _ _ _ _ _ _ _ _ _ _ _ _ _ _ _ _ _ _ _ _ _ _ _ _ _ _ _ _ _ _ _ _ _ _ _ _ _ _ _ _ _ _ _ _ _ _ _ _ (unhide HD2) _ _ _ _ _ _ _ _ _ _ _ _ _ _ _ _ _ _ _ _ _ _ _ _ _ _ _ _ _ _ ?_
  intro a' w5 hX
  obtain ⟨hK, hF⟩ := hX
  unfold FRWI at hF
  obtain ⟨u16, hF⟩ := hF
  obtain ⟨u107, hF⟩ := hF
  obtain ⟨u108, hF⟩ := hF
  obtain ⟨u109, hF⟩ := hF
  obtain ⟨u110, hF⟩ := hF
  obtain ⟨u111, hF⟩ := hF
  obtain ⟨u112, hF⟩ := hF
  obtain ⟨u113, hF⟩ := hF
  obtain ⟨u114, hF⟩ := hF
  obtain ⟨u115, hF⟩ := hF
  obtain ⟨u116, hF⟩ := hF
  obtain ⟨u117, hF⟩ := hF
  obtain ⟨u118, hF⟩ := hF
  obtain ⟨u119, hF⟩ := hF
  obtain ⟨u120, hF⟩ := hF
  obtain ⟨u121, hF⟩ := hF
  obtain ⟨u122, hF⟩ := hF
  obtain ⟨u123, hF⟩ := hF
  obtain ⟨u124, hF⟩ := hF
  obtain ⟨u125, hF⟩ := hF
  obtain ⟨u126, hF⟩ := hF
  obtain ⟨u127, hF⟩ := hF
  obtain ⟨u128, hF⟩ := hF
  obtain ⟨u129, hF⟩ := hF
  obtain ⟨u130, hF⟩ := hF
  obtain ⟨u131, hF⟩ := hF
  obtain ⟨u132, hF⟩ := hF
  obtain ⟨u133, hF⟩ := hF
  obtain ⟨u134, hF⟩ := hF
  obtain ⟨u135, hF⟩ := hF
  subst hF
  rw [unhide Hm] at hK ⊢
  have HK := hide hK
  obtain ⟨E, hE⟩ : ∃ E, early s.l k n x.at_ x.size.toNat = E := ⟨_, rfl⟩
  have HE := hide hE
  rw [hE]
  obtain ⟨sj, hsj⟩ : ∃ z, x.size.toNat = z := ⟨_, rfl⟩
  rw [hsj]
  clear HD2 hK hE hsj hqi hcap2 hkl
  cases E with
  | false =>
    have HS2 := hide (show whStep n p.pc s k = s by
      unfold whStep
      rw [unhide HX]
      simp only [unhide HE, Bool.and_false]
      rfl)
    go_wp2
    have e12 : (k : Int) + 1 = ((k + 1 : Nat) : Int) := rfl
    try rw [e12]
    refine ⟨⟨k + 1, s, A2, cap2, ⟨by have := (unhide HR).k1; omega, by omega, by have := unhide Hm; omega, by rw [unhide Hst, unhide HS2], (unhide HR).sl, (unhide HR).sn, (unhide HR).qi, by rw [unhide Hm]; exact (unhide HK).tail⟩, ?_⟩, by simp [WmuO_, intOf]; omega⟩
    unfold FRWO
    rw [unhide Hm]
    refine ⟨_, _, _, _, _, _, _, _, _, _, _, _, _, _, _, _, _, _, _, _, _, _, _, _, _, _, _, _, _, _, _, _, _, _, _, _, _, _, _, _, _, _, _, _, _, _, _, _, _, _, _, _, _, _, _, _, _, _, _, _, _, _, _, _, _, _, _, _, _, _, _, _, _, _, _, _, _, _, _, _, _, _, _, _, _, _, rfl⟩
  | true =>
    have HS2 := hide (show whStep n p.pc s k = ⟨s.l.set k { x with read := false }, setH s.h (rowN x.pc) (p.pc, true), s.out ++ [x.tag]⟩ by
      unfold whStep
      rw [unhide HX]
      simp only [unhide HE, (unhide HX12).1, (unhide HX12).2]
      rfl)
    have hxo := (unhide HR).qi.ok x (List.mem_of_getElem? (unhide HX))
    have Hxo := hide hxo
    have hrow := hide fun w' => row_any (w := w') x.pc hxo.pc.1 hxo.pc.2
    have hr16 := rowN_lt x.pc
    obtain ⟨rx, hrx⟩ : ∃ r, rowN x.pc = r := ⟨_, rfl⟩
    have Hrx := hide hrx
    rw [hrx] at hrow hr16
    have hK1 : Heap w0 w5 (HP.blk ky #[.int .i64 x.tag, .int .u64 x.pc, .bool x.store, .bool x.placed, .bool x.data, .bool x.read, .int .u64 x.at_, .int .i64 x.size, .int .u64 x.v] 84 :: HP.slw (.slice A2 m cap2) 1 m (ints s.out) :: HP.blk b #[.slice (some ⟨g, o, none⟩) len cap, .slice (some ⟨gh, oh, none⟩) 16 ch, .slice (some ⟨gi, oi, none⟩) 16 ci] 72 :: HP.slw (.slice (some ⟨g, o, none⟩) len cap) 9 len (entsC (s.l)) :: HP.slw (.slice (some ⟨gh, oh, none⟩) 16 ch) 1 16 (hU s.h) :: HP.slw (.slice (some ⟨gi, oi, none⟩) 16 ci) 1 16 (hB s.h) :: L) := by
      have := unhide HK
      unfold OR at this
      dsimp only at this
      rw [(unhide HR).sl] at this
      exact this
    have c0 : w5.cell? ⟨b, 0, none⟩ = some (.slice (some ⟨g, o, none⟩) len cap) := (cell_blk (Heap.heap hK1.f3) 0).1
    have hbl := lt_of_heap' (Heap.heap hK1.f3)
    obtain ⟨⟨d0, d1, d2, d3, d4, d5, d6, d7, d8⟩, hgl⟩ := ent_cells (Heap.f4 hK1).slw (unhide HX) hlt
    have ff5 := ent_frozen (Heap.f4 hK1).slw hlt (j := 5) (by omega)
    have HK1 := hide hK1
    clear hK1 hxo hrx HK d0 d1 d2 d3 d4 d6 d7 d8
    go_upto_region 22 with fail
    have hW := (Heap.f4 (unhide HK1)).write (j := k * 9 + 5) (by omega) (.bool false)
    rw [entsC_set (e := x) (e' := { x with read := false }) (j := 5) (by omega) rfl (unhide HX), ← Nat.add_assoc] at hW
    generalize World.setCell _ ⟨g, o + k * 9 + 5, none⟩ (.bool false) = w6 at hW ⊢
    clear c0 hbl hgl d5 ff5 HK1
    have HA := hide (show Heap w0 w6 (HP.blk ky #[.int .i64 x.tag, .int .u64 x.pc, .bool x.store, .bool x.placed, .bool x.data, .bool x.read, .int .u64 x.at_, .int .i64 x.size, .int .u64 x.v] 84 :: HP.slw (.slice A2 m cap2) 1 m (ints s.out) :: HP.blk b #[.slice (some ⟨g, o, none⟩) len cap, .slice (some ⟨gh, oh, none⟩) 16 ch, .slice (some ⟨gi, oi, none⟩) 16 ci] 72 :: HP.slw (.slice (some ⟨g, o, none⟩) len cap) 9 len (entsC (s.l.set k { x with read := false })) :: HP.slw (.slice (some ⟨gh, oh, none⟩) 16 ch) 1 16 (hU s.h) :: HP.slw (.slice (some ⟨gi, oi, none⟩) 16 ci) 1 16 (hB s.h) :: L) from hW.f4.f4.f4)
    have HSN := hide (show (s.l.set k { x with read := false })[n]? = some p by
      rw [List.getElem?_set_ne (by have := (unhide HR).k1; omega)]
      exact (unhide HR).sn)
    clear hW
    go_wp2_with fail
    refine wp_region_E (fun w_ => Heap w0 w_ (HP.blk ky #[.int .i64 x.tag, .int .u64 x.pc, .bool x.store, .bool x.placed, .bool x.data, .bool x.read, .int .u64 x.at_, .int .i64 x.size, .int .u64 x.v] 84 :: HP.slw (.slice A2 m cap2) 1 m (ints s.out) :: HP.blk b #[.slice (some ⟨g, o, none⟩) len cap, .slice (some ⟨gh, oh, none⟩) 16 ch, .slice (some ⟨gi, oi, none⟩) 16 ci] 72 :: HP.slw (.slice (some ⟨g, o, none⟩) len cap) 9 len (entsC (s.l.set k { x with read := false })) :: HP.slw (.slice (some ⟨gh, oh, none⟩) 16 ch) 1 16 (hU s.h) :: HP.slw (.slice (some ⟨gi, oi, none⟩) 16 ci) 1 16 (hB s.h) :: L)) (fun _ _ => True) (fun k_ v_ w_ => match k_ with
        | 0 => v_ = .pointer (some ⟨b, 0, none⟩)
        | 1 => v_ = .pointer (some ⟨b, 0, none⟩)
        | 2 => v_ = .pointer (some ⟨b, 1, none⟩)
        | 3 => v_ = .slice (some ⟨gh, oh, none⟩) 16 ch
        | 4 => v_ = .pointer (some ⟨ky, 1, none⟩)
        | 5 => v_ = .int .u64 x.pc
        | 6 => v_ = .int .i64 (rx : Nat)
        | 7 => v_ = .pointer (some ⟨b, 0, none⟩)
        | 8 => v_ = .pointer (some ⟨b, 0, none⟩)
        | 9 => v_ = .pointer (some ⟨b, 0, none⟩)
        | 10 => v_ = .slice (some ⟨g, o, none⟩) len cap
        | 11 => v_ = .int .i64 (n : Nat)
        | 12 => v_ = .pointer (some ⟨g, o + n * 9, none⟩)
        | 13 => v_ = .pointer (some ⟨g, o + n * 9 + 1, none⟩)
        | 14 => v_ = .int .u64 p.pc
        | _ => v_ = .pointer (some ⟨gh, oh + rx, none⟩)) fol (by kernel_rfl) ?_ ?_ (n := 16) rfl rfl rfl (by kernel_rfl) ?_ ?_
    · exact (unhide HA).drew
    · intro k_ v_ w_ w2_ h1 hg
      split at h1 <;> exact h1
    · intro vals
      show wpG _ _ _ _ _ _ 0 (_ :: _) _
      refine wpG_cons (gval (.pointer (some ⟨b, 0, none⟩)) (fun _ => trivial) fun w_ hJ hd => ?_) ?_
      · exact ⟨by kernel_rfl, by kernel_rfl, rfl⟩
      refine wpG_cons (gval (.pointer (some ⟨b, 0, none⟩)) (fun _ => trivial) fun w_ hJ hd => ?_) ?_
      · have e0 : vals 0 = _ := hd 0 (by decide) (by kernel_rfl)
        rw [e0]
        exact ⟨by kernel_rfl, by kernel_rfl, rfl⟩
      refine wpG_cons (gval (.pointer (some ⟨b, 1, none⟩)) (fun _ => trivial) fun w_ hJ hd => ?_) ?_
      · have e1 : vals 1 = _ := hd 1 (by decide) (by kernel_rfl)
        rw [e1]
        exact ⟨by kernel_rfl, by kernel_rfl, rfl⟩
      refine wpG_cons (gop (Instr.loadAt 51 (.pointer (some ⟨b, 1, none⟩))) (.slice (some ⟨gh, oh, none⟩) 16 ch) (fun _ => trivial) fun w_ hJ hd => ?_) ?_
      · have e2 : vals 2 = _ := hd 2 (by decide) (by kernel_rfl)
        rw [e2]
        exact ⟨by kernel_rfl, by kernel_rfl, run_load1 (by kernel_rfl) ((cell_blk (Heap.heap (Heap.f3 hJ)) 1).1), rfl⟩
      refine wpG_cons (gval (.pointer (some ⟨ky, 1, none⟩)) (fun _ => trivial) fun w_ hJ hd => ?_) ?_
      · exact ⟨by kernel_rfl, by kernel_rfl, rfl⟩
      refine wpG_cons (gop (Instr.loadAt 28 (.pointer (some ⟨ky, 1, none⟩))) (.int .u64 x.pc) (fun _ => trivial) fun w_ hJ hd => ?_) ?_
      · have e4 : vals 4 = _ := hd 4 (by decide) (by kernel_rfl)
        rw [e4]
        exact ⟨by kernel_rfl, by kernel_rfl, run_load1 (by kernel_rfl) ((cells9r (e := x) (Heap.heap hJ)).2.1), rfl⟩
      refine wpG_cons (gcall 41 #[.int .u64 x.pc] fun w_ hJ hd => ?_) ?_
      · have e5 : vals 5 = _ := hd 5 (by decide) (by kernel_rfl)
        rw [e5]
        exact ⟨by kernel_rfl, by kernel_rfl, (unhide hrow w_).mono fun e w' ⟨hr, hw⟩ => ⟨_, hr, by rw [hw]; exact hJ, trivial, rfl⟩⟩
      refine wpG_cons (gval (.pointer (some ⟨b, 0, none⟩)) (fun _ => trivial) fun w_ hJ hd => ?_) ?_
      · exact ⟨by kernel_rfl, by kernel_rfl, rfl⟩
      refine wpG_cons (gval (.pointer (some ⟨b, 0, none⟩)) (fun _ => trivial) fun w_ hJ hd => ?_) ?_
      · have e7 : vals 7 = _ := hd 7 (by decide) (by kernel_rfl)
        rw [e7]
        exact ⟨by kernel_rfl, by kernel_rfl, rfl⟩
      refine wpG_cons (gval (.pointer (some ⟨b, 0, none⟩)) (fun _ => trivial) fun w_ hJ hd => ?_) ?_
      · have e8 : vals 8 = _ := hd 8 (by decide) (by kernel_rfl)
        rw [e8]
        exact ⟨by kernel_rfl, by kernel_rfl, rfl⟩
      refine wpG_cons (gop (Instr.loadAt 70 (.pointer (some ⟨b, 0, none⟩))) (.slice (some ⟨g, o, none⟩) len cap) (fun _ => trivial) fun w_ hJ hd => ?_) ?_
      · have e9 : vals 9 = _ := hd 9 (by decide) (by kernel_rfl)
        rw [e9]
        exact ⟨by kernel_rfl, by kernel_rfl, run_load1 (by kernel_rfl) ((cell_blk (Heap.heap (Heap.f3 hJ)) 0).1), rfl⟩
      refine wpG_cons (gval (.int .i64 (n : Nat)) (fun _ => trivial) fun w_ hJ hd => ?_) ?_
      · exact ⟨by kernel_rfl, by kernel_rfl, rfl⟩
      refine wpG_cons (gop (Instr.indexAt 70 (.slice (some ⟨g, o, none⟩) len cap) (.int .i64 (n : Nat))) (.pointer (some ⟨g, o + n * 9, none⟩)) (fun _ => trivial) fun w_ hJ hd => ?_) ?_
      · have e10 : vals 10 = _ := hd 10 (by decide) (by kernel_rfl)
        have e11 : vals 11 = _ := hd 11 (by decide) (by kernel_rfl)
        rw [e10, e11]
        exact ⟨by kernel_rfl, by kernel_rfl, (run_ixat 70 84 9 Try.underlying70 (by kernel_rfl) _ _ _ _ _ hnl w_), rfl⟩
      refine wpG_cons (gval (.pointer (some ⟨g, o + n * 9 + 1, none⟩)) (fun _ => trivial) fun w_ hJ hd => ?_) ?_
      · have e12 : vals 12 = _ := hd 12 (by decide) (by kernel_rfl)
        rw [e12]
        exact ⟨by kernel_rfl, by kernel_rfl, rfl⟩
      refine wpG_cons (gop (Instr.loadAt 28 (.pointer (some ⟨g, o + n * 9 + 1, none⟩))) (.int .u64 p.pc) (fun _ => trivial) fun w_ hJ hd => ?_) ?_
      · have e13 : vals 13 = _ := hd 13 (by decide) (by kernel_rfl)
        rw [e13]
        exact ⟨by kernel_rfl, by kernel_rfl, run_load1 (by kernel_rfl) ((ent_cells (Heap.f4 hJ).slw (unhide HSN) hnl).1.2.1), rfl⟩
      refine wpG_cons (gop (Instr.indexAt 51 (.slice (some ⟨gh, oh, none⟩) 16 ch) (.int .i64 (rx : Nat))) (.pointer (some ⟨gh, oh + rx, none⟩)) (fun _ => trivial) fun w_ hJ hd => ?_) wpG_nil
      · have e3 : vals 3 = _ := hd 3 (by decide) (by kernel_rfl)
        have e6 : vals 6 = _ := hd 6 (by decide) (by kernel_rfl)
        rw [e3, e6]
        exact ⟨by kernel_rfl, by kernel_rfl, (run_ixat 51 28 1 Try.underlying51 (by kernel_rfl) _ _ _ _ _ hr16 w_).trans (by rw [Nat.mul_one]), rfl⟩
    · intro vals w_ hJ hf
      have e0 : vals 0 = _ := hf 0 (by decide)
      have e1 : vals 1 = _ := hf 1 (by decide)
      have e2 : vals 2 = _ := hf 2 (by decide)
      have e3 : vals 3 = _ := hf 3 (by decide)
      have e4 : vals 4 = _ := hf 4 (by decide)
      have e5 : vals 5 = _ := hf 5 (by decide)
      have e6 : vals 6 = _ := hf 6 (by decide)
      have e7 : vals 7 = _ := hf 7 (by decide)
      have e8 : vals 8 = _ := hf 8 (by decide)
      have e9 : vals 9 = _ := hf 9 (by decide)
      have e10 : vals 10 = _ := hf 10 (by decide)
      have e11 : vals 11 = _ := hf 11 (by decide)
      have e12 : vals 12 = _ := hf 12 (by decide)
      have e13 : vals 13 = _ := hf 13 (by decide)
      have e14 : vals 14 = _ := hf 14 (by decide)
      have e15 : vals 15 = _ := hf 15 (by decide)
      show Oper.wp _ _ (fillG vals 0 (_ :: _ :: _ :: _ :: _ :: _ :: _ :: _ :: _ :: _ :: _ :: _ :: _ :: _ :: _ :: _ :: []) _) _ _ _
      simp only [fillG, Nat.zero_add, Nat.reduceAdd, e0, e1, e2, e3, e4, e5, e6, e7, e8, e9, e10, e11, e12, e13, e14, e15, Act.put, List.setIfInBounds_toArray, List.set_cons_succ, List.set_cons_zero]
      clear e0 e1 e2 e3 e4 e5 e6 e7 e8 e9 e10 e11 e12 e13 e14 e15 hf
      refine wp_last_skip (w' := w_.setCell ⟨gh, oh + rx, none⟩ (.int .u64 p.pc)) (m := Instr.storeAt 28 (.pointer (some ⟨gh, oh + rx, none⟩)) (.int .u64 p.pc)) (by kernel_rfl) (run_store1 (by kernel_rfl) rfl rfl (((Heap.f5 hJ).slw.at_ (j := rx) (by omega)).2.1.trans (hU_get _ hr16)) ((Heap.f5 hJ).slw.at_ (j := rx) (by omega)).2.2) ?_
      first | show Exit.then _ _ Exit.normal (Act.put ⟨_, _⟩ none _) _ | show Exit.inBlock _ _ Exit.normal (Act.put ⟨_, _⟩ none _) _ | skip
      simp only [Act.put]
      have HB1 : Heap w0 (w_.setCell ⟨gh, oh + rx, none⟩ (.int .u64 p.pc)) (HP.blk ky #[.int .i64 x.tag, .int .u64 x.pc, .bool x.store, .bool x.placed, .bool x.data, .bool x.read, .int .u64 x.at_, .int .i64 x.size, .int .u64 x.v] 84 :: HP.slw (.slice A2 m cap2) 1 m (ints s.out) :: HP.blk b #[.slice (some ⟨g, o, none⟩) len cap, .slice (some ⟨gh, oh, none⟩) 16 ch, .slice (some ⟨gi, oi, none⟩) 16 ci] 72 :: HP.slw (.slice (some ⟨g, o, none⟩) len cap) 9 len (entsC (s.l.set k { x with read := false })) :: HP.slw (.slice (some ⟨gh, oh, none⟩) 16 ch) 1 16 (hU (setH s.h rx (p.pc, true))) :: HP.slw (.slice (some ⟨gi, oi, none⟩) 16 ci) 1 16 (hB s.h) :: L) := by have h1 := (Heap.f5 hJ).write (j := rx) (by omega) (.int .u64 p.pc); rw [hU_set _ hr16 p.pc true] at h1; exact h1.f5.f5.f5.f5
      generalize w_.setCell ⟨gh, oh + rx, none⟩ (.int .u64 p.pc) = wHB1 at HB1 ⊢
      clear hJ
      go_wp2_with fail
      refine wp_region_E (fun w_ => Heap w0 w_ (HP.blk ky #[.int .i64 x.tag, .int .u64 x.pc, .bool x.store, .bool x.placed, .bool x.data, .bool x.read, .int .u64 x.at_, .int .i64 x.size, .int .u64 x.v] 84 :: HP.slw (.slice A2 m cap2) 1 m (ints s.out) :: HP.blk b #[.slice (some ⟨g, o, none⟩) len cap, .slice (some ⟨gh, oh, none⟩) 16 ch, .slice (some ⟨gi, oi, none⟩) 16 ci] 72 :: HP.slw (.slice (some ⟨g, o, none⟩) len cap) 9 len (entsC (s.l.set k { x with read := false })) :: HP.slw (.slice (some ⟨gh, oh, none⟩) 16 ch) 1 16 (hU (setH s.h rx (p.pc, true))) :: HP.slw (.slice (some ⟨gi, oi, none⟩) 16 ci) 1 16 (hB s.h) :: L)) (fun _ _ => True) (fun k_ v_ w_ => match k_ with
          | 0 => v_ = .pointer (some ⟨b, 0, none⟩)
          | 1 => v_ = .pointer (some ⟨b, 0, none⟩)
          | 2 => v_ = .pointer (some ⟨b, 2, none⟩)
          | 3 => v_ = .slice (some ⟨gi, oi, none⟩) 16 ci
          | 4 => v_ = .pointer (some ⟨ky, 1, none⟩)
          | 5 => v_ = .int .u64 x.pc
          | 6 => v_ = .int .i64 (rx : Nat)
          | _ => v_ = .pointer (some ⟨gi, oi + rx, none⟩)) fol (by kernel_rfl) ?_ ?_ (n := 8) rfl rfl rfl (by kernel_rfl) ?_ ?_
      · exact HB1.drew
      · intro k_ v_ w_ w2_ h1 hg
        split at h1 <;> exact h1
      · intro vals
        show wpG _ _ _ _ _ _ 0 (_ :: _) _
        refine wpG_cons (gval (.pointer (some ⟨b, 0, none⟩)) (fun _ => trivial) fun w_ hJ hd => ?_) ?_
        · exact ⟨by kernel_rfl, by kernel_rfl, rfl⟩
        refine wpG_cons (gval (.pointer (some ⟨b, 0, none⟩)) (fun _ => trivial) fun w_ hJ hd => ?_) ?_
        · have e0 : vals 0 = _ := hd 0 (by decide) (by kernel_rfl)
          rw [e0]
          exact ⟨by kernel_rfl, by kernel_rfl, rfl⟩
        refine wpG_cons (gval (.pointer (some ⟨b, 2, none⟩)) (fun _ => trivial) fun w_ hJ hd => ?_) ?_
        · have e1 : vals 1 = _ := hd 1 (by decide) (by kernel_rfl)
          rw [e1]
          exact ⟨by kernel_rfl, by kernel_rfl, rfl⟩
        refine wpG_cons (gop (Instr.loadAt 58 (.pointer (some ⟨b, 2, none⟩))) (.slice (some ⟨gi, oi, none⟩) 16 ci) (fun _ => trivial) fun w_ hJ hd => ?_) ?_
        · have e2 : vals 2 = _ := hd 2 (by decide) (by kernel_rfl)
          rw [e2]
          exact ⟨by kernel_rfl, by kernel_rfl, run_load1 (by kernel_rfl) ((cell_blk (Heap.heap (Heap.f3 hJ)) 2).1), rfl⟩
        refine wpG_cons (gval (.pointer (some ⟨ky, 1, none⟩)) (fun _ => trivial) fun w_ hJ hd => ?_) ?_
        · exact ⟨by kernel_rfl, by kernel_rfl, rfl⟩
        refine wpG_cons (gop (Instr.loadAt 28 (.pointer (some ⟨ky, 1, none⟩))) (.int .u64 x.pc) (fun _ => trivial) fun w_ hJ hd => ?_) ?_
        · have e4 : vals 4 = _ := hd 4 (by decide) (by kernel_rfl)
          rw [e4]
          exact ⟨by kernel_rfl, by kernel_rfl, run_load1 (by kernel_rfl) ((cells9r (e := x) (Heap.heap hJ)).2.1), rfl⟩
        refine wpG_cons (gcall 41 #[.int .u64 x.pc] fun w_ hJ hd => ?_) ?_
        · have e5 : vals 5 = _ := hd 5 (by decide) (by kernel_rfl)
          rw [e5]
          exact ⟨by kernel_rfl, by kernel_rfl, (unhide hrow w_).mono fun e w' ⟨hr, hw⟩ => ⟨_, hr, by rw [hw]; exact hJ, trivial, rfl⟩⟩
        refine wpG_cons (gop (Instr.indexAt 58 (.slice (some ⟨gi, oi, none⟩) 16 ci) (.int .i64 (rx : Nat))) (.pointer (some ⟨gi, oi + rx, none⟩)) (fun _ => trivial) fun w_ hJ hd => ?_) wpG_nil
        · have e3 : vals 3 = _ := hd 3 (by decide) (by kernel_rfl)
          have e6 : vals 6 = _ := hd 6 (by decide) (by kernel_rfl)
          rw [e3, e6]
          exact ⟨by kernel_rfl, by kernel_rfl, (run_ixat 58 4 1 Try.underlying58 (by kernel_rfl) _ _ _ _ _ hr16 w_).trans (by rw [Nat.mul_one]), rfl⟩
      · intro vals w_ hJ hf
        have e0 : vals 0 = _ := hf 0 (by decide)
        have e1 : vals 1 = _ := hf 1 (by decide)
        have e2 : vals 2 = _ := hf 2 (by decide)
        have e3 : vals 3 = _ := hf 3 (by decide)
        have e4 : vals 4 = _ := hf 4 (by decide)
        have e5 : vals 5 = _ := hf 5 (by decide)
        have e6 : vals 6 = _ := hf 6 (by decide)
        have e7 : vals 7 = _ := hf 7 (by decide)
        show Oper.wp _ _ (fillG vals 0 (_ :: _ :: _ :: _ :: _ :: _ :: _ :: _ :: []) _) _ _ _
        simp only [fillG, Nat.zero_add, Nat.reduceAdd, e0, e1, e2, e3, e4, e5, e6, e7, Act.put, List.setIfInBounds_toArray, List.set_cons_succ, List.set_cons_zero]
        clear e0 e1 e2 e3 e4 e5 e6 e7 hf
        refine wp_last_skip (w' := w_.setCell ⟨gi, oi + rx, none⟩ (.bool true)) (m := Instr.storeAt 4 (.pointer (some ⟨gi, oi + rx, none⟩)) (.bool true)) (by kernel_rfl) (run_store1 (by kernel_rfl) rfl rfl (((Heap.f6 hJ).slw.at_ (j := rx) (by omega)).2.1.trans (hB_get _ hr16)) ((Heap.f6 hJ).slw.at_ (j := rx) (by omega)).2.2) ?_
        first | show Exit.then _ _ Exit.normal (Act.put ⟨_, _⟩ none _) _ | show Exit.inBlock _ _ Exit.normal (Act.put ⟨_, _⟩ none _) _ | skip
        simp only [Act.put]
        have HC1 : Heap w0 (w_.setCell ⟨gi, oi + rx, none⟩ (.bool true)) (HP.blk ky #[.int .i64 x.tag, .int .u64 x.pc, .bool x.store, .bool x.placed, .bool x.data, .bool x.read, .int .u64 x.at_, .int .i64 x.size, .int .u64 x.v] 84 :: HP.slw (.slice A2 m cap2) 1 m (ints s.out) :: HP.blk b #[.slice (some ⟨g, o, none⟩) len cap, .slice (some ⟨gh, oh, none⟩) 16 ch, .slice (some ⟨gi, oi, none⟩) 16 ci] 72 :: HP.slw (.slice (some ⟨g, o, none⟩) len cap) 9 len (entsC (s.l.set k { x with read := false })) :: HP.slw (.slice (some ⟨gh, oh, none⟩) 16 ch) 1 16 (hU (setH s.h rx (p.pc, true))) :: HP.slw (.slice (some ⟨gi, oi, none⟩) 16 ci) 1 16 (hB (setH s.h rx (p.pc, true))) :: L) := by have h1 := (Heap.f6 hJ).write (j := rx) (by omega) (.bool true); rw [hB_set _ hr16 p.pc true] at h1; exact Heap.b6_ h1
        generalize w_.setCell ⟨gi, oi + rx, none⟩ (.bool true) = wHC1 at HC1 ⊢
        clear hJ
        clear HB1
        obtain ⟨i0, hi, hz0, hz1, hz2⟩ := info_parts info3
        have n0 := (cells9r (e := x) (Heap.heap HC1)).1
        have hyl := lt_of_heap' (Heap.heap HC1)
        have HC := hide HC1.f2
        clear HC1 HA
        go_wp2_with (at_builtin; refine wpList_append_sl (n := m) (m := 1) rfl _ _ 32 rfl 3 i0 _ 1 8 Try.underlying32 hi hz0 hz1 hz2 rfl rfl rfl ((unhide HC).slw.alloc _) (Sl.single _ 3 (.int .i64 x.tag) (by simp)) (by simp; rfl) (by omega) (by omega) ?_; intro v' w7 hsl hgr hblk hsp; obtain ⟨A3, cap3, rfl, _⟩ := hsl.parts; have hA := ((unhide HC).alloc _).appendw hsl hgr hblk; clear n0 hyl hsl hgr hblk hsp; have HF := hide hA.f2.tail; clear hA)
        have hl9 : (s.out ++ [x.tag]).length = m + 1 := by rw [List.length_append, unhide Hm]; rfl
        have Hl9 := hide hl9
        clear hl9
        have e12 : (k : Int) + 1 = ((k + 1 : Nat) : Int) := rfl
        try rw [e12]
        refine ⟨⟨k + 1, ⟨s.l.set k { x with read := false }, setH s.h (rowN x.pc) (p.pc, true), s.out ++ [x.tag]⟩, A3, cap3, ⟨by have := (unhide HR).k1; omega, by omega, by show (s.out ++ [x.tag]).length ≤ _; rw [unhide Hl9]; omega, by rw [unhide Hst, unhide HS2], by show (s.l.set k _).length = _; rw [List.length_set]; exact (unhide HR).sl, unhide HSN, ?_, ?_⟩, ?_⟩, by simp [WmuO_, intOf]; omega⟩
        · have h1 := (unhide HR).qi.set (e' := { x with read := false }) (unhide HX) rfl rfl (unhide Hxo).unread
          refine ⟨h1.ok, h1.up, h1.ld, h1.st, fun j => ?_⟩
          have h3 := h1.hb j
          dsimp only [setH]
          split
          · exact hpc
          · exact h3
        · show Heap w0 _ (HP.slw (.slice A3 (s.out ++ [x.tag]).length cap3) 1 (s.out ++ [x.tag]).length (ints (s.out ++ [x.tag])) :: OR b (some ⟨g, o, none⟩) cap gh oh ch gi oi ci ⟨s.l.set k { x with read := false }, setH s.h (rowN x.pc) (p.pc, true)⟩ L)
          rw [unhide Hl9, show ints (s.out ++ [x.tag]) = ints s.out ++ [.int .i64 x.tag] by simp [ints], unhide Hrx]
          unfold OR
          dsimp only
          rw [List.length_set, (unhide HR).sl]
          exact unhide HF
        · unfold FRWO
          dsimp only
          rw [unhide Hl9]
          refine ⟨_, _, _, _, _, _, _, _, _, _, _, _, _, _, _, _, _, _, _, _, _, _, _, _, _, _, _, _, _, _, _, _, _, _, _, _, _, _, _, _, _, _, _, _, _, _, _, _, _, _, _, _, _, _, _, _, _, _, _, _, _, _, _, _, _, _, _, _, _, _, _, _, _, _, _, _, _, _, _, _, _, _, _, _, _, _, rfl⟩
end Go.Proofs.Ytdmkgomcomcfhaa
