/- Layer 3: an instruction of its cells. -/
import Derived.Test.YtopbdiekfhikmaaM3
namespace Go.Proofs.Ytopbdiekfhikmaa
open Go.RowKit
theorem fits_ins_of {cs : Array Value} (h : Fits [.some .i64, .some .i64, .some .i64, .some .i64, .some .i64, .some .i64, .some .i64, .some .i64, .some .i64, .none, .none, .none] cs.toList) : ∃ x : Ins, WFI x ∧ cs = insA x := by
  obtain ⟨l⟩ := cs
  simp only at h
  obtain ⟨vk, tk, ek, ⟨k, hk, wk⟩, fk⟩ := fits_c h
  obtain ⟨vrd, trd, erd, ⟨rd, hrd, wrd⟩, frd⟩ := fits_c fk
  obtain ⟨vr1, tr1, er1, ⟨r1, hr1, wr1⟩, fr1⟩ := fits_c frd
  obtain ⟨vr2, tr2, er2, ⟨r2, hr2, wr2⟩, fr2⟩ := fits_c fr1
  obtain ⟨vr3, tr3, er3, ⟨r3, hr3, wr3⟩, fr3⟩ := fits_c fr2
  obtain ⟨vrm, trm, erm, ⟨rm, hrm, wrm⟩, frm⟩ := fits_c fr3
  obtain ⟨vc, tc, ec, ⟨c, hc, wc⟩, fc⟩ := fits_c frm
  obtain ⟨vsz, tsz, esz, ⟨sz, hsz, wsz⟩, fsz⟩ := fits_c fc
  obtain ⟨vi, ti, ei, ⟨i, hi, wi⟩, fi⟩ := fits_c fsz
  obtain ⟨vui, tui, eui, ⟨ui, hui⟩, fui⟩ := fits_c fi
  obtain ⟨vus, tus, eus, ⟨us, hus⟩, fus⟩ := fits_c fui
  obtain ⟨vwd, twd, ewd, ⟨wd, hwd⟩, fwd⟩ := fits_c fus
  have ez := fits_n fwd
  refine ⟨⟨k, rd, r1, r2, r3, rm, c, sz, i, ui, us, wd⟩, ⟨wk, wrd, wr1, wr2, wr3, wrm, wc, wsz, wi⟩, ?_⟩
  rw [ek, erd, er1, er2, er3, erm, ec, esz, ei, eui, eus, ewd, ez, hk, hrd, hr1, hr2, hr3, hrm, hc, hsz, hi, hui, hus, hwd]
  rfl
end Go.Proofs.Ytopbdiekfhikmaa
