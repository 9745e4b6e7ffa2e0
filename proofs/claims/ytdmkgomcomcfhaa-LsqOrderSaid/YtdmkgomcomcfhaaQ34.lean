/- Layer 23: LsqOrder: a round of the pass, the whole pass. -/
import Derived.Test.YtdmkgomcomcfhaaQ27
import Derived.Test.YtdmkgomcomcfhaaQ29
import Derived.Test.YtdmkgomcomcfhaaQ30
import Derived.Test.YtdmkgomcomcfhaaQ31
import Derived.Test.YtdmkgomcomcfhaaQ32
import Derived.Test.YtdmkgomcomcfhaaQ33
namespace Go.Proofs.Ytdmkgomcomcfhaa
open Go.RowKit
variable {W : World} {Y : Nat → OpS} {P : Nat → Int} {A A2 AO : Option Addr} {n cap p cap2 capO b kw kp km kg kh : Nat}

set_option maxRecDepth 1000000 in
set_option maxHeartbeats 8000000 in
theorem roundO (hY : ∀ i, i < n → YOk (Y i)) (hn : n ≤ 4398046511104) (hp : p ≤ 17592186044416) (hP : PkO W A2 p P) (Q0 : Exit → Act → World → Prop) (c2 c3 c9 c10 c33 c34 c35 c36 c37 c38 c39 c40 c41 c42 c43 c44 c45 c46 c47 c48 c49 c50 c51 c52 c53 c54 c55 c56 c57 c58 c59 c60 c61 c62 c63 c64 c65 c66 c67 c68 c69 c70 c71 c72 c73 c74 c75 c76 c77 c78 c79 c349 c350 c351 c352 c353 c354 c355 c356 c357 c358 : Value) (hexit : ∀ a' w'', WXO W Y c2 c3 c9 c10 c33 c34 c35 c36 c37 c38 c39 c40 c41 c42 c43 c44 c45 c46 c47 c48 c49 c50 c51 c52 c53 c54 c55 c56 c57 c58 c59 c60 c61 c62 c63 c64 c65 c66 c67 c68 c69 c70 c71 c72 c73 c74 c75 c76 c77 c78 c79 c349 c350 c351 c352 c353 c354 c355 c356 c357 c358 A A2 AO n cap p cap2 capO b kw kp km kg kh a' w'' → Q0 (.exit 2) a' w'') {a : Act} {wr : World} (hI : WIO W Y c2 c3 c9 c10 c33 c34 c35 c36 c37 c38 c39 c40 c41 c42 c43 c44 c45 c46 c47 c48 c49 c50 c51 c52 c53 c54 c55 c56 c57 c58 c59 c60 c61 c62 c63 c64 c65 c66 c67 c68 c69 c70 c71 c72 c73 c74 c75 c76 c77 c78 c79 c349 c350 c351 c352 c353 c354 c355 c356 c357 c358 A A2 AO n cap p cap2 capO b kw kp km kg kh a wr) :
    Code.wp Try.prog bodyO (Exit.then (fun a' w'' => WIO W Y c2 c3 c9 c10 c33 c34 c35 c36 c37 c38 c39 c40 c41 c42 c43 c44 c45 c46 c47 c48 c49 c50 c51 c52 c53 c54 c55 c56 c57 c58 c59 c60 c61 c62 c63 c64 c65 c66 c67 c68 c69 c70 c71 c72 c73 c74 c75 c76 c77 c78 c79 c349 c350 c351 c352 c353 c354 c355 c356 c357 c358 A A2 AO n cap p cap2 capO b kw kp km kg kh a' w'' ∧ WmuO (p + 12 * n) a' w'' < WmuO (p + 12 * n) a wr) Q0) a wr := by
  obtain ⟨k, s, hR, hF⟩ := hI
  unfold FRO at hF
  obtain ⟨u4, hF⟩ := hF
  obtain ⟨u18, hF⟩ := hF
  obtain ⟨u19, hF⟩ := hF
  obtain ⟨u20, hF⟩ := hF
  obtain ⟨u21, hF⟩ := hF
  obtain ⟨u22, hF⟩ := hF
  obtain ⟨u23, hF⟩ := hF
  obtain ⟨u24, hF⟩ := hF
  obtain ⟨u25, hF⟩ := hF
  obtain ⟨u26, hF⟩ := hF
  obtain ⟨u27, hF⟩ := hF
  obtain ⟨u28, hF⟩ := hF
  obtain ⟨u29, hF⟩ := hF
  obtain ⟨u30, hF⟩ := hF
  obtain ⟨u31, hF⟩ := hF
  obtain ⟨u32, hF⟩ := hF
  obtain ⟨u80, hF⟩ := hF
  obtain ⟨u81, hF⟩ := hF
  obtain ⟨u82, hF⟩ := hF
  obtain ⟨u83, hF⟩ := hF
  obtain ⟨u84, hF⟩ := hF
  obtain ⟨u85, hF⟩ := hF
  obtain ⟨u86, hF⟩ := hF
  obtain ⟨u87, hF⟩ := hF
  obtain ⟨u88, hF⟩ := hF
  obtain ⟨u89, hF⟩ := hF
  obtain ⟨u90, hF⟩ := hF
  obtain ⟨u91, hF⟩ := hF
  obtain ⟨u92, hF⟩ := hF
  obtain ⟨u93, hF⟩ := hF
  obtain ⟨u94, hF⟩ := hF
  obtain ⟨u95, hF⟩ := hF
  obtain ⟨u96, hF⟩ := hF
  obtain ⟨u97, hF⟩ := hF
  obtain ⟨u98, hF⟩ := hF
  obtain ⟨u99, hF⟩ := hF
  obtain ⟨u100, hF⟩ := hF
  obtain ⟨u101, hF⟩ := hF
  obtain ⟨u102, hF⟩ := hF
  obtain ⟨u103, hF⟩ := hF
  obtain ⟨u104, hF⟩ := hF
  obtain ⟨u105, hF⟩ := hF
  obtain ⟨u106, hF⟩ := hF
  obtain ⟨u107, hF⟩ := hF
  obtain ⟨u108, hF⟩ := hF
  obtain ⟨u109, hF⟩ := hF
  obtain ⟨u110, hF⟩ := hF
  obtain ⟨u111, hF⟩ := hF
  obtain ⟨u112, hF⟩ := hF
  obtain ⟨u113, hF⟩ := hF
  obtain ⟨u114, hF⟩ := hF
  obtain ⟨u115, hF⟩ := hF
  obtain ⟨u116, hF⟩ := hF
  obtain ⟨u117, hF⟩ := hF
  obtain ⟨u118, hF⟩ := hF
  obtain ⟨u119, hF⟩ := hF
  obtain ⟨u120, hF⟩ := hF
  obtain ⟨u121, hF⟩ := hF
  obtain ⟨u122, hF⟩ := hF
  obtain ⟨u123, hF⟩ := hF
  obtain ⟨u124, hF⟩ := hF
  obtain ⟨u125, hF⟩ := hF
  obtain ⟨u126, hF⟩ := hF
  obtain ⟨u127, hF⟩ := hF
  obtain ⟨u128, hF⟩ := hF
  obtain ⟨u129, hF⟩ := hF
  obtain ⟨u130, hF⟩ := hF
  obtain ⟨u131, hF⟩ := hF
  obtain ⟨u132, hF⟩ := hF
  obtain ⟨u133, hF⟩ := hF
  obtain ⟨u134, hF⟩ := hF
  obtain ⟨u135, hF⟩ := hF
  obtain ⟨u136, hF⟩ := hF
  obtain ⟨u137, hF⟩ := hF
  obtain ⟨u138, hF⟩ := hF
  obtain ⟨u139, hF⟩ := hF
  obtain ⟨u140, hF⟩ := hF
  obtain ⟨u141, hF⟩ := hF
  obtain ⟨u142, hF⟩ := hF
  obtain ⟨u143, hF⟩ := hF
  obtain ⟨u144, hF⟩ := hF
  obtain ⟨u145, hF⟩ := hF
  obtain ⟨u146, hF⟩ := hF
  obtain ⟨u147, hF⟩ := hF
  obtain ⟨u148, hF⟩ := hF
  obtain ⟨u149, hF⟩ := hF
  obtain ⟨u150, hF⟩ := hF
  obtain ⟨u151, hF⟩ := hF
  obtain ⟨u152, hF⟩ := hF
  obtain ⟨u153, hF⟩ := hF
  obtain ⟨u154, hF⟩ := hF
  obtain ⟨u155, hF⟩ := hF
  obtain ⟨u156, hF⟩ := hF
  obtain ⟨u157, hF⟩ := hF
  obtain ⟨u158, hF⟩ := hF
  obtain ⟨u159, hF⟩ := hF
  obtain ⟨u160, hF⟩ := hF
  obtain ⟨u161, hF⟩ := hF
  obtain ⟨u162, hF⟩ := hF
  obtain ⟨u163, hF⟩ := hF
  obtain ⟨u164, hF⟩ := hF
  obtain ⟨u165, hF⟩ := hF
  obtain ⟨u166, hF⟩ := hF
  obtain ⟨u167, hF⟩ := hF
  obtain ⟨u168, hF⟩ := hF
  obtain ⟨u169, hF⟩ := hF
  obtain ⟨u170, hF⟩ := hF
  obtain ⟨u171, hF⟩ := hF
  obtain ⟨u172, hF⟩ := hF
  obtain ⟨u173, hF⟩ := hF
  obtain ⟨u174, hF⟩ := hF
  obtain ⟨u175, hF⟩ := hF
  obtain ⟨u176, hF⟩ := hF
  obtain ⟨u177, hF⟩ := hF
  obtain ⟨u178, hF⟩ := hF
  obtain ⟨u179, hF⟩ := hF
  obtain ⟨u180, hF⟩ := hF
  obtain ⟨u181, hF⟩ := hF
  obtain ⟨u182, hF⟩ := hF
  obtain ⟨u183, hF⟩ := hF
  obtain ⟨u184, hF⟩ := hF
  obtain ⟨u185, hF⟩ := hF
  obtain ⟨u186, hF⟩ := hF
  obtain ⟨u187, hF⟩ := hF
  obtain ⟨u188, hF⟩ := hF
  obtain ⟨u189, hF⟩ := hF
  obtain ⟨u190, hF⟩ := hF
  obtain ⟨u191, hF⟩ := hF
  obtain ⟨u192, hF⟩ := hF
  obtain ⟨u193, hF⟩ := hF
  obtain ⟨u194, hF⟩ := hF
  obtain ⟨u195, hF⟩ := hF
  obtain ⟨u196, hF⟩ := hF
  obtain ⟨u197, hF⟩ := hF
  obtain ⟨u198, hF⟩ := hF
  obtain ⟨u199, hF⟩ := hF
  obtain ⟨u200, hF⟩ := hF
  obtain ⟨u201, hF⟩ := hF
  obtain ⟨u202, hF⟩ := hF
  obtain ⟨u203, hF⟩ := hF
  obtain ⟨u204, hF⟩ := hF
  obtain ⟨u205, hF⟩ := hF
  obtain ⟨u206, hF⟩ := hF
  obtain ⟨u207, hF⟩ := hF
  obtain ⟨u208, hF⟩ := hF
  obtain ⟨u209, hF⟩ := hF
  obtain ⟨u210, hF⟩ := hF
  obtain ⟨u211, hF⟩ := hF
  obtain ⟨u212, hF⟩ := hF
  obtain ⟨u213, hF⟩ := hF
  obtain ⟨u214, hF⟩ := hF
  obtain ⟨u215, hF⟩ := hF
  obtain ⟨u216, hF⟩ := hF
  obtain ⟨u217, hF⟩ := hF
  obtain ⟨u218, hF⟩ := hF
  obtain ⟨u219, hF⟩ := hF
  obtain ⟨u220, hF⟩ := hF
  obtain ⟨u221, hF⟩ := hF
  obtain ⟨u222, hF⟩ := hF
  obtain ⟨u223, hF⟩ := hF
  obtain ⟨u224, hF⟩ := hF
  obtain ⟨u225, hF⟩ := hF
  obtain ⟨u226, hF⟩ := hF
  obtain ⟨u227, hF⟩ := hF
  obtain ⟨u228, hF⟩ := hF
  obtain ⟨u229, hF⟩ := hF
  obtain ⟨u230, hF⟩ := hF
  obtain ⟨u231, hF⟩ := hF
  obtain ⟨u232, hF⟩ := hF
  obtain ⟨u233, hF⟩ := hF
  obtain ⟨u234, hF⟩ := hF
  obtain ⟨u235, hF⟩ := hF
  obtain ⟨u236, hF⟩ := hF
  obtain ⟨u237, hF⟩ := hF
  obtain ⟨u238, hF⟩ := hF
  obtain ⟨u239, hF⟩ := hF
  obtain ⟨u240, hF⟩ := hF
  obtain ⟨u241, hF⟩ := hF
  obtain ⟨u242, hF⟩ := hF
  obtain ⟨u243, hF⟩ := hF
  obtain ⟨u244, hF⟩ := hF
  obtain ⟨u245, hF⟩ := hF
  obtain ⟨u246, hF⟩ := hF
  obtain ⟨u247, hF⟩ := hF
  obtain ⟨u248, hF⟩ := hF
  obtain ⟨u249, hF⟩ := hF
  obtain ⟨u250, hF⟩ := hF
  obtain ⟨u251, hF⟩ := hF
  obtain ⟨u252, hF⟩ := hF
  obtain ⟨u253, hF⟩ := hF
  obtain ⟨u254, hF⟩ := hF
  obtain ⟨u255, hF⟩ := hF
  obtain ⟨u256, hF⟩ := hF
  obtain ⟨u257, hF⟩ := hF
  obtain ⟨u258, hF⟩ := hF
  obtain ⟨u259, hF⟩ := hF
  obtain ⟨u260, hF⟩ := hF
  obtain ⟨u261, hF⟩ := hF
  obtain ⟨u262, hF⟩ := hF
  obtain ⟨u263, hF⟩ := hF
  obtain ⟨u264, hF⟩ := hF
  obtain ⟨u265, hF⟩ := hF
  obtain ⟨u266, hF⟩ := hF
  obtain ⟨u267, hF⟩ := hF
  obtain ⟨u268, hF⟩ := hF
  obtain ⟨u269, hF⟩ := hF
  obtain ⟨u270, hF⟩ := hF
  obtain ⟨u271, hF⟩ := hF
  obtain ⟨u272, hF⟩ := hF
  obtain ⟨u273, hF⟩ := hF
  obtain ⟨u274, hF⟩ := hF
  obtain ⟨u275, hF⟩ := hF
  obtain ⟨u276, hF⟩ := hF
  obtain ⟨u277, hF⟩ := hF
  obtain ⟨u278, hF⟩ := hF
  obtain ⟨u279, hF⟩ := hF
  obtain ⟨u280, hF⟩ := hF
  obtain ⟨u281, hF⟩ := hF
  obtain ⟨u282, hF⟩ := hF
  obtain ⟨u283, hF⟩ := hF
  obtain ⟨u284, hF⟩ := hF
  obtain ⟨u285, hF⟩ := hF
  obtain ⟨u286, hF⟩ := hF
  obtain ⟨u287, hF⟩ := hF
  obtain ⟨u288, hF⟩ := hF
  obtain ⟨u289, hF⟩ := hF
  obtain ⟨u290, hF⟩ := hF
  obtain ⟨u291, hF⟩ := hF
  obtain ⟨u292, hF⟩ := hF
  obtain ⟨u293, hF⟩ := hF
  obtain ⟨u294, hF⟩ := hF
  obtain ⟨u295, hF⟩ := hF
  obtain ⟨u296, hF⟩ := hF
  obtain ⟨u297, hF⟩ := hF
  obtain ⟨u298, hF⟩ := hF
  obtain ⟨u299, hF⟩ := hF
  obtain ⟨u300, hF⟩ := hF
  obtain ⟨u301, hF⟩ := hF
  obtain ⟨u302, hF⟩ := hF
  obtain ⟨u303, hF⟩ := hF
  obtain ⟨u304, hF⟩ := hF
  obtain ⟨u305, hF⟩ := hF
  obtain ⟨u306, hF⟩ := hF
  obtain ⟨u307, hF⟩ := hF
  obtain ⟨u308, hF⟩ := hF
  obtain ⟨u309, hF⟩ := hF
  obtain ⟨u310, hF⟩ := hF
  obtain ⟨u311, hF⟩ := hF
  obtain ⟨u312, hF⟩ := hF
  obtain ⟨u313, hF⟩ := hF
  obtain ⟨u314, hF⟩ := hF
  obtain ⟨u315, hF⟩ := hF
  obtain ⟨u316, hF⟩ := hF
  obtain ⟨u317, hF⟩ := hF
  obtain ⟨u318, hF⟩ := hF
  obtain ⟨u319, hF⟩ := hF
  obtain ⟨u320, hF⟩ := hF
  obtain ⟨u321, hF⟩ := hF
  obtain ⟨u322, hF⟩ := hF
  obtain ⟨u323, hF⟩ := hF
  obtain ⟨u324, hF⟩ := hF
  obtain ⟨u325, hF⟩ := hF
  obtain ⟨u326, hF⟩ := hF
  obtain ⟨u327, hF⟩ := hF
  obtain ⟨u328, hF⟩ := hF
  obtain ⟨u329, hF⟩ := hF
  obtain ⟨u330, hF⟩ := hF
  obtain ⟨u331, hF⟩ := hF
  obtain ⟨u332, hF⟩ := hF
  obtain ⟨u333, hF⟩ := hF
  obtain ⟨u334, hF⟩ := hF
  obtain ⟨u335, hF⟩ := hF
  obtain ⟨u336, hF⟩ := hF
  obtain ⟨u337, hF⟩ := hF
  obtain ⟨u338, hF⟩ := hF
  obtain ⟨u339, hF⟩ := hF
  obtain ⟨u340, hF⟩ := hF
  obtain ⟨u341, hF⟩ := hF
  obtain ⟨u342, hF⟩ := hF
  obtain ⟨u343, hF⟩ := hF
  obtain ⟨u344, hF⟩ := hF
  obtain ⟨u345, hF⟩ := hF
  obtain ⟨u346, hF⟩ := hF
  obtain ⟨u347, hF⟩ := hF
  obtain ⟨u348, hF⟩ := hF
  subst hF
  by_cases hk : k < p + 12 * n
  · have hfn := hR.inv.fn
    by_cases h1 : actN P p s k = 0 ∧ s.next < n
    · exact case_come hY hn hp hP hR hk rfl h1.1 h1.2 Q0 _ _ _ _ _ _ _ _ _ _ _ _ _ _ _ _ _ _ _ _ _ _ _ _ _ _ _ _ _ _ _ _ _ _ _ _ _ _ _ _ _ _ _ _ _ _ _ _ _ _ _ _ _ _ _ _ _ _ _ _ _ _ _ _ _ _ _ _ _ _ _ _ _ _ _ _ _ _ _ _ _ _ _ _ _ _ _ _ _ _ _ _ _ _ _ _ _ _ _ _ _ _ _ _ _ _ _ _ _ _ _ _ _ _ _ _ _ _ _ _ _ _ _ _ _ _ _ _ _ _ _ _ _ _ _ _ _ _ _ _ _ _ _ _ _ _ _ _ _ _ _ _ _ _ _ _ _ _ _ _ _ _ _ _ _ _ _ _ _ _ _ _ _ _ _ _ _ _ _ _ _ _ _ _ _ _ _ _ _ _ _ _ _ _ _ _ _ _ _ _ _ _ _ _ _ _ _ _ _ _ _ _ _ _ _ _ _ _ _ _ _ _ _ _ _ _ _ _ _ _ _ _ _ _ _ _ _ _ _ _ _ _ _ _ _ _ _ _ _ _ _ _ _ _ _ _ _ _ _ _ _ _ _ _ _ _ _ _ _ _ _ _ _ _ _ _ _ _ _ _ _ _ _ _ _ _ _ _ _ _ _ _ _ _ _ _ _ _ _ _ _ _ _ _ _ _ _ _ _ _ _ _ _ _ _ _ _ _ _ _ _ _ _ _ _ _ _ _ _ _ _ _ _ _ _ _ _ _ _ _ _ _ _ _ _ _
    · by_cases h2 : s.first = s.next
      · exact case_skip hY hn hp hP hR hk rfl h2 h1 Q0 _ _ _ _ _ _ _ _ _ _ _ _ _ _ _ _ _ _ _ _ _ _ _ _ _ _ _ _ _ _ _ _ _ _ _ _ _ _ _ _ _ _ _ _ _ _ _ _ _ _ _ _ _ _ _ _ _ _ _ _ _ _ _ _ _ _ _ _ _ _ _ _ _ _ _ _ _ _ _ _ _ _ _ _ _ _ _ _ _ _ _ _ _ _ _ _ _ _ _ _ _ _ _ _ _ _ _ _ _ _ _ _ _ _ _ _ _ _ _ _ _ _ _ _ _ _ _ _ _ _ _ _ _ _ _ _ _ _ _ _ _ _ _ _ _ _ _ _ _ _ _ _ _ _ _ _ _ _ _ _ _ _ _ _ _ _ _ _ _ _ _ _ _ _ _ _ _ _ _ _ _ _ _ _ _ _ _ _ _ _ _ _ _ _ _ _ _ _ _ _ _ _ _ _ _ _ _ _ _ _ _ _ _ _ _ _ _ _ _ _ _ _ _ _ _ _ _ _ _ _ _ _ _ _ _ _ _ _ _ _ _ _ _ _ _ _ _ _ _ _ _ _ _ _ _ _ _ _ _ _ _ _ _ _ _ _ _ _ _ _ _ _ _ _ _ _ _ _ _ _ _ _ _ _ _ _ _ _ _ _ _ _ _ _ _ _ _ _ _ _ _ _ _ _ _ _ _ _ _ _ _ _ _ _ _ _ _ _ _ _ _ _ _ _ _ _ _ _ _ _ _ _ _ _ _ _ _ _ _ _ _ _ _ _ _ _
      · have hlt : s.first < s.next := by omega
        have h6 := actN_lt P p s k
        have hc : actN P p s k = 0 ∨ actN P p s k = 1 ∨ actN P p s k = 2 ∨ actN P p s k = 3 ∨ actN P p s k = 4 ∨ actN P p s k = 5 := by omega
        rcases hc with hc | hc | hc | hc | hc | hc
        · exact case_pop hY hn hp hP hR hk rfl (.inl ⟨hc, fun h => h1 ⟨hc, h⟩⟩) hlt Q0 _ _ _ _ _ _ _ _ _ _ _ _ _ _ _ _ _ _ _ _ _ _ _ _ _ _ _ _ _ _ _ _ _ _ _ _ _ _ _ _ _ _ _ _ _ _ _ _ _ _ _ _ _ _ _ _ _ _ _ _ _ _ _ _ _ _ _ _ _ _ _ _ _ _ _ _ _ _ _ _ _ _ _ _ _ _ _ _ _ _ _ _ _ _ _ _ _ _ _ _ _ _ _ _ _ _ _ _ _ _ _ _ _ _ _ _ _ _ _ _ _ _ _ _ _ _ _ _ _ _ _ _ _ _ _ _ _ _ _ _ _ _ _ _ _ _ _ _ _ _ _ _ _ _ _ _ _ _ _ _ _ _ _ _ _ _ _ _ _ _ _ _ _ _ _ _ _ _ _ _ _ _ _ _ _ _ _ _ _ _ _ _ _ _ _ _ _ _ _ _ _ _ _ _ _ _ _ _ _ _ _ _ _ _ _ _ _ _ _ _ _ _ _ _ _ _ _ _ _ _ _ _ _ _ _ _ _ _ _ _ _ _ _ _ _ _ _ _ _ _ _ _ _ _ _ _ _ _ _ _ _ _ _ _ _ _ _ _ _ _ _ _ _ _ _ _ _ _ _ _ _ _ _ _ _ _ _ _ _ _ _ _ _ _ _ _ _ _ _ _ _ _ _ _ _ _ _ _ _ _ _ _ _ _ _ _ _ _ _ _ _ _ _ _ _ _ _ _ _ _ _ _ _ _ _ _ _ _ _ _ _ _ _ _ _ _
        · exact case_where hY hn hp hP hR hk rfl hc hlt Q0 _ _ _ _ _ _ _ _ _ _ _ _ _ _ _ _ _ _ _ _ _ _ _ _ _ _ _ _ _ _ _ _ _ _ _ _ _ _ _ _ _ _ _ _ _ _ _ _ _ _ _ _ _ _ _ _ _ _ _ _ _ _ _ _ _ _ _ _ _ _ _ _ _ _ _ _ _ _ _ _ _ _ _ _ _ _ _ _ _ _ _ _ _ _ _ _ _ _ _ _ _ _ _ _ _ _ _ _ _ _ _ _ _ _ _ _ _ _ _ _ _ _ _ _ _ _ _ _ _ _ _ _ _ _ _ _ _ _ _ _ _ _ _ _ _ _ _ _ _ _ _ _ _ _ _ _ _ _ _ _ _ _ _ _ _ _ _ _ _ _ _ _ _ _ _ _ _ _ _ _ _ _ _ _ _ _ _ _ _ _ _ _ _ _ _ _ _ _ _ _ _ _ _ _ _ _ _ _ _ _ _ _ _ _ _ _ _ _ _ _ _ _ _ _ _ _ _ _ _ _ _ _ _ _ _ _ _ _ _ _ _ _ _ _ _ _ _ _ _ _ _ _ _ _ _ _ _ _ _ _ _ _ _ _ _ _ _ _ _ _ _ _ _ _ _ _ _ _ _ _ _ _ _ _ _ _ _ _ _ _ _ _ _ _ _ _ _ _ _ _ _ _ _ _ _ _ _ _ _ _ _ _ _ _ _ _ _ _ _ _ _ _ _ _ _ _ _ _ _ _ _ _ _ _ _ _ _ _ _ _ _ _ _ _ _ _
        · exact case_data hY hn hp hP hR hk rfl hc hlt Q0 _ _ _ _ _ _ _ _ _ _ _ _ _ _ _ _ _ _ _ _ _ _ _ _ _ _ _ _ _ _ _ _ _ _ _ _ _ _ _ _ _ _ _ _ _ _ _ _ _ _ _ _ _ _ _ _ _ _ _ _ _ _ _ _ _ _ _ _ _ _ _ _ _ _ _ _ _ _ _ _ _ _ _ _ _ _ _ _ _ _ _ _ _ _ _ _ _ _ _ _ _ _ _ _ _ _ _ _ _ _ _ _ _ _ _ _ _ _ _ _ _ _ _ _ _ _ _ _ _ _ _ _ _ _ _ _ _ _ _ _ _ _ _ _ _ _ _ _ _ _ _ _ _ _ _ _ _ _ _ _ _ _ _ _ _ _ _ _ _ _ _ _ _ _ _ _ _ _ _ _ _ _ _ _ _ _ _ _ _ _ _ _ _ _ _ _ _ _ _ _ _ _ _ _ _ _ _ _ _ _ _ _ _ _ _ _ _ _ _ _ _ _ _ _ _ _ _ _ _ _ _ _ _ _ _ _ _ _ _ _ _ _ _ _ _ _ _ _ _ _ _ _ _ _ _ _ _ _ _ _ _ _ _ _ _ _ _ _ _ _ _ _ _ _ _ _ _ _ _ _ _ _ _ _ _ _ _ _ _ _ _ _ _ _ _ _ _ _ _ _ _ _ _ _ _ _ _ _ _ _ _ _ _ _ _ _ _ _ _ _ _ _ _ _ _ _ _ _ _ _ _ _ _ _ _ _ _ _ _ _ _ _ _ _ _ _
        · exact case_look hY hn hp hP hR hk rfl hc hlt Q0 _ _ _ _ _ _ _ _ _ _ _ _ _ _ _ _ _ _ _ _ _ _ _ _ _ _ _ _ _ _ _ _ _ _ _ _ _ _ _ _ _ _ _ _ _ _ _ _ _ _ _ _ _ _ _ _ _ _ _ _ _ _ _ _ _ _ _ _ _ _ _ _ _ _ _ _ _ _ _ _ _ _ _ _ _ _ _ _ _ _ _ _ _ _ _ _ _ _ _ _ _ _ _ _ _ _ _ _ _ _ _ _ _ _ _ _ _ _ _ _ _ _ _ _ _ _ _ _ _ _ _ _ _ _ _ _ _ _ _ _ _ _ _ _ _ _ _ _ _ _ _ _ _ _ _ _ _ _ _ _ _ _ _ _ _ _ _ _ _ _ _ _ _ _ _ _ _ _ _ _ _ _ _ _ _ _ _ _ _ _ _ _ _ _ _ _ _ _ _ _ _ _ _ _ _ _ _ _ _ _ _ _ _ _ _ _ _ _ _ _ _ _ _ _ _ _ _ _ _ _ _ _ _ _ _ _ _ _ _ _ _ _ _ _ _ _ _ _ _ _ _ _ _ _ _ _ _ _ _ _ _ _ _ _ _ _ _ _ _ _ _ _ _ _ _ _ _ _ _ _ _ _ _ _ _ _ _ _ _ _ _ _ _ _ _ _ _ _ _ _ _ _ _ _ _ _ _ _ _ _ _ _ _ _ _ _ _ _ _ _ _ _ _ _ _ _ _ _ _ _ _ _ _ _ _ _ _ _ _ _ _ _ _ _ _ _
        · exact case_pop hY hn hp hP hR hk rfl (.inr (.inl hc)) hlt Q0 _ _ _ _ _ _ _ _ _ _ _ _ _ _ _ _ _ _ _ _ _ _ _ _ _ _ _ _ _ _ _ _ _ _ _ _ _ _ _ _ _ _ _ _ _ _ _ _ _ _ _ _ _ _ _ _ _ _ _ _ _ _ _ _ _ _ _ _ _ _ _ _ _ _ _ _ _ _ _ _ _ _ _ _ _ _ _ _ _ _ _ _ _ _ _ _ _ _ _ _ _ _ _ _ _ _ _ _ _ _ _ _ _ _ _ _ _ _ _ _ _ _ _ _ _ _ _ _ _ _ _ _ _ _ _ _ _ _ _ _ _ _ _ _ _ _ _ _ _ _ _ _ _ _ _ _ _ _ _ _ _ _ _ _ _ _ _ _ _ _ _ _ _ _ _ _ _ _ _ _ _ _ _ _ _ _ _ _ _ _ _ _ _ _ _ _ _ _ _ _ _ _ _ _ _ _ _ _ _ _ _ _ _ _ _ _ _ _ _ _ _ _ _ _ _ _ _ _ _ _ _ _ _ _ _ _ _ _ _ _ _ _ _ _ _ _ _ _ _ _ _ _ _ _ _ _ _ _ _ _ _ _ _ _ _ _ _ _ _ _ _ _ _ _ _ _ _ _ _ _ _ _ _ _ _ _ _ _ _ _ _ _ _ _ _ _ _ _ _ _ _ _ _ _ _ _ _ _ _ _ _ _ _ _ _ _ _ _ _ _ _ _ _ _ _ _ _ _ _ _ _ _ _ _ _ _ _ _ _ _ _ _ _ _ _ _
        · exact case_pop hY hn hp hP hR hk rfl (.inr (.inr hc)) hlt Q0 _ _ _ _ _ _ _ _ _ _ _ _ _ _ _ _ _ _ _ _ _ _ _ _ _ _ _ _ _ _ _ _ _ _ _ _ _ _ _ _ _ _ _ _ _ _ _ _ _ _ _ _ _ _ _ _ _ _ _ _ _ _ _ _ _ _ _ _ _ _ _ _ _ _ _ _ _ _ _ _ _ _ _ _ _ _ _ _ _ _ _ _ _ _ _ _ _ _ _ _ _ _ _ _ _ _ _ _ _ _ _ _ _ _ _ _ _ _ _ _ _ _ _ _ _ _ _ _ _ _ _ _ _ _ _ _ _ _ _ _ _ _ _ _ _ _ _ _ _ _ _ _ _ _ _ _ _ _ _ _ _ _ _ _ _ _ _ _ _ _ _ _ _ _ _ _ _ _ _ _ _ _ _ _ _ _ _ _ _ _ _ _ _ _ _ _ _ _ _ _ _ _ _ _ _ _ _ _ _ _ _ _ _ _ _ _ _ _ _ _ _ _ _ _ _ _ _ _ _ _ _ _ _ _ _ _ _ _ _ _ _ _ _ _ _ _ _ _ _ _ _ _ _ _ _ _ _ _ _ _ _ _ _ _ _ _ _ _ _ _ _ _ _ _ _ _ _ _ _ _ _ _ _ _ _ _ _ _ _ _ _ _ _ _ _ _ _ _ _ _ _ _ _ _ _ _ _ _ _ _ _ _ _ _ _ _ _ _ _ _ _ _ _ _ _ _ _ _ _ _ _ _ _ _ _ _ _ _ _ _ _ _ _ _ _ _
  · obtain rfl : k = p + 12 * n := by have := hR.le; omega
    have HR := hide hR
    clear hR hP hY
    conv => arg 2; whnf
    go_wp2
    refine ⟨s, unhide HR, ?_⟩
    unfold FRO
    refine ⟨_, _, _, _, _, _, _, _, _, _, _, _, _, _, _, _, _, _, _, _, _, _, _, _, _, _, _, _, _, _, _, _, _, _, _, _, _, _, _, _, _, _, _, _, _, _, _, _, _, _, _, _, _, _, _, _, _, _, _, _, _, _, _, _, _, _, _, _, _, _, _, _, _, _, _, _, _, _, _, _, _, _, _, _, _, _, _, _, _, _, _, _, _, _, _, _, _, _, _, _, _, _, _, _, _, _, _, _, _, _, _, _, _, _, _, _, _, _, _, _, _, _, _, _, _, _, _, _, _, _, _, _, _, _, _, _, _, _, _, _, _, _, _, _, _, _, _, _, _, _, _, _, _, _, _, _, _, _, _, _, _, _, _, _, _, _, _, _, _, _, _, _, _, _, _, _, _, _, _, _, _, _, _, _, _, _, _, _, _, _, _, _, _, _, _, _, _, _, _, _, _, _, _, _, _, _, _, _, _, _, _, _, _, _, _, _, _, _, _, _, _, _, _, _, _, _, _, _, _, _, _, _, _, _, _, _, _, _, _, _, _, _, _, _, _, _, _, _, _, _, _, _, _, _, _, _, _, _, _, _, _, _, _, _, _, _, _, _, _, _, _, _, _, _, _, _, _, _, _, _, _, _, _, _, _, rfl⟩
set_option maxRecDepth 1000000 in
theorem loopO (hY : ∀ i, i < n → YOk (Y i)) (hn : n ≤ 4398046511104) (hp : p ≤ 17592186044416) (hP : PkO W A2 p P) (Q0 : Exit → Act → World → Prop) (c2 c3 c9 c10 c33 c34 c35 c36 c37 c38 c39 c40 c41 c42 c43 c44 c45 c46 c47 c48 c49 c50 c51 c52 c53 c54 c55 c56 c57 c58 c59 c60 c61 c62 c63 c64 c65 c66 c67 c68 c69 c70 c71 c72 c73 c74 c75 c76 c77 c78 c79 c349 c350 c351 c352 c353 c354 c355 c356 c357 c358 : Value) {s : PS} {w' : World} (hR : RelO W Y A A2 AO n cap p cap2 capO b kw kp km kg kh 0 s w') (u4 u18 u19 u20 u21 u22 u23 u24 u25 u26 u27 u28 u29 u30 u31 u32 u80 u81 u82 u83 u84 u85 u86 u87 u88 u89 u90 u91 u92 u93 u94 u95 u96 u97 u98 u99 u100 u101 u102 u103 u104 u105 u106 u107 u108 u109 u110 u111 u112 u113 u114 u115 u116 u117 u118 u119 u120 u121 u122 u123 u124 u125 u126 u127 u128 u129 u130 u131 u132 u133 u134 u135 u136 u137 u138 u139 u140 u141 u142 u143 u144 u145 u146 u147 u148 u149 u150 u151 u152 u153 u154 u155 u156 u157 u158 u159 u160 u161 u162 u163 u164 u165 u166 u167 u168 u169 u170 u171 u172 u173 u174 u175 u176 u177 u178 u179 u180 u181 u182 u183 u184 u185 u186 u187 u188 u189 u190 u191 u192 u193 u194 u195 u196 u197 u198 u199 u200 u201 u202 u203 u204 u205 u206 u207 u208 u209 u210 u211 u212 u213 u214 u215 u216 u217 u218 u219 u220 u221 u222 u223 u224 u225 u226 u227 u228 u229 u230 u231 u232 u233 u234 u235 u236 u237 u238 u239 u240 u241 u242 u243 u244 u245 u246 u247 u248 u249 u250 u251 u252 u253 u254 u255 u256 u257 u258 u259 u260 u261 u262 u263 u264 u265 u266 u267 u268 u269 u270 u271 u272 u273 u274 u275 u276 u277 u278 u279 u280 u281 u282 u283 u284 u285 u286 u287 u288 u289 u290 u291 u292 u293 u294 u295 u296 u297 u298 u299 u300 u301 u302 u303 u304 u305 u306 u307 u308 u309 u310 u311 u312 u313 u314 u315 u316 u317 u318 u319 u320 u321 u322 u323 u324 u325 u326 u327 u328 u329 u330 u331 u332 u333 u334 u335 u336 u337 u338 u339 u340 u341 u342 u343 u344 u345 u346 u347 u348 : Value) (hexit : ∀ a' w'', WXO W Y c2 c3 c9 c10 c33 c34 c35 c36 c37 c38 c39 c40 c41 c42 c43 c44 c45 c46 c47 c48 c49 c50 c51 c52 c53 c54 c55 c56 c57 c58 c59 c60 c61 c62 c63 c64 c65 c66 c67 c68 c69 c70 c71 c72 c73 c74 c75 c76 c77 c78 c79 c349 c350 c351 c352 c353 c354 c355 c356 c357 c358 A A2 AO n cap p cap2 capO b kw kp km kg kh a' w'' → Q0 (.exit 2) a' w'') :
    Code.wp Try.prog (Code.loop bodyO) Q0 ⟨#[.slice A n cap, .slice A2 p cap2, c2, c3, u4, .int .i64 (n : Int), .slice AO n capO, .slice (some ⟨kw, 0, none⟩) n n, .slice (some ⟨kp, 0, none⟩) 64 64, c9, c10, .pointer (some ⟨b, 0, none⟩), .slice (some ⟨km, 0, none⟩) 64 64, .slice (some ⟨kg, 0, none⟩) n n, .slice (some ⟨kh, 0, none⟩) n n, .int .i64 (s.first : Int), .int .i64 (s.next : Int), .int .i64 ((0 : Nat) : Int), u18, u19, u20, u21, u22, u23, u24, u25, u26, u27, u28, u29, u30, u31, u32, c33, c34, c35, c36, c37, c38, c39, c40, c41, c42, c43, c44, c45, c46, c47, c48, c49, c50, c51, c52, c53, c54, c55, c56, c57, c58, c59, c60, c61, c62, c63, c64, c65, c66, c67, c68, c69, c70, c71, c72, c73, c74, c75, c76, c77, c78, c79, u80, u81, u82, u83, u84, u85, u86, u87, u88, u89, u90, u91, u92, u93, u94, u95, u96, u97, u98, u99, u100, u101, u102, u103, u104, u105, u106, u107, u108, u109, u110, u111, u112, u113, u114, u115, u116, u117, u118, u119, u120, u121, u122, u123, u124, u125, u126, u127, u128, u129, u130, u131, u132, u133, u134, u135, u136, u137, u138, u139, u140, u141, u142, u143, u144, u145, u146, u147, u148, u149, u150, u151, u152, u153, u154, u155, u156, u157, u158, u159, u160, u161, u162, u163, u164, u165, u166, u167, u168, u169, u170, u171, u172, u173, u174, u175, u176, u177, u178, u179, u180, u181, u182, u183, u184, u185, u186, u187, u188, u189, u190, u191, u192, u193, u194, u195, u196, u197, u198, u199, u200, u201, u202, u203, u204, u205, u206, u207, u208, u209, u210, u211, u212, u213, u214, u215, u216, u217, u218, u219, u220, u221, u222, u223, u224, u225, u226, u227, u228, u229, u230, u231, u232, u233, u234, u235, u236, u237, u238, u239, u240, u241, u242, u243, u244, u245, u246, u247, u248, u249, u250, u251, u252, u253, u254, u255, u256, u257, u258, u259, u260, u261, u262, u263, u264, u265, u266, u267, u268, u269, u270, u271, u272, u273, u274, u275, u276, u277, u278, u279, u280, u281, u282, u283, u284, u285, u286, u287, u288, u289, u290, u291, u292, u293, u294, u295, u296, u297, u298, u299, u300, u301, u302, u303, u304, u305, u306, u307, u308, u309, u310, u311, u312, u313, u314, u315, u316, u317, u318, u319, u320, u321, u322, u323, u324, u325, u326, u327, u328, u329, u330, u331, u332, u333, u334, u335, u336, u337, u338, u339, u340, u341, u342, u343, u344, u345, u346, u347, u348, c349, c350, c351, c352, c353, c354, c355, c356, c357, c358], []⟩ w' := by
  refine wp_loop (WIO W Y c2 c3 c9 c10 c33 c34 c35 c36 c37 c38 c39 c40 c41 c42 c43 c44 c45 c46 c47 c48 c49 c50 c51 c52 c53 c54 c55 c56 c57 c58 c59 c60 c61 c62 c63 c64 c65 c66 c67 c68 c69 c70 c71 c72 c73 c74 c75 c76 c77 c78 c79 c349 c350 c351 c352 c353 c354 c355 c356 c357 c358 A A2 AO n cap p cap2 capO b kw kp km kg kh) (WmuO (p + 12 * n)) ⟨0, s, hR, ?_⟩ (fun a w'' hI => roundO hY hn hp hP Q0 c2 c3 c9 c10 c33 c34 c35 c36 c37 c38 c39 c40 c41 c42 c43 c44 c45 c46 c47 c48 c49 c50 c51 c52 c53 c54 c55 c56 c57 c58 c59 c60 c61 c62 c63 c64 c65 c66 c67 c68 c69 c70 c71 c72 c73 c74 c75 c76 c77 c78 c79 c349 c350 c351 c352 c353 c354 c355 c356 c357 c358 hexit hI)
  unfold FRO
  exact ⟨u4, u18, u19, u20, u21, u22, u23, u24, u25, u26, u27, u28, u29, u30, u31, u32, u80, u81, u82, u83, u84, u85, u86, u87, u88, u89, u90, u91, u92, u93, u94, u95, u96, u97, u98, u99, u100, u101, u102, u103, u104, u105, u106, u107, u108, u109, u110, u111, u112, u113, u114, u115, u116, u117, u118, u119, u120, u121, u122, u123, u124, u125, u126, u127, u128, u129, u130, u131, u132, u133, u134, u135, u136, u137, u138, u139, u140, u141, u142, u143, u144, u145, u146, u147, u148, u149, u150, u151, u152, u153, u154, u155, u156, u157, u158, u159, u160, u161, u162, u163, u164, u165, u166, u167, u168, u169, u170, u171, u172, u173, u174, u175, u176, u177, u178, u179, u180, u181, u182, u183, u184, u185, u186, u187, u188, u189, u190, u191, u192, u193, u194, u195, u196, u197, u198, u199, u200, u201, u202, u203, u204, u205, u206, u207, u208, u209, u210, u211, u212, u213, u214, u215, u216, u217, u218, u219, u220, u221, u222, u223, u224, u225, u226, u227, u228, u229, u230, u231, u232, u233, u234, u235, u236, u237, u238, u239, u240, u241, u242, u243, u244, u245, u246, u247, u248, u249, u250, u251, u252, u253, u254, u255, u256, u257, u258, u259, u260, u261, u262, u263, u264, u265, u266, u267, u268, u269, u270, u271, u272, u273, u274, u275, u276, u277, u278, u279, u280, u281, u282, u283, u284, u285, u286, u287, u288, u289, u290, u291, u292, u293, u294, u295, u296, u297, u298, u299, u300, u301, u302, u303, u304, u305, u306, u307, u308, u309, u310, u311, u312, u313, u314, u315, u316, u317, u318, u319, u320, u321, u322, u323, u324, u325, u326, u327, u328, u329, u330, u331, u332, u333, u334, u335, u336, u337, u338, u339, u340, u341, u342, u343, u344, u345, u346, u347, u348, rfl⟩
end Go.Proofs.Ytdmkgomcomcfhaa
