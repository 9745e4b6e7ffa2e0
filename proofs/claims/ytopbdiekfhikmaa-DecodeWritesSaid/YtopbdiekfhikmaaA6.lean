/- Layer 3, the document's side: any word is read alike. -/
import Derived.Test.YtopbdiekfhikmaaA2
import Derived.Test.YtopbdiekfhikmaaA3
import Derived.Test.YtopbdiekfhikmaaA4
import Derived.Test.YtopbdiekfhikmaaA5
namespace Go.Proofs.Ytopbdiekfhikmaa
theorem reads_plain {b : Nat} (hb : b < 4294967296) : refN b = decN b :=
  ref_dec hb ok_3 ok_7 ok_15 ok_19 ok_23 ok_27 ok_35 ok_39 ok_47 ok_51 ok_55 ok_59 ok_67 ok_71 ok_75 ok_79 ok_83 ok_99 ok_103 ok_111 ok_115
end Go.Proofs.Ytopbdiekfhikmaa
