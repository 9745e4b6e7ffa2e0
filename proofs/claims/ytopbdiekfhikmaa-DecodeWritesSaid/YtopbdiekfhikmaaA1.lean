/- Layer 3, the document's side: the rows, and what they ask of the fields. -/
import Derived.Test.YtopbdiekfhikmaaD10
import Derived.Test.YtopbdiekfhikmaaV1
namespace Go.Proofs.Ytopbdiekfhikmaa
def rowsL : List RowS := [
  ⟨127, 55, 1, ⟨#[100, 85]⟩, 0, false, false⟩,
  ⟨127, 23, 2, ⟨#[100, 85]⟩, 0, false, false⟩,
  ⟨127, 111, 3, ⟨#[100, 74]⟩, 0, false, false⟩,
  ⟨28799, 103, 4, ⟨#[100, 49, 73]⟩, 0, false, false⟩,
  ⟨28799, 99, 5, ⟨#[49, 50, 66]⟩, 0, false, false⟩,
  ⟨28799, 4195, 6, ⟨#[49, 50, 66]⟩, 0, false, false⟩,
  ⟨28799, 16483, 7, ⟨#[49, 50, 66]⟩, 0, false, false⟩,
  ⟨28799, 20579, 8, ⟨#[49, 50, 66]⟩, 0, false, false⟩,
  ⟨28799, 24675, 9, ⟨#[49, 50, 66]⟩, 0, false, false⟩,
  ⟨28799, 28771, 10, ⟨#[49, 50, 66]⟩, 0, false, false⟩,
  ⟨28799, 3, 11, ⟨#[100, 49, 73]⟩, 1, false, false⟩,
  ⟨28799, 35, 12, ⟨#[49, 50, 83]⟩, 1, false, false⟩,
  ⟨28799, 4099, 11, ⟨#[100, 49, 73]⟩, 2, false, false⟩,
  ⟨28799, 4131, 12, ⟨#[49, 50, 83]⟩, 2, false, false⟩,
  ⟨28799, 8195, 11, ⟨#[100, 49, 73]⟩, 4, false, false⟩,
  ⟨28799, 8227, 12, ⟨#[49, 50, 83]⟩, 4, false, false⟩,
  ⟨28799, 12291, 11, ⟨#[100, 49, 73]⟩, 8, false, false⟩,
  ⟨28799, 12323, 12, ⟨#[49, 50, 83]⟩, 8, false, false⟩,
  ⟨28799, 16387, 11, ⟨#[100, 49, 73]⟩, 1, false, true⟩,
  ⟨28799, 20483, 11, ⟨#[100, 49, 73]⟩, 2, false, true⟩,
  ⟨28799, 24579, 11, ⟨#[100, 49, 73]⟩, 4, false, true⟩,
  ⟨28799, 19, 13, ⟨#[100, 49, 73, 61]⟩, 0, false, false⟩,
  ⟨4261441663, 51, 13, ⟨#[100, 49, 50]⟩, 0, false, false⟩,
  ⟨4261441663, 33554483, 23, ⟨#[100, 49, 50]⟩, 0, false, false⟩,
  ⟨4261441663, 4147, 15, ⟨#[100, 49, 50]⟩, 0, false, false⟩,
  ⟨4261441663, 33558579, 24, ⟨#[100, 49, 50]⟩, 0, false, false⟩,
  ⟨28799, 8211, 16, ⟨#[100, 49, 73, 61]⟩, 0, false, false⟩,
  ⟨4261441663, 8243, 16, ⟨#[100, 49, 50]⟩, 0, false, false⟩,
  ⟨4261441663, 33562675, 25, ⟨#[100, 49, 50]⟩, 0, false, false⟩,
  ⟨28799, 12307, 17, ⟨#[100, 49, 73, 61]⟩, 0, false, false⟩,
  ⟨4261441663, 12339, 17, ⟨#[100, 49, 50]⟩, 0, false, false⟩,
  ⟨4261441663, 33566771, 26, ⟨#[100, 49, 50]⟩, 0, false, false⟩,
  ⟨28799, 16403, 18, ⟨#[100, 49, 73, 61]⟩, 0, false, false⟩,
  ⟨4261441663, 16435, 18, ⟨#[100, 49, 50]⟩, 0, false, false⟩,
  ⟨4261441663, 33570867, 27, ⟨#[100, 49, 50]⟩, 0, false, false⟩,
  ⟨4261441663, 20531, 19, ⟨#[100, 49, 50]⟩, 0, false, false⟩,
  ⟨4261441663, 33574963, 28, ⟨#[100, 49, 50]⟩, 0, false, false⟩,
  ⟨28799, 24595, 21, ⟨#[100, 49, 73, 61]⟩, 0, false, false⟩,
  ⟨4261441663, 24627, 21, ⟨#[100, 49, 50]⟩, 0, false, false⟩,
  ⟨4261441663, 33579059, 29, ⟨#[100, 49, 50]⟩, 0, false, false⟩,
  ⟨28799, 28691, 22, ⟨#[100, 49, 73, 61]⟩, 0, false, false⟩,
  ⟨4261441663, 28723, 22, ⟨#[100, 49, 50]⟩, 0, false, false⟩,
  ⟨4261441663, 33583155, 30, ⟨#[100, 49, 50]⟩, 0, false, false⟩,
  ⟨4261441663, 1073741875, 14, ⟨#[100, 49, 50]⟩, 0, false, false⟩,
  ⟨4261441663, 1073762355, 20, ⟨#[100, 49, 50]⟩, 0, false, false⟩,
  ⟨4227887231, 4115, 15, ⟨#[100, 49, 104, 61]⟩, 0, false, false⟩,
  ⟨4261441663, 4123, 15, ⟨#[100, 49, 104, 61]⟩, 0, true, false⟩,
  ⟨4261441663, 4155, 15, ⟨#[100, 49, 50]⟩, 0, true, false⟩,
  ⟨4227887231, 20499, 19, ⟨#[100, 49, 104, 61]⟩, 0, false, false⟩,
  ⟨4261441663, 20507, 19, ⟨#[100, 49, 104, 61]⟩, 0, true, false⟩,
  ⟨4261441663, 20539, 19, ⟨#[100, 49, 50]⟩, 0, true, false⟩,
  ⟨4227887231, 1073762323, 20, ⟨#[100, 49, 104, 61]⟩, 0, false, false⟩,
  ⟨4261441663, 1073762331, 20, ⟨#[100, 49, 104, 61]⟩, 0, true, false⟩,
  ⟨4261441663, 1073762363, 20, ⟨#[100, 49, 50]⟩, 0, true, false⟩,
  ⟨28799, 27, 13, ⟨#[100, 49, 73, 61]⟩, 0, true, false⟩,
  ⟨4261441663, 59, 13, ⟨#[100, 49, 50]⟩, 0, true, false⟩,
  ⟨4261441663, 1073741883, 14, ⟨#[100, 49, 50]⟩, 0, true, false⟩,
  ⟨4261441663, 33554491, 23, ⟨#[100, 49, 50]⟩, 0, true, false⟩,
  ⟨4261441663, 33570875, 27, ⟨#[100, 49, 50]⟩, 0, true, false⟩,
  ⟨4261441663, 33574971, 28, ⟨#[100, 49, 50]⟩, 0, true, false⟩,
  ⟨4261441663, 33579067, 29, ⟨#[100, 49, 50]⟩, 0, true, false⟩,
  ⟨4261441663, 33583163, 30, ⟨#[100, 49, 50]⟩, 0, true, false⟩,
  ⟨28799, 15, 31, ⟨#[]⟩, 0, false, false⟩,
  ⟨28799, 4111, 32, ⟨#[]⟩, 0, false, false⟩,
  ⟨4294967295, 115, 33, ⟨#[]⟩, 0, false, false⟩,
  ⟨4294967295, 1048691, 34, ⟨#[]⟩, 0, false, false⟩,
  ⟨4294967295, 270532723, 50, ⟨#[]⟩, 0, false, false⟩,
  ⟨4294967295, 807403635, 49, ⟨#[]⟩, 0, false, false⟩,
  ⟨4294967295, 273678451, 51, ⟨#[]⟩, 0, false, false⟩,
  ⟨4261445631, 301990003, 52, ⟨#[49, 50]⟩, 0, false, false⟩,
  ⟨28799, 4211, 35, ⟨#[100, 49, 99]⟩, 0, false, false⟩,
  ⟨28799, 20595, 35, ⟨#[100, 99, 122, 61]⟩, 0, false, false⟩,
  ⟨28799, 8307, 36, ⟨#[100, 49, 99]⟩, 0, false, false⟩,
  ⟨28799, 24691, 36, ⟨#[100, 99, 122, 61]⟩, 0, false, false⟩,
  ⟨28799, 12403, 37, ⟨#[100, 49, 99]⟩, 0, false, false⟩,
  ⟨28799, 28787, 37, ⟨#[100, 99, 122, 61]⟩, 0, false, false⟩,
  ⟨4193284223, 268443695, 38, ⟨#[100, 49]⟩, 4, false, false⟩,
  ⟨4160778367, 402661423, 39, ⟨#[100, 49, 50]⟩, 4, false, false⟩,
  ⟨4160778367, 134225967, 40, ⟨#[100, 49, 50]⟩, 4, false, false⟩,
  ⟨4160778367, 8239, 41, ⟨#[100, 49, 50]⟩, 4, false, false⟩,
  ⟨4160778367, 536879151, 42, ⟨#[100, 49, 50]⟩, 4, false, false⟩,
  ⟨4160778367, 1610620975, 43, ⟨#[100, 49, 50]⟩, 4, false, false⟩,
  ⟨4160778367, 1073750063, 44, ⟨#[100, 49, 50]⟩, 4, false, false⟩,
  ⟨4160778367, 2147491887, 45, ⟨#[100, 49, 50]⟩, 4, false, false⟩,
  ⟨4160778367, 2684362799, 46, ⟨#[100, 49, 50]⟩, 4, false, false⟩,
  ⟨4160778367, 3221233711, 47, ⟨#[100, 49, 50]⟩, 4, false, false⟩,
  ⟨4160778367, 3758104623, 48, ⟨#[100, 49, 50]⟩, 4, false, false⟩,
  ⟨4193284223, 268447791, 38, ⟨#[100, 49]⟩, 8, false, false⟩,
  ⟨4160778367, 402665519, 39, ⟨#[100, 49, 50]⟩, 8, false, false⟩,
  ⟨4160778367, 134230063, 40, ⟨#[100, 49, 50]⟩, 8, false, false⟩,
  ⟨4160778367, 12335, 41, ⟨#[100, 49, 50]⟩, 8, false, false⟩,
  ⟨4160778367, 536883247, 42, ⟨#[100, 49, 50]⟩, 8, false, false⟩,
  ⟨4160778367, 1610625071, 43, ⟨#[100, 49, 50]⟩, 8, false, false⟩,
  ⟨4160778367, 1073754159, 44, ⟨#[100, 49, 50]⟩, 8, false, false⟩,
  ⟨4160778367, 2147495983, 45, ⟨#[100, 49, 50]⟩, 8, false, false⟩,
  ⟨4160778367, 2684366895, 46, ⟨#[100, 49, 50]⟩, 8, false, false⟩,
  ⟨4160778367, 3221237807, 47, ⟨#[100, 49, 50]⟩, 8, false, false⟩,
  ⟨4160778367, 3758108719, 48, ⟨#[100, 49, 50]⟩, 8, false, false⟩,
  ⟨28799, 8199, 53, ⟨#[100, 49, 73]⟩, 4, false, false⟩,
  ⟨28799, 8231, 54, ⟨#[49, 50, 83]⟩, 4, false, false⟩,
  ⟨100663423, 67, 60, ⟨#[100, 49, 50, 51, 114]⟩, 4, false, false⟩,
  ⟨100663423, 71, 61, ⟨#[100, 49, 50, 51, 114]⟩, 4, false, false⟩,
  ⟨100663423, 75, 62, ⟨#[100, 49, 50, 51, 114]⟩, 4, false, false⟩,
  ⟨100663423, 79, 63, ⟨#[100, 49, 50, 51, 114]⟩, 4, false, false⟩,
  ⟨4261412991, 83, 55, ⟨#[100, 49, 50, 114]⟩, 4, false, false⟩,
  ⟨4261412991, 134217811, 56, ⟨#[100, 49, 50, 114]⟩, 4, false, false⟩,
  ⟨4261412991, 268435539, 57, ⟨#[100, 49, 50, 114]⟩, 4, false, false⟩,
  ⟨4261412991, 402653267, 58, ⟨#[100, 49, 50, 114]⟩, 4, false, false⟩,
  ⟨4293918847, 1476395091, 59, ⟨#[100, 49, 114]⟩, 4, false, false⟩,
  ⟨4261441663, 536870995, 64, ⟨#[100, 49, 50]⟩, 4, false, false⟩,
  ⟨4261441663, 2684362835, 69, ⟨#[100, 49, 50]⟩, 4, false, false⟩,
  ⟨4261441663, 671088723, 67, ⟨#[100, 49, 50]⟩, 4, false, false⟩,
  ⟨4261441663, 536875091, 65, ⟨#[100, 49, 50]⟩, 4, false, false⟩,
  ⟨4261441663, 2684358739, 70, ⟨#[100, 49, 50]⟩, 4, false, false⟩,
  ⟨4261441663, 671092819, 68, ⟨#[100, 49, 50]⟩, 4, false, false⟩,
  ⟨4261441663, 536879187, 66, ⟨#[100, 49, 50]⟩, 4, false, false⟩,
  ⟨4261441663, 2684354643, 71, ⟨#[100, 49, 50]⟩, 4, false, false⟩,
  ⟨4293918847, 1074790483, 75, ⟨#[100, 49, 114]⟩, 4, false, false⟩,
  ⟨4293918847, 3221225555, 73, ⟨#[100, 49, 114]⟩, 4, true, false⟩,
  ⟨4293918847, 3489661011, 74, ⟨#[100, 49, 114]⟩, 4, true, false⟩,
  ⟨4293918847, 3222274131, 73, ⟨#[100, 49, 114]⟩, 4, true, true⟩,
  ⟨4293918847, 3490709587, 74, ⟨#[100, 49, 114]⟩, 4, true, true⟩,
  ⟨4293918847, 3223322707, 73, ⟨#[100, 49, 114]⟩, 4, false, false⟩,
  ⟨4293918847, 3491758163, 74, ⟨#[100, 49, 114]⟩, 4, false, false⟩,
  ⟨4293918847, 3224371283, 73, ⟨#[100, 49, 114]⟩, 4, false, true⟩,
  ⟨4293918847, 3492806739, 74, ⟨#[100, 49, 114]⟩, 4, false, true⟩,
  ⟨4293947519, 3758096467, 76, ⟨#[100, 49]⟩, 4, false, false⟩,
  ⟨4293947519, 3758100563, 72, ⟨#[100, 49]⟩, 4, false, false⟩,
  ⟨4293947519, 4026531923, 77, ⟨#[100, 49]⟩, 4, false, false⟩,
  ⟨28799, 12295, 53, ⟨#[100, 49, 73]⟩, 8, false, false⟩,
  ⟨28799, 12327, 54, ⟨#[49, 50, 83]⟩, 8, false, false⟩,
  ⟨100663423, 33554499, 60, ⟨#[100, 49, 50, 51, 114]⟩, 8, false, false⟩,
  ⟨100663423, 33554503, 61, ⟨#[100, 49, 50, 51, 114]⟩, 8, false, false⟩,
  ⟨100663423, 33554507, 62, ⟨#[100, 49, 50, 51, 114]⟩, 8, false, false⟩,
  ⟨100663423, 33554511, 63, ⟨#[100, 49, 50, 51, 114]⟩, 8, false, false⟩,
  ⟨4261412991, 33554515, 55, ⟨#[100, 49, 50, 114]⟩, 8, false, false⟩,
  ⟨4261412991, 167772243, 56, ⟨#[100, 49, 50, 114]⟩, 8, false, false⟩,
  ⟨4261412991, 301989971, 57, ⟨#[100, 49, 50, 114]⟩, 8, false, false⟩,
  ⟨4261412991, 436207699, 58, ⟨#[100, 49, 50, 114]⟩, 8, false, false⟩,
  ⟨4293918847, 1509949523, 59, ⟨#[100, 49, 114]⟩, 8, false, false⟩,
  ⟨4261441663, 570425427, 64, ⟨#[100, 49, 50]⟩, 8, false, false⟩,
  ⟨4261441663, 2717917267, 69, ⟨#[100, 49, 50]⟩, 8, false, false⟩,
  ⟨4261441663, 704643155, 67, ⟨#[100, 49, 50]⟩, 8, false, false⟩,
  ⟨4261441663, 570429523, 65, ⟨#[100, 49, 50]⟩, 8, false, false⟩,
  ⟨4261441663, 2717913171, 70, ⟨#[100, 49, 50]⟩, 8, false, false⟩,
  ⟨4261441663, 704647251, 68, ⟨#[100, 49, 50]⟩, 8, false, false⟩,
  ⟨4261441663, 570433619, 66, ⟨#[100, 49, 50]⟩, 8, false, false⟩,
  ⟨4261441663, 2717909075, 71, ⟨#[100, 49, 50]⟩, 8, false, false⟩,
  ⟨4293918847, 1107296339, 75, ⟨#[100, 49, 114]⟩, 8, false, false⟩,
  ⟨4293918847, 3254779987, 73, ⟨#[100, 49, 114]⟩, 8, true, false⟩,
  ⟨4293918847, 3523215443, 74, ⟨#[100, 49, 114]⟩, 8, true, false⟩,
  ⟨4293918847, 3255828563, 73, ⟨#[100, 49, 114]⟩, 8, true, true⟩,
  ⟨4293918847, 3524264019, 74, ⟨#[100, 49, 114]⟩, 8, true, true⟩,
  ⟨4293918847, 3256877139, 73, ⟨#[100, 49, 114]⟩, 8, false, false⟩,
  ⟨4293918847, 3525312595, 74, ⟨#[100, 49, 114]⟩, 8, false, false⟩,
  ⟨4293918847, 3257925715, 73, ⟨#[100, 49, 114]⟩, 8, false, true⟩,
  ⟨4293918847, 3526361171, 74, ⟨#[100, 49, 114]⟩, 8, false, true⟩,
  ⟨4293947519, 3791650899, 76, ⟨#[100, 49]⟩, 8, false, false⟩,
  ⟨4293947519, 3791654995, 72, ⟨#[100, 49]⟩, 8, false, false⟩,
  ⟨4293947519, 4060086355, 77, ⟨#[100, 49]⟩, 8, false, false⟩]
def matchB (r : RowS) (b : Nat) : Bool := decide (((and32 b r.mask.toNat : Nat) : Int) = r.bits)
def immF (F : ByteArray) (b : Nat) : Int :=
  if hasF F 122 then (fd b 15 5 : Int) else if hasF F 104 then (fd b 20 6 : Int) else if hasF F 73 then immI b else if hasF F 83 then immS b else if hasF F 66 then immB b else if hasF F 85 then immU b else if hasF F 74 then immJ b else 0
def readN (r : RowS) (b : Nat) : Ins :=
  ⟨r.kind, if hasF r.form 100 then (fd b 7 5 : Int) else 0, if hasF r.form 49 then (fd b 15 5 : Int) else 0, if hasF r.form 50 then (fd b 20 5 : Int) else 0, if hasF r.form 51 then (fd b 27 5 : Int) else 0, if hasF r.form 114 then (fd b 12 3 : Int) else 0, if hasF r.form 99 then (fd b 20 12 : Int) else 0, r.size, immF r.form b, hasF r.form 61, r.uns, r.word⟩
def takeN (r : RowS) (b : Nat) : Ins := if (readN r b).rm = 5 ∨ (readN r b).rm = 6 then zero else readN r b
def refN (b : Nat) : Ins := match rowsL.find? (fun r => matchB r b) with
  | none => zero
  | some r => takeN r b
theorem fd_and (a m lo n : Nat) : fd (a &&& m) lo n = fd a lo n &&& fd m lo n := by
  unfold fd
  rw [Nat.and_div_two_pow, Nat.and_mod_two_pow]
theorem six (x y : Nat) (hx : x < 4294967296) (hy : y < 4294967296) (h0 : fd x 0 7 = fd y 0 7) (h1 : fd x 7 5 = fd y 7 5) (h2 : fd x 12 3 = fd y 12 3) (h3 : fd x 15 5 = fd y 15 5) (h4 : fd x 20 5 = fd y 20 5) (h5 : fd x 25 7 = fd y 25 7) : x = y := by
  unfold fd at *
  omega
theorem and_iff (b m c : Nat) (hb : b < 4294967296) (hc : c < 4294967296) : (and32 b m = c) ↔ (fd b 0 7 &&& fd m 0 7 = fd c 0 7 ∧ fd b 7 5 &&& fd m 7 5 = fd c 7 5 ∧ fd b 12 3 &&& fd m 12 3 = fd c 12 3 ∧ fd b 15 5 &&& fd m 15 5 = fd c 15 5 ∧ fd b 20 5 &&& fd m 20 5 = fd c 20 5 ∧ fd b 25 7 &&& fd m 25 7 = fd c 25 7) := by
  have hl : b &&& m < 4294967296 := Nat.lt_of_le_of_lt Nat.and_le_left hb
  have he : and32 b m = b &&& m := by unfold and32; exact Nat.mod_eq_of_lt hl
  rw [he, ← fd_and, ← fd_and, ← fd_and, ← fd_and, ← fd_and, ← fd_and]
  constructor
  · intro h; rw [h]; exact ⟨rfl, rfl, rfl, rfl, rfl, rfl⟩
  · rintro ⟨h0, h1, h2, h3, h4, h5⟩
    exact six _ _ hl hc h0 h1 h2 h3 h4 h5
/-- What a row asks of the fields behind op. -/
def pF (r : RowS) (rd f r1 r2 g : Nat) : Bool :=
  decide (rd &&& fd r.mask.toNat 7 5 = fd r.bits.toNat 7 5) && decide (f &&& fd r.mask.toNat 12 3 = fd r.bits.toNat 12 3) && decide (r1 &&& fd r.mask.toNat 15 5 = fd r.bits.toNat 15 5) && decide (r2 &&& fd r.mask.toNat 20 5 = fd r.bits.toNat 20 5) && decide (g &&& fd r.mask.toNat 25 7 = fd r.bits.toNat 25 7)
def rowOk (r : RowS) : Bool := decide (0 ≤ r.bits) && decide (r.bits < 4294967296) && decide (fd r.mask.toNat 0 7 = 127)
theorem rows_ok : rowsL.all rowOk = true := by decide +kernel
theorem and127 {x : Nat} (h : x < 128) : x &&& 127 = x := by
  have := Nat.and_two_pow_sub_one_eq_mod x 7
  rw [show (2 : Nat) ^ 7 - 1 = 127 from rfl] at this
  rw [this]; exact Nat.mod_eq_of_lt h
theorem match_eq {r : RowS} (hr : rowOk r = true) {b : Nat} (hb : b < 4294967296) : matchB r b = (decide (fd b 0 7 = fd r.bits.toNat 0 7) && pF r (fd b 7 5) (fd b 12 3) (fd b 15 5) (fd b 20 5) (fd b 25 7)) := by
  unfold rowOk at hr
  simp only [Bool.and_eq_true, decide_eq_true_eq] at hr
  obtain ⟨⟨h0, h1⟩, h2⟩ := hr
  have h := and_iff b r.mask.toNat r.bits.toNat hb (by omega)
  rw [h2, and127 (show fd b 0 7 < 128 from Nat.mod_lt _ (by decide))] at h
  unfold matchB pF
  rw [Bool.eq_iff_iff]
  simp only [decide_eq_true_eq, Bool.and_eq_true]
  rw [show (((and32 b r.mask.toNat : Nat) : Int) = r.bits) ↔ (and32 b r.mask.toNat = r.bits.toNat) by omega, h]
  constructor
  · rintro ⟨a, b, c, d, e, f⟩; exact ⟨a, ⟨⟨⟨b, c⟩, d⟩, e⟩, f⟩
  · rintro ⟨a, ⟨⟨⟨b, c⟩, d⟩, e⟩, f⟩; exact ⟨a, b, c, d, e, f⟩
theorem find_filter {α : Type} (p q t : α → Bool) : ∀ (l : List α), (∀ a ∈ l, p a = (q a && t a)) → l.find? p = (l.filter q).find? t := by
  intro l
  induction l with
  | nil => intro _; rfl
  | cons a l ih =>
    intro h
    have ha := h a (by simp)
    have hl := ih fun x hx => h x (by simp [hx])
    rw [List.find?_cons, ha, List.filter_cons]
    cases hq : q a with
    | false => simpa using hl
    | true => simp only [Bool.true_and, if_true, List.find?_cons, hl]
def rowsOf (op : Nat) : List RowS := rowsL.filter fun r => decide (op = fd r.bits.toNat 0 7)
def refF (b op rd f r1 r2 g : Nat) : Ins := match (rowsOf op).find? (fun r => pF r rd f r1 r2 g) with
  | none => zero
  | some r => takeN r b
theorem ref_fields {b : Nat} (hb : b < 4294967296) : refN b = refF b (fd b 0 7) (fd b 7 5) (fd b 12 3) (fd b 15 5) (fd b 20 5) (fd b 25 7) := by
  unfold refN refF rowsOf
  rw [find_filter (fun r => matchB r b) _ (fun r => pF r (fd b 7 5) (fd b 12 3) (fd b 15 5) (fd b 20 5) (fd b 25 7)) rowsL (fun r hr => match_eq (List.all_eq_true.1 rows_ok r hr) hb)]
theorem rows_none : ∀ op < 128, op ∉ [3, 7, 15, 19, 23, 27, 35, 39, 47, 51, 55, 59, 67, 71, 75, 79, 83, 99, 103, 111, 115] → rowsOf op = [] := by
  have h : (List.range 128).all (fun op => ([3, 7, 15, 19, 23, 27, 35, 39, 47, 51, 55, 59, 67, 71, 75, 79, 83, 99, 103, 111, 115] : List Nat).contains op || (rowsOf op).isEmpty) = true := by decide +kernel
  intro op hop hn
  have := List.all_eq_true.1 h op (List.mem_range.2 hop)
  rw [Bool.or_eq_true] at this
  rcases this with h1 | h1
  · exact absurd (by simpa using h1) hn
  · exact List.isEmpty_iff.1 h1
structure Code where
  kind : Int
  key : Nat
  size : Int
  word : Bool
  uns : Bool
  deriving DecidableEq
def formOf (k : Nat) : ByteArray := if k = 12594 then ⟨#[49, 50]⟩ else if k = 3224130 then ⟨#[49, 50, 66]⟩ else if k = 3224147 then ⟨#[49, 50, 83]⟩ else if k = 25649 then ⟨#[100, 49]⟩ else if k = 6566194 then ⟨#[100, 49, 50]⟩ else if k = 430322103154 then ⟨#[100, 49, 50, 51, 114]⟩ else if k = 1680945778 then ⟨#[100, 49, 50, 114]⟩ else if k = 6566217 then ⟨#[100, 49, 73]⟩ else if k = 1680951613 then ⟨#[100, 49, 73, 61]⟩ else if k = 6566243 then ⟨#[100, 49, 99]⟩ else if k = 1680959549 then ⟨#[100, 49, 104, 61]⟩ else if k = 6566258 then ⟨#[100, 49, 114]⟩ else if k = 25674 then ⟨#[100, 74]⟩ else if k = 25685 then ⟨#[100, 85]⟩ else if k = 1684240957 then ⟨#[100, 99, 122, 61]⟩ else ⟨#[]⟩
def keyOf (F : ByteArray) : Nat := F.data.toList.foldl (fun a c => a * 256 + c.toNat) 0
def codeOf (r : RowS) : Code := ⟨r.kind, keyOf r.form, r.size, r.word, r.uns⟩
def nil_ : Code := ⟨0, 0, 0, false, false⟩
def takeC (c : Code) (b : Nat) : Ins := takeN ⟨0, 0, c.kind, formOf c.key, c.size, c.word, c.uns⟩ b
theorem forms_ok : rowsL.all (fun r => decide ((formOf (keyOf r.form)).data = r.form.data)) = true := by decide +kernel
theorem take_code {r : RowS} (hr : r ∈ rowsL) (b : Nat) : takeN r b = takeC (codeOf r) b := by
  have h := List.all_eq_true.1 forms_ok r hr
  have h2 : formOf (keyOf r.form) = r.form := by
    have := of_decide_eq_true h
    cases h3 : formOf (keyOf r.form); cases h4 : r.form
    rw [h3, h4] at this
    simp only at this
    rw [this]
  unfold takeC codeOf
  simp only [h2]
  rfl
def refC (op rd f r1 r2 g : Nat) : Code := match (rowsOf op).find? (fun r => pF r rd f r1 r2 g) with
  | none => nil_
  | some r => codeOf r
def immD (f hi sh5 : Nat) (short : Bool) : Code :=
  if f ≠ 1 ∧ f ≠ 5 then (if short = true ∧ f ≠ 0 then nil_ else ⟨sumK f, 1680951613, 0, short, false⟩)
  else if short = true ∧ sh5 = 1 then nil_
  else if hi = 16 ∧ f = 5 then ⟨20, 1680959549, 0, short, false⟩
  else if hi ≠ 0 then nil_
  else ⟨sumK f, 1680959549, 0, short, false⟩
def regD (f g : Nat) (short : Bool) : Code :=
  if g = 0 ∧ (short = false ∨ f = 0 ∨ f = 1 ∨ f = 5) then ⟨sumK f, 6566194, 0, short, false⟩
  else if g = 1 ∧ (short = false ∨ f = 0 ∨ 4 ≤ f) then ⟨((23 + f : Nat) : Int), 6566194, 0, short, false⟩
  else if g = 32 ∧ f = 0 then ⟨14, 6566194, 0, short, false⟩
  else if g = 32 ∧ f = 5 then ⟨20, 6566194, 0, short, false⟩
  else nil_
def sysD (f g r2 rd r1 : Nat) : Code :=
  if f = 4 then nil_
  else if 4 < f then ⟨((30 + f : Nat) : Int), 1684240957, 0, false, false⟩
  else if 0 < f then ⟨((34 + f : Nat) : Int), 6566243, 0, false, false⟩
  else if rd = 0 ∧ r1 = 0 ∧ r2 = 0 ∧ g = 0 then ⟨33, 0, 0, false, false⟩
  else if rd = 0 ∧ r1 = 0 ∧ r2 = 1 ∧ g = 0 then ⟨34, 0, 0, false, false⟩
  else if rd = 0 ∧ r1 = 0 ∧ r2 = 2 ∧ g = 8 then ⟨50, 0, 0, false, false⟩
  else if rd = 0 ∧ r1 = 0 ∧ r2 = 2 ∧ g = 24 then ⟨49, 0, 0, false, false⟩
  else if rd = 0 ∧ r1 = 0 ∧ r2 = 5 ∧ g = 8 then ⟨51, 0, 0, false, false⟩
  else if g = 9 ∧ rd = 0 then ⟨52, 12594, 0, false, false⟩
  else nil_
def atomD (f h r2 : Nat) : Code :=
  if (f ≠ 2 ∧ f ≠ 3) ∨ atomK h = 0 ∨ (atomK h = 38 ∧ r2 ≠ 0) then nil_ else ⟨atomK h, if atomK h = 38 then 25649 else 6566194, ((2 ^ f : Nat) : Int), false, false⟩
def operD (f h s : Nat) (sz : Int) : Code :=
  if h < 4 then ⟨((55 + h : Nat) : Int), 1680945778, sz, false, false⟩
  else if h = 4 then (if 3 ≤ f then nil_ else ⟨((64 + f : Nat) : Int), 6566194, sz, false, false⟩)
  else if h = 5 then (if 2 ≤ f then nil_ else ⟨((67 + f : Nat) : Int), 6566194, sz, false, false⟩)
  else if h = 20 then (if 2 < f then nil_ else ⟨((71 - f : Nat) : Int), 6566194, sz, false, false⟩)
  else if h = 11 ∧ s = 0 then ⟨59, 6566258, sz, false, false⟩
  else if h = 8 ∧ (sz = 4 ∧ s = 1 ∨ sz = 8 ∧ s = 0) then ⟨75, 6566258, sz, false, false⟩
  else if h = 24 ∧ s < 4 then ⟨73, 6566258, sz, decide (s < 2), s % 2 == 1⟩
  else if h = 26 ∧ s < 4 then ⟨74, 6566258, sz, decide (s < 2), s % 2 == 1⟩
  else if h = 28 ∧ s = 0 ∧ f = 0 then ⟨76, 25649, sz, false, false⟩
  else if h = 28 ∧ s = 0 ∧ f = 1 then ⟨72, 25649, sz, false, false⟩
  else if h = 30 ∧ s = 0 ∧ f = 0 then ⟨77, 25649, sz, false, false⟩
  else nil_
def floD (op f l h s : Nat) : Code :=
  if op = 7 then (if f = 2 ∨ f = 3 then ⟨53, 6566217, ((2 ^ f : Nat) : Int), false, false⟩ else nil_)
  else if op = 39 then (if f = 2 ∨ f = 3 then ⟨54, 3224147, ((2 ^ f : Nat) : Int), false, false⟩ else nil_)
  else if 1 < l then nil_
  else if op = 67 ∨ op = 71 ∨ op = 75 ∨ op = 79 then ⟨((60 + (op - 67) / 4 : Nat) : Int), 430322103154, ((4 * 2 ^ l : Nat) : Int), false, false⟩
  else if op = 83 then operD f h s ((4 * 2 ^ l : Nat) : Int)
  else nil_
def progD (op f g r2 rd r1 : Nat) : Code :=
  if op = 55 then ⟨1, 25685, 0, false, false⟩
  else if op = 23 then ⟨2, 25685, 0, false, false⟩
  else if op = 111 then ⟨3, 25674, 0, false, false⟩
  else if op = 103 then (if f = 0 then ⟨4, 6566217, 0, false, false⟩ else nil_)
  else if op = 99 then (if brK f ≠ 0 then ⟨brK f, 3224130, 0, false, false⟩ else nil_)
  else if op = 3 then (if ldK f ≠ 0 then ⟨ldK f, 6566217, ldS f, false, ldU f⟩ else nil_)
  else if op = 35 then (if f < 4 then ⟨12, 3224147, ((2 ^ f : Nat) : Int), false, false⟩ else nil_)
  else if op = 19 then immD f (g / 2) (g % 2) false
  else if op = 27 then immD f (g / 2) (g % 2) true
  else if op = 51 then regD f g false
  else if op = 59 then regD f g true
  else if op = 15 then (if f < 2 then ⟨((31 + f : Nat) : Int), 0, 0, false, false⟩ else nil_)
  else if op = 115 then sysD f g r2 rd r1
  else if op = 47 then atomD f (g / 4) r2
  else floD op f (g % 4) (g / 4) r2
/-- Both agree at the fields of one op. -/
def okAt (op : Nat) (fs gs rs ds : List Nat) : Bool := fs.all fun f => gs.all fun g => rs.all fun r2 => ds.all fun rd => ds.all fun r1 => decide (refC op rd f r1 r2 g = progD op f g r2 rd r1)
structure Ext where
  mg : Nat
  cg : Nat
  mf : Nat
  cf : Nat
  ms : Nat
  cs : Nat
  md : Nat
  cd : Nat
  m1 : Nat
  c1 : Nat
  code : Code
def extOf (r : RowS) : Ext := ⟨fd r.mask.toNat 25 7, fd r.bits.toNat 25 7, fd r.mask.toNat 12 3, fd r.bits.toNat 12 3, fd r.mask.toNat 20 5, fd r.bits.toNat 20 5, fd r.mask.toNat 7 5, fd r.bits.toNat 7 5, fd r.mask.toNat 15 5, fd r.bits.toNat 15 5, codeOf r⟩
def pX (e : Ext) (rd f r1 r2 g : Nat) : Bool := Nat.beq (Nat.land g e.mg) e.cg && (Nat.beq (Nat.land f e.mf) e.cf && (Nat.beq (Nat.land r2 e.ms) e.cs && (Nat.beq (Nat.land rd e.md) e.cd && Nat.beq (Nat.land r1 e.m1) e.c1)))
def refX (rd f r1 r2 g : Nat) : List Ext → Code
  | [] => nil_
  | e :: l => bif pX e rd f r1 r2 g then e.code else refX rd f r1 r2 g l
theorem beq_dec (a b : Nat) : Nat.beq a b = decide (a = b) := by
  rw [Bool.eq_iff_iff, decide_eq_true_eq]
  exact ⟨Nat.eq_of_beq_eq_true, fun h => by rw [h]; exact Nat.beq_refl b⟩
theorem pX_eq (r : RowS) (rd f r1 r2 g : Nat) : pX (extOf r) rd f r1 r2 g = pF r rd f r1 r2 g := by
  unfold pX pF extOf
  simp only [beq_dec]
  show (decide (g &&& _ = _) && (decide (f &&& _ = _) && (decide (r2 &&& _ = _) && (decide (rd &&& _ = _) && decide (r1 &&& _ = _))))) = _
  rw [Bool.eq_iff_iff]
  simp only [Bool.and_eq_true, decide_eq_true_eq]
  constructor
  · rintro ⟨a, b, c, d, e⟩; exact ⟨⟨⟨⟨d, b⟩, e⟩, c⟩, a⟩
  · rintro ⟨⟨⟨⟨d, b⟩, e⟩, c⟩, a⟩; exact ⟨a, b, c, d, e⟩
theorem refX_eq (rd f r1 r2 g : Nat) : ∀ l : List RowS, refX rd f r1 r2 g (l.map extOf) = match l.find? (fun r => pF r rd f r1 r2 g) with
    | none => nil_
    | some r => codeOf r := by
  intro l
  induction l with
  | nil => rfl
  | cons r l ih =>
    rw [List.map_cons, List.find?_cons]
    show (bif pX (extOf r) rd f r1 r2 g then codeOf r else refX rd f r1 r2 g (l.map extOf)) = _
    rw [pX_eq]
    cases pF r rd f r1 r2 g with
    | true => rfl
    | false => exact ih
theorem refC_X {op : Nat} {l : List Ext} (h : (rowsOf op).map extOf = l) (rd f r1 r2 g : Nat) : refC op rd f r1 r2 g = refX rd f r1 r2 g l := by
  rw [← h, refX_eq]
  rfl
def okX (l : List Ext) (op : Nat) (fs gs rs ds : List Nat) : Bool := fs.all fun f => gs.all fun g => rs.all fun r2 => ds.all fun rd => ds.all fun r1 => decide (refX rd f r1 r2 g l = progD op f g r2 rd r1)
theorem okX_at {op : Nat} {l : List Ext} (h : (rowsOf op).map extOf = l) {fs gs rs ds : List Nat} (k : okX l op fs gs rs ds = true) : okAt op fs gs rs ds = true := by
  unfold okX at k
  unfold okAt
  simp only [refC_X h]
  exact k
def X_3 : List Ext := [⟨0, 0, 7, 0, 0, 0, 0, 0, 0, 0, ⟨11, 6566217, 1, false, false⟩⟩, ⟨0, 0, 7, 1, 0, 0, 0, 0, 0, 0, ⟨11, 6566217, 2, false, false⟩⟩, ⟨0, 0, 7, 2, 0, 0, 0, 0, 0, 0, ⟨11, 6566217, 4, false, false⟩⟩, ⟨0, 0, 7, 3, 0, 0, 0, 0, 0, 0, ⟨11, 6566217, 8, false, false⟩⟩, ⟨0, 0, 7, 4, 0, 0, 0, 0, 0, 0, ⟨11, 6566217, 1, false, true⟩⟩, ⟨0, 0, 7, 5, 0, 0, 0, 0, 0, 0, ⟨11, 6566217, 2, false, true⟩⟩, ⟨0, 0, 7, 6, 0, 0, 0, 0, 0, 0, ⟨11, 6566217, 4, false, true⟩⟩]
theorem X_3_eq : (rowsOf 3).map extOf = X_3 := by rfl
def X_7 : List Ext := [⟨0, 0, 7, 2, 0, 0, 0, 0, 0, 0, ⟨53, 6566217, 4, false, false⟩⟩, ⟨0, 0, 7, 3, 0, 0, 0, 0, 0, 0, ⟨53, 6566217, 8, false, false⟩⟩]
theorem X_7_eq : (rowsOf 7).map extOf = X_7 := by rfl
def X_15 : List Ext := [⟨0, 0, 7, 0, 0, 0, 0, 0, 0, 0, ⟨31, 0, 0, false, false⟩⟩, ⟨0, 0, 7, 1, 0, 0, 0, 0, 0, 0, ⟨32, 0, 0, false, false⟩⟩]
theorem X_15_eq : (rowsOf 15).map extOf = X_15 := by rfl
def X_19 : List Ext := [⟨0, 0, 7, 0, 0, 0, 0, 0, 0, 0, ⟨13, 1680951613, 0, false, false⟩⟩, ⟨0, 0, 7, 2, 0, 0, 0, 0, 0, 0, ⟨16, 1680951613, 0, false, false⟩⟩, ⟨0, 0, 7, 3, 0, 0, 0, 0, 0, 0, ⟨17, 1680951613, 0, false, false⟩⟩, ⟨0, 0, 7, 4, 0, 0, 0, 0, 0, 0, ⟨18, 1680951613, 0, false, false⟩⟩, ⟨0, 0, 7, 6, 0, 0, 0, 0, 0, 0, ⟨21, 1680951613, 0, false, false⟩⟩, ⟨0, 0, 7, 7, 0, 0, 0, 0, 0, 0, ⟨22, 1680951613, 0, false, false⟩⟩, ⟨126, 0, 7, 1, 0, 0, 0, 0, 0, 0, ⟨15, 1680959549, 0, false, false⟩⟩, ⟨126, 0, 7, 5, 0, 0, 0, 0, 0, 0, ⟨19, 1680959549, 0, false, false⟩⟩, ⟨126, 32, 7, 5, 0, 0, 0, 0, 0, 0, ⟨20, 1680959549, 0, false, false⟩⟩]
theorem X_19_eq : (rowsOf 19).map extOf = X_19 := by rfl
def X_23 : List Ext := [⟨0, 0, 0, 0, 0, 0, 0, 0, 0, 0, ⟨2, 25685, 0, false, false⟩⟩]
theorem X_23_eq : (rowsOf 23).map extOf = X_23 := by rfl
def X_27 : List Ext := [⟨127, 0, 7, 1, 0, 0, 0, 0, 0, 0, ⟨15, 1680959549, 0, true, false⟩⟩, ⟨127, 0, 7, 5, 0, 0, 0, 0, 0, 0, ⟨19, 1680959549, 0, true, false⟩⟩, ⟨127, 32, 7, 5, 0, 0, 0, 0, 0, 0, ⟨20, 1680959549, 0, true, false⟩⟩, ⟨0, 0, 7, 0, 0, 0, 0, 0, 0, 0, ⟨13, 1680951613, 0, true, false⟩⟩]
theorem X_27_eq : (rowsOf 27).map extOf = X_27 := by rfl
def X_35 : List Ext := [⟨0, 0, 7, 0, 0, 0, 0, 0, 0, 0, ⟨12, 3224147, 1, false, false⟩⟩, ⟨0, 0, 7, 1, 0, 0, 0, 0, 0, 0, ⟨12, 3224147, 2, false, false⟩⟩, ⟨0, 0, 7, 2, 0, 0, 0, 0, 0, 0, ⟨12, 3224147, 4, false, false⟩⟩, ⟨0, 0, 7, 3, 0, 0, 0, 0, 0, 0, ⟨12, 3224147, 8, false, false⟩⟩]
theorem X_35_eq : (rowsOf 35).map extOf = X_35 := by rfl
def X_39 : List Ext := [⟨0, 0, 7, 2, 0, 0, 0, 0, 0, 0, ⟨54, 3224147, 4, false, false⟩⟩, ⟨0, 0, 7, 3, 0, 0, 0, 0, 0, 0, ⟨54, 3224147, 8, false, false⟩⟩]
theorem X_39_eq : (rowsOf 39).map extOf = X_39 := by rfl
def X_47 : List Ext := [⟨124, 8, 7, 2, 31, 0, 0, 0, 0, 0, ⟨38, 25649, 4, false, false⟩⟩, ⟨124, 12, 7, 2, 0, 0, 0, 0, 0, 0, ⟨39, 6566194, 4, false, false⟩⟩, ⟨124, 4, 7, 2, 0, 0, 0, 0, 0, 0, ⟨40, 6566194, 4, false, false⟩⟩, ⟨124, 0, 7, 2, 0, 0, 0, 0, 0, 0, ⟨41, 6566194, 4, false, false⟩⟩, ⟨124, 16, 7, 2, 0, 0, 0, 0, 0, 0, ⟨42, 6566194, 4, false, false⟩⟩, ⟨124, 48, 7, 2, 0, 0, 0, 0, 0, 0, ⟨43, 6566194, 4, false, false⟩⟩, ⟨124, 32, 7, 2, 0, 0, 0, 0, 0, 0, ⟨44, 6566194, 4, false, false⟩⟩, ⟨124, 64, 7, 2, 0, 0, 0, 0, 0, 0, ⟨45, 6566194, 4, false, false⟩⟩, ⟨124, 80, 7, 2, 0, 0, 0, 0, 0, 0, ⟨46, 6566194, 4, false, false⟩⟩, ⟨124, 96, 7, 2, 0, 0, 0, 0, 0, 0, ⟨47, 6566194, 4, false, false⟩⟩, ⟨124, 112, 7, 2, 0, 0, 0, 0, 0, 0, ⟨48, 6566194, 4, false, false⟩⟩, ⟨124, 8, 7, 3, 31, 0, 0, 0, 0, 0, ⟨38, 25649, 8, false, false⟩⟩, ⟨124, 12, 7, 3, 0, 0, 0, 0, 0, 0, ⟨39, 6566194, 8, false, false⟩⟩, ⟨124, 4, 7, 3, 0, 0, 0, 0, 0, 0, ⟨40, 6566194, 8, false, false⟩⟩, ⟨124, 0, 7, 3, 0, 0, 0, 0, 0, 0, ⟨41, 6566194, 8, false, false⟩⟩, ⟨124, 16, 7, 3, 0, 0, 0, 0, 0, 0, ⟨42, 6566194, 8, false, false⟩⟩, ⟨124, 48, 7, 3, 0, 0, 0, 0, 0, 0, ⟨43, 6566194, 8, false, false⟩⟩, ⟨124, 32, 7, 3, 0, 0, 0, 0, 0, 0, ⟨44, 6566194, 8, false, false⟩⟩, ⟨124, 64, 7, 3, 0, 0, 0, 0, 0, 0, ⟨45, 6566194, 8, false, false⟩⟩, ⟨124, 80, 7, 3, 0, 0, 0, 0, 0, 0, ⟨46, 6566194, 8, false, false⟩⟩, ⟨124, 96, 7, 3, 0, 0, 0, 0, 0, 0, ⟨47, 6566194, 8, false, false⟩⟩, ⟨124, 112, 7, 3, 0, 0, 0, 0, 0, 0, ⟨48, 6566194, 8, false, false⟩⟩]
theorem X_47_eq : (rowsOf 47).map extOf = X_47 := by rfl
def X_51 : List Ext := [⟨127, 0, 7, 0, 0, 0, 0, 0, 0, 0, ⟨13, 6566194, 0, false, false⟩⟩, ⟨127, 1, 7, 0, 0, 0, 0, 0, 0, 0, ⟨23, 6566194, 0, false, false⟩⟩, ⟨127, 0, 7, 1, 0, 0, 0, 0, 0, 0, ⟨15, 6566194, 0, false, false⟩⟩, ⟨127, 1, 7, 1, 0, 0, 0, 0, 0, 0, ⟨24, 6566194, 0, false, false⟩⟩, ⟨127, 0, 7, 2, 0, 0, 0, 0, 0, 0, ⟨16, 6566194, 0, false, false⟩⟩, ⟨127, 1, 7, 2, 0, 0, 0, 0, 0, 0, ⟨25, 6566194, 0, false, false⟩⟩, ⟨127, 0, 7, 3, 0, 0, 0, 0, 0, 0, ⟨17, 6566194, 0, false, false⟩⟩, ⟨127, 1, 7, 3, 0, 0, 0, 0, 0, 0, ⟨26, 6566194, 0, false, false⟩⟩, ⟨127, 0, 7, 4, 0, 0, 0, 0, 0, 0, ⟨18, 6566194, 0, false, false⟩⟩, ⟨127, 1, 7, 4, 0, 0, 0, 0, 0, 0, ⟨27, 6566194, 0, false, false⟩⟩, ⟨127, 0, 7, 5, 0, 0, 0, 0, 0, 0, ⟨19, 6566194, 0, false, false⟩⟩, ⟨127, 1, 7, 5, 0, 0, 0, 0, 0, 0, ⟨28, 6566194, 0, false, false⟩⟩, ⟨127, 0, 7, 6, 0, 0, 0, 0, 0, 0, ⟨21, 6566194, 0, false, false⟩⟩, ⟨127, 1, 7, 6, 0, 0, 0, 0, 0, 0, ⟨29, 6566194, 0, false, false⟩⟩, ⟨127, 0, 7, 7, 0, 0, 0, 0, 0, 0, ⟨22, 6566194, 0, false, false⟩⟩, ⟨127, 1, 7, 7, 0, 0, 0, 0, 0, 0, ⟨30, 6566194, 0, false, false⟩⟩, ⟨127, 32, 7, 0, 0, 0, 0, 0, 0, 0, ⟨14, 6566194, 0, false, false⟩⟩, ⟨127, 32, 7, 5, 0, 0, 0, 0, 0, 0, ⟨20, 6566194, 0, false, false⟩⟩]
theorem X_51_eq : (rowsOf 51).map extOf = X_51 := by rfl
def X_55 : List Ext := [⟨0, 0, 0, 0, 0, 0, 0, 0, 0, 0, ⟨1, 25685, 0, false, false⟩⟩]
theorem X_55_eq : (rowsOf 55).map extOf = X_55 := by rfl
def X_59 : List Ext := [⟨127, 0, 7, 1, 0, 0, 0, 0, 0, 0, ⟨15, 6566194, 0, true, false⟩⟩, ⟨127, 0, 7, 5, 0, 0, 0, 0, 0, 0, ⟨19, 6566194, 0, true, false⟩⟩, ⟨127, 32, 7, 5, 0, 0, 0, 0, 0, 0, ⟨20, 6566194, 0, true, false⟩⟩, ⟨127, 0, 7, 0, 0, 0, 0, 0, 0, 0, ⟨13, 6566194, 0, true, false⟩⟩, ⟨127, 32, 7, 0, 0, 0, 0, 0, 0, 0, ⟨14, 6566194, 0, true, false⟩⟩, ⟨127, 1, 7, 0, 0, 0, 0, 0, 0, 0, ⟨23, 6566194, 0, true, false⟩⟩, ⟨127, 1, 7, 4, 0, 0, 0, 0, 0, 0, ⟨27, 6566194, 0, true, false⟩⟩, ⟨127, 1, 7, 5, 0, 0, 0, 0, 0, 0, ⟨28, 6566194, 0, true, false⟩⟩, ⟨127, 1, 7, 6, 0, 0, 0, 0, 0, 0, ⟨29, 6566194, 0, true, false⟩⟩, ⟨127, 1, 7, 7, 0, 0, 0, 0, 0, 0, ⟨30, 6566194, 0, true, false⟩⟩]
theorem X_59_eq : (rowsOf 59).map extOf = X_59 := by rfl
def X_67 : List Ext := [⟨3, 0, 0, 0, 0, 0, 0, 0, 0, 0, ⟨60, 430322103154, 4, false, false⟩⟩, ⟨3, 1, 0, 0, 0, 0, 0, 0, 0, 0, ⟨60, 430322103154, 8, false, false⟩⟩]
theorem X_67_eq : (rowsOf 67).map extOf = X_67 := by rfl
def X_71 : List Ext := [⟨3, 0, 0, 0, 0, 0, 0, 0, 0, 0, ⟨61, 430322103154, 4, false, false⟩⟩, ⟨3, 1, 0, 0, 0, 0, 0, 0, 0, 0, ⟨61, 430322103154, 8, false, false⟩⟩]
theorem X_71_eq : (rowsOf 71).map extOf = X_71 := by rfl
def X_75 : List Ext := [⟨3, 0, 0, 0, 0, 0, 0, 0, 0, 0, ⟨62, 430322103154, 4, false, false⟩⟩, ⟨3, 1, 0, 0, 0, 0, 0, 0, 0, 0, ⟨62, 430322103154, 8, false, false⟩⟩]
theorem X_75_eq : (rowsOf 75).map extOf = X_75 := by rfl
def X_79 : List Ext := [⟨3, 0, 0, 0, 0, 0, 0, 0, 0, 0, ⟨63, 430322103154, 4, false, false⟩⟩, ⟨3, 1, 0, 0, 0, 0, 0, 0, 0, 0, ⟨63, 430322103154, 8, false, false⟩⟩]
theorem X_79_eq : (rowsOf 79).map extOf = X_79 := by rfl
def X_83 : List Ext := [⟨127, 0, 0, 0, 0, 0, 0, 0, 0, 0, ⟨55, 1680945778, 4, false, false⟩⟩, ⟨127, 4, 0, 0, 0, 0, 0, 0, 0, 0, ⟨56, 1680945778, 4, false, false⟩⟩, ⟨127, 8, 0, 0, 0, 0, 0, 0, 0, 0, ⟨57, 1680945778, 4, false, false⟩⟩, ⟨127, 12, 0, 0, 0, 0, 0, 0, 0, 0, ⟨58, 1680945778, 4, false, false⟩⟩, ⟨127, 44, 0, 0, 31, 0, 0, 0, 0, 0, ⟨59, 6566258, 4, false, false⟩⟩, ⟨127, 16, 7, 0, 0, 0, 0, 0, 0, 0, ⟨64, 6566194, 4, false, false⟩⟩, ⟨127, 80, 7, 2, 0, 0, 0, 0, 0, 0, ⟨69, 6566194, 4, false, false⟩⟩, ⟨127, 20, 7, 0, 0, 0, 0, 0, 0, 0, ⟨67, 6566194, 4, false, false⟩⟩, ⟨127, 16, 7, 1, 0, 0, 0, 0, 0, 0, ⟨65, 6566194, 4, false, false⟩⟩, ⟨127, 80, 7, 1, 0, 0, 0, 0, 0, 0, ⟨70, 6566194, 4, false, false⟩⟩, ⟨127, 20, 7, 1, 0, 0, 0, 0, 0, 0, ⟨68, 6566194, 4, false, false⟩⟩, ⟨127, 16, 7, 2, 0, 0, 0, 0, 0, 0, ⟨66, 6566194, 4, false, false⟩⟩, ⟨127, 80, 7, 0, 0, 0, 0, 0, 0, 0, ⟨71, 6566194, 4, false, false⟩⟩, ⟨127, 32, 0, 0, 31, 1, 0, 0, 0, 0, ⟨75, 6566258, 4, false, false⟩⟩, ⟨127, 96, 0, 0, 31, 0, 0, 0, 0, 0, ⟨73, 6566258, 4, true, false⟩⟩, ⟨127, 104, 0, 0, 31, 0, 0, 0, 0, 0, ⟨74, 6566258, 4, true, false⟩⟩, ⟨127, 96, 0, 0, 31, 1, 0, 0, 0, 0, ⟨73, 6566258, 4, true, true⟩⟩, ⟨127, 104, 0, 0, 31, 1, 0, 0, 0, 0, ⟨74, 6566258, 4, true, true⟩⟩, ⟨127, 96, 0, 0, 31, 2, 0, 0, 0, 0, ⟨73, 6566258, 4, false, false⟩⟩, ⟨127, 104, 0, 0, 31, 2, 0, 0, 0, 0, ⟨74, 6566258, 4, false, false⟩⟩, ⟨127, 96, 0, 0, 31, 3, 0, 0, 0, 0, ⟨73, 6566258, 4, false, true⟩⟩, ⟨127, 104, 0, 0, 31, 3, 0, 0, 0, 0, ⟨74, 6566258, 4, false, true⟩⟩, ⟨127, 112, 7, 0, 31, 0, 0, 0, 0, 0, ⟨76, 25649, 4, false, false⟩⟩, ⟨127, 112, 7, 1, 31, 0, 0, 0, 0, 0, ⟨72, 25649, 4, false, false⟩⟩, ⟨127, 120, 7, 0, 31, 0, 0, 0, 0, 0, ⟨77, 25649, 4, false, false⟩⟩, ⟨127, 1, 0, 0, 0, 0, 0, 0, 0, 0, ⟨55, 1680945778, 8, false, false⟩⟩, ⟨127, 5, 0, 0, 0, 0, 0, 0, 0, 0, ⟨56, 1680945778, 8, false, false⟩⟩, ⟨127, 9, 0, 0, 0, 0, 0, 0, 0, 0, ⟨57, 1680945778, 8, false, false⟩⟩, ⟨127, 13, 0, 0, 0, 0, 0, 0, 0, 0, ⟨58, 1680945778, 8, false, false⟩⟩, ⟨127, 45, 0, 0, 31, 0, 0, 0, 0, 0, ⟨59, 6566258, 8, false, false⟩⟩, ⟨127, 17, 7, 0, 0, 0, 0, 0, 0, 0, ⟨64, 6566194, 8, false, false⟩⟩, ⟨127, 81, 7, 2, 0, 0, 0, 0, 0, 0, ⟨69, 6566194, 8, false, false⟩⟩, ⟨127, 21, 7, 0, 0, 0, 0, 0, 0, 0, ⟨67, 6566194, 8, false, false⟩⟩, ⟨127, 17, 7, 1, 0, 0, 0, 0, 0, 0, ⟨65, 6566194, 8, false, false⟩⟩, ⟨127, 81, 7, 1, 0, 0, 0, 0, 0, 0, ⟨70, 6566194, 8, false, false⟩⟩, ⟨127, 21, 7, 1, 0, 0, 0, 0, 0, 0, ⟨68, 6566194, 8, false, false⟩⟩, ⟨127, 17, 7, 2, 0, 0, 0, 0, 0, 0, ⟨66, 6566194, 8, false, false⟩⟩, ⟨127, 81, 7, 0, 0, 0, 0, 0, 0, 0, ⟨71, 6566194, 8, false, false⟩⟩, ⟨127, 33, 0, 0, 31, 0, 0, 0, 0, 0, ⟨75, 6566258, 8, false, false⟩⟩, ⟨127, 97, 0, 0, 31, 0, 0, 0, 0, 0, ⟨73, 6566258, 8, true, false⟩⟩, ⟨127, 105, 0, 0, 31, 0, 0, 0, 0, 0, ⟨74, 6566258, 8, true, false⟩⟩, ⟨127, 97, 0, 0, 31, 1, 0, 0, 0, 0, ⟨73, 6566258, 8, true, true⟩⟩, ⟨127, 105, 0, 0, 31, 1, 0, 0, 0, 0, ⟨74, 6566258, 8, true, true⟩⟩, ⟨127, 97, 0, 0, 31, 2, 0, 0, 0, 0, ⟨73, 6566258, 8, false, false⟩⟩, ⟨127, 105, 0, 0, 31, 2, 0, 0, 0, 0, ⟨74, 6566258, 8, false, false⟩⟩, ⟨127, 97, 0, 0, 31, 3, 0, 0, 0, 0, ⟨73, 6566258, 8, false, true⟩⟩, ⟨127, 105, 0, 0, 31, 3, 0, 0, 0, 0, ⟨74, 6566258, 8, false, true⟩⟩, ⟨127, 113, 7, 0, 31, 0, 0, 0, 0, 0, ⟨76, 25649, 8, false, false⟩⟩, ⟨127, 113, 7, 1, 31, 0, 0, 0, 0, 0, ⟨72, 25649, 8, false, false⟩⟩, ⟨127, 121, 7, 0, 31, 0, 0, 0, 0, 0, ⟨77, 25649, 8, false, false⟩⟩]
theorem X_83_eq : (rowsOf 83).map extOf = X_83 := by rfl
def X_99 : List Ext := [⟨0, 0, 7, 0, 0, 0, 0, 0, 0, 0, ⟨5, 3224130, 0, false, false⟩⟩, ⟨0, 0, 7, 1, 0, 0, 0, 0, 0, 0, ⟨6, 3224130, 0, false, false⟩⟩, ⟨0, 0, 7, 4, 0, 0, 0, 0, 0, 0, ⟨7, 3224130, 0, false, false⟩⟩, ⟨0, 0, 7, 5, 0, 0, 0, 0, 0, 0, ⟨8, 3224130, 0, false, false⟩⟩, ⟨0, 0, 7, 6, 0, 0, 0, 0, 0, 0, ⟨9, 3224130, 0, false, false⟩⟩, ⟨0, 0, 7, 7, 0, 0, 0, 0, 0, 0, ⟨10, 3224130, 0, false, false⟩⟩]
theorem X_99_eq : (rowsOf 99).map extOf = X_99 := by rfl
def X_103 : List Ext := [⟨0, 0, 7, 0, 0, 0, 0, 0, 0, 0, ⟨4, 6566217, 0, false, false⟩⟩]
theorem X_103_eq : (rowsOf 103).map extOf = X_103 := by rfl
def X_111 : List Ext := [⟨0, 0, 0, 0, 0, 0, 0, 0, 0, 0, ⟨3, 25674, 0, false, false⟩⟩]
theorem X_111_eq : (rowsOf 111).map extOf = X_111 := by rfl
def X_115 : List Ext := [⟨127, 0, 7, 0, 31, 0, 31, 0, 31, 0, ⟨33, 0, 0, false, false⟩⟩, ⟨127, 0, 7, 0, 31, 1, 31, 0, 31, 0, ⟨34, 0, 0, false, false⟩⟩, ⟨127, 8, 7, 0, 31, 2, 31, 0, 31, 0, ⟨50, 0, 0, false, false⟩⟩, ⟨127, 24, 7, 0, 31, 2, 31, 0, 31, 0, ⟨49, 0, 0, false, false⟩⟩, ⟨127, 8, 7, 0, 31, 5, 31, 0, 31, 0, ⟨51, 0, 0, false, false⟩⟩, ⟨127, 9, 7, 0, 0, 0, 31, 0, 0, 0, ⟨52, 12594, 0, false, false⟩⟩, ⟨0, 0, 7, 1, 0, 0, 0, 0, 0, 0, ⟨35, 6566243, 0, false, false⟩⟩, ⟨0, 0, 7, 5, 0, 0, 0, 0, 0, 0, ⟨35, 1684240957, 0, false, false⟩⟩, ⟨0, 0, 7, 2, 0, 0, 0, 0, 0, 0, ⟨36, 6566243, 0, false, false⟩⟩, ⟨0, 0, 7, 6, 0, 0, 0, 0, 0, 0, ⟨36, 1684240957, 0, false, false⟩⟩, ⟨0, 0, 7, 3, 0, 0, 0, 0, 0, 0, ⟨37, 6566243, 0, false, false⟩⟩, ⟨0, 0, 7, 7, 0, 0, 0, 0, 0, 0, ⟨37, 1684240957, 0, false, false⟩⟩]
theorem X_115_eq : (rowsOf 115).map extOf = X_115 := by rfl
theorem okX_get {l : List Ext} {op : Nat} {fs gs rs ds : List Nat} (h : okX l op fs gs rs ds = true) {f g r2 rd r1 : Nat} (hf : f ∈ fs) (hg : g ∈ gs) (hr : r2 ∈ rs) (h1 : rd ∈ ds) (h2 : r1 ∈ ds) : refX rd f r1 r2 g l = progD op f g r2 rd r1 := by
  unfold okX at h
  exact of_decide_eq_true (List.all_eq_true.1 (List.all_eq_true.1 (List.all_eq_true.1 (List.all_eq_true.1 (List.all_eq_true.1 h f hf) g hg) r2 hr) rd h1) r1 h2)
theorem okAt_of {op : Nat} {gs ds : List Nat} (h : ∀ f, f < 8 → ∀ g, g ∈ gs → ∀ r2, r2 < 32 → ∀ rd, rd ∈ ds → ∀ r1, r1 ∈ ds → refC op rd f r1 r2 g = progD op f g r2 rd r1) : okAt op (List.range 8) gs (List.range 32) ds = true := by
  unfold okAt
  exact List.all_eq_true.2 fun f hf => List.all_eq_true.2 fun g hg => List.all_eq_true.2 fun r2 hr => List.all_eq_true.2 fun rd h1 => List.all_eq_true.2 fun r1 h2 => decide_eq_true (h f (List.mem_range.1 hf) g hg r2 (List.mem_range.1 hr) rd h1 r1 h2)
theorem cases8 {f : Nat} (h : f < 8) : f = 0 ∨ f = 1 ∨ f = 2 ∨ f = 3 ∨ f = 4 ∨ f = 5 ∨ f = 6 ∨ f = 7 := by omega
end Go.Proofs.Ytopbdiekfhikmaa
