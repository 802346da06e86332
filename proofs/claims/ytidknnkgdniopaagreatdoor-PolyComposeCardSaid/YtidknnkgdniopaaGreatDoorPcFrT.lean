/- Part PcFrT. -/
import Derived.Test.YtidknnkgdniopaaGreatDoorPc15
import Derived.Test.YtidknnkgdniopaaGreatDoorRows
set_option linter.all false
set_option maxRecDepth 100000
set_option maxHeartbeats 0
namespace Go.Proofs.YtidknnkgdniopaaGreatDoor
open Go Go.RowKit
variable {W:World}
theorem g64:Tryz.prog.globalNamed "math/bits.deBruijn64tab" = some 1:=by kernel_rfl
theorem ZN:Tryz.prog.globalNamed "internal/strconv.uint64pow10" = some 0:=by kernel_rfl
theorem YL:(Rows.laid_math_bits_deBruijn64tab:DataW Unit)=Lib.tabData .u8 (Lib.deBruijn64tab.map Int.ofNat):=by kernel_rfl
theorem W9:(Rows.laid_internal_strconv_uint64pow10:DataW Unit)=Lib.tabData .u64 Lib.pow10Tab:=by kernel_rfl
theorem Xa(h:laidMetH Tryz.prog [("math/bits.deBruijn32tab",Rows.laid_math_bits_deBruijn32tab),("math/bits.deBruijn64tab",Rows.laid_math_bits_deBruijn64tab),("internal/strconv.uint64pow10",Rows.laid_internal_strconv_uint64pow10)] W):AY W:=by rw[MakeChecks.laidMetH_plain _ _ _ (by kernel_rfl)]at h;have h1:=laidMet.tail h;have h2:=laidMet.tail h1;rw[YL]at h1;rw[W9]at h2;have b:=Lib.tabIs_of_head g64 (t:=263) (e:=5) (n:=64) (by kernel_rfl) Tryz.underlying263 Tryz.underlying5 (by kernel_rfl) (by kernel_rfl) h1;have c:=Lib.tabIs_of_head ZN (t:=248) (e:=172) (n:=20) (by kernel_rfl) Tryz.underlying248 Tryz.underlying172 (by kernel_rfl) (by kernel_rfl) h2;refine⟨fun j a=>?_,c⟩;have h3:=b.cell g64 j (by simpa using a);rw[h3];simp[a]
end Go.Proofs.YtidknnkgdniopaaGreatDoor
