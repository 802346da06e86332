/- Part PaFrT. -/
import Derived.Test.YthdbingomfdeoaaGreatDoorPa14
import Derived.Test.YthdbingomfdeoaaGreatDoorRows
set_option linter.all false
set_option maxRecDepth 100000
set_option maxHeartbeats 100000000
namespace Go.Proofs.YthdbingomfdeoaaGreatDoor
open Go Go.RowKit
variable {W:World}
theorem g64:Tryz.prog.globalNamed "math/bits.deBruijn64tab" = some 1:=by kernel_rfl
theorem UJ:(Rows.laid_math_bits_deBruijn64tab:DataW Unit)=Lib.tabData .u8 (Lib.deBruijn64tab.map Int.ofNat):=by kernel_rfl
theorem Tw (h:laidMetH Tryz.prog [("math/bits.deBruijn64tab",Rows.laid_math_bits_deBruijn64tab)] W):BE W:=by
 rw[MakeChecks.laidMetH_plain _ _ _ (by kernel_rfl)]at h;rw[UJ]at h;have b:=Lib.tabIs_of_head g64 (t:=279) (e:=5) (n:=64) (by kernel_rfl) Tryz.underlying279 Tryz.underlying5 (by kernel_rfl) (by kernel_rfl) h;refine⟨fun j a => ?_⟩;have h3:=b.cell g64 j (by simpa using a);rw[h3];simp[a]
end Go.Proofs.YthdbingomfdeoaaGreatDoor
