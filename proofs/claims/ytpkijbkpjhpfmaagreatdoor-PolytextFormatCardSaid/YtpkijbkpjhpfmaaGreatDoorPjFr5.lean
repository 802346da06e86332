/- Part PjFr5. -/
import Derived.Test.YtpkijbkpjhpfmaaGreatDoorPj43
import Derived.Test.YtpkijbkpjhpfmaaGreatDoorRows
set_option linter.all false
set_option maxRecDepth 100000
set_option maxHeartbeats 100000000
namespace Go.Proofs.YtpkijbkpjhpfmaaGreatDoor
open Go Go.RowKit
variable {W:World}
theorem h64:Tryz.prog.globalNamed "math/bits.deBruijn64tab" = some 4:=by kernel_rfl
theorem VX:Tryz.prog.globalNamed "internal/strconv.uint64pow10" = some 1:=by kernel_rfl
theorem TBh:(Rows.laid_math_bits_deBruijn64tab:DataW Unit)=Lib.tabData .u8 (Lib.deBruijn64tab.map Int.ofNat):=by kernel_rfl
theorem Ss:(Rows.laid_internal_strconv_uint64pow10:DataW Unit)=Lib.tabData .u64 Lib.pow10Tab:=by kernel_rfl
theorem Jv(h:laidMetH Tryz.prog [("math/bits.deBruijn32tab",Rows.laid_math_bits_deBruijn32tab),("math/bits.deBruijn64tab",Rows.laid_math_bits_deBruijn64tab),("internal/strconv.uint64pow10",Rows.laid_internal_strconv_uint64pow10),("strconv.ErrRange",Rows.laid_strconv_ErrRange),("strconv.ErrSyntax",Rows.laid_strconv_ErrSyntax)] W):AE W:=by rw[MakeChecks.laidMetH_plain _ _ _ (by kernel_rfl)]at h;have h1:=laidMet.tail h;have h2:=laidMet.tail h1;rw[TBh]at h1;rw[Ss]at h2;have b:=Lib.tabIs_of_head h64 (t:=290) (e:=5) (n:=64) (by kernel_rfl) Tryz.underlying290 Tryz.underlying5 (by kernel_rfl) (by kernel_rfl) h1;have c:=Lib.tabIs_of_head VX (t:=270) (e:=156) (n:=20) (by kernel_rfl) Tryz.underlying270 Tryz.underlying156 (by kernel_rfl) (by kernel_rfl) h2;refine⟨fun j a=>?_,c⟩;have h3:=b.cell h64 j (by simpa using a);rw[h3];simp[a]
end Go.Proofs.YtpkijbkpjhpfmaaGreatDoor
