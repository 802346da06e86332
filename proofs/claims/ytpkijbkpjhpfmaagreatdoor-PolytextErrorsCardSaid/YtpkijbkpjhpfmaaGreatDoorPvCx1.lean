/- Part PvCx1. -/
import Derived.Test.YtpkijbkpjhpfmaaGreatDoorPv33

set_option linter.all false
set_option maxRecDepth 100000
set_option maxHeartbeats 100000000
namespace Go.Proofs.YtpkijbkpjhpfmaaGreatDoor
open Tryz Go Go.RowKit
variable {T:ByteArray} {c n:Nat} {a:Option Addr} {w:World}
theorem KG{names:List (List UInt8)}(q:Bt w a n c names)(p:∀i,i<names.length->(names.getD i []).length<=1000000)(o:Pt.vNames names=false):Calls prog 14 #[.string T,.slice a n c] w fun e s=>e=.returned (.tuple #[.agg #[.int .i64 0,.slice none 0 0],.int .i64 0,.int .i64 14])/\Ext w s:=by have b:=fun(v:World) (r:Ext w v)=>qh (Ch (q.ext r) p);rw[o]at b;go_enter func14,ntmps14;go_upto_region 1 with(fail);refine AO ?_;intro t f d m;have k:Arr t w.heap.size 30 (Ad 0 none 0 0):=d;clear d m;go_wp2_with fail;refine(b _ f).out.mono ?_;rintro e x ⟨rfl,g⟩;rw[g];clear g x b;go_wp2_with(refine Ac 0 none 0 0 Ag k ?_;intro y j l);exact gE (KP rfl Ai rfl rfl rfl j) rfl ⟨rfl,f.grownR l (lrf _)⟩
theorem QE{names:List (List UInt8)}(r:Bt w a n c names)(q:∀i,i<names.length->(names.getD i []).length<=1000000)(o:Pt.vNames names=true)(z:8192<T.size):Calls prog 14 #[.string T,.slice a n c] w fun e t=>e=.returned (.tuple #[.agg #[.int .i64 0,.slice none 0 0],.int .i64 0,.int .i64 2])/\Ext w t:=by (have b:=fun(x:World) (s:Ext w x)=>qh (Ch (r.ext s) q);rw[o]at b;have p:(8192:Int)<(T.size:Int):=by omega);go_enter func14,ntmps14;go_upto_region 1 with(fail);refine AO ?_;intro v f d m;have k:Arr v w.heap.size 30 (Ad 0 none 0 0):=d;clear d m;go_wp2_with fail;refine(b _ f).out.mono ?_;rintro e y ⟨rfl,g⟩;rw[g];clear g y b;go_wp2_with(refine Ac 0 none 0 0 Ag k ?_;intro A j l);exact gE (KP rfl Ai rfl rfl rfl j) rfl ⟨rfl,f.grownR l (lrf _)⟩
end Go.Proofs.YtpkijbkpjhpfmaaGreatDoor
