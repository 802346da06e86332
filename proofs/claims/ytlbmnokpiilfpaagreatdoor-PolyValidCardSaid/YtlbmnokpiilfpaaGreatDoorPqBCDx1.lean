/- Part PqBCDx1. -/
import Derived.Test.YtlbmnokpiilfpaaGreatDoorPq27

set_option linter.all false
set_option maxRecDepth 100000
set_option maxHeartbeats 100000000
namespace Go.Proofs.YtlbmnokpiilfpaaGreatDoor
open Tryz Go Go.RowKit
variable {v z:Int} {c n:Nat} {a:Option Addr} {w:World}
theorem RI(q : -9223372036854775808<=z/\z<9223372036854775808):Calls prog 118 #[.int .i64 z] w (OL w (z:Rat)):=by
 go_enter func118,ntmps118
 go_upto_region 1 with(fail)
 refine AP ?_;intro r j g m;have o:Arr r w.heap.size 99 (Al false none 0 0 false none 0 0):=g;clear m
 go_wp2_with fail
 refine(IQ q).mono ?_;rintro e s ⟨s1,d,n,f,rfl,a,c,l⟩;have b:=o.ext a;have p:(Ac s1 d n f).toArray=#[.bool s1,.slice d n f]:=rfl
 go_wp2_with(refine Aa (vs:=Al s1 d n f false none 0 0) rfl rfl rfl rfl rfl By b rfl (Aq _ _ _ _ _ _ _ _) ?_;intro t i k)
 exact gF (Ap rfl By rfl i) rfl (KF (j.trans a) b (by decide) k (by omega) c l)
theorem Zl :(Instr.field 44 (.agg #[.int .i64 v,.slice a n c]) 1).run prog w = .ok (.slice a n c) w:=by kernel_rfl
end Go.Proofs.YtlbmnokpiilfpaaGreatDoor
