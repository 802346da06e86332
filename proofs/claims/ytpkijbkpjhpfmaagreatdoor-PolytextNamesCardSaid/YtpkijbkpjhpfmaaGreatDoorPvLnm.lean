/- Part PvLnm. -/
import Derived.Test.YtpkijbkpjhpfmaaGreatDoorPv36
import Derived.Test.YtpkijbkpjhpfmaaGreatDoorPvBCx1

set_option linter.all false
set_option maxRecDepth 100000
set_option maxHeartbeats 100000000
namespace Go.Proofs.YtpkijbkpjhpfmaaGreatDoor
open Tryz Go Go.RowKit
variable {s:ByteArray} {nc nn:Nat} {na:Option Addr} {w:World}
theorem Gq{names:List (List UInt8)}(y:AE w)(r:Bt w na nn nc names):Calls prog 3 #[.string s,.slice na nn nc] w (Il w):=by have i:=fun(g:World) (q:Ext w g)=>qh (IC (y.ext q));have d:=qh (Gz r);by_cases h100:s.size<=100;(case neg=>(have h1:(100:Int)<(s.size:Int):=by omega);go_enter func3,ntmps3;go_wp2_with fail;refine(i _ (Ext.refl _)).out.mono ?_;rintro e t ⟨rfl,c⟩;go_wp2;go_ret;exact⟨rfl,c⟩);(have h1:¬(100:Int)<(s.size:Int):=by omega);cases hF:JD names with|false=>{rw[hF]at d;clear hF;go_enter func3,ntmps3;go_wp2_with fail;refine d.out.mono ?_;rintro e f ⟨rfl,a⟩;rw[a];clear a f;go_wp2_with fail;refine(i _ (Ext.refl _)).out.mono ?_;rintro e t ⟨rfl,c⟩;go_wp2;go_ret;exact⟨rfl,c⟩}|true=>rw[hF]at d;have l:=qh (ID hF);clear hF;have m:=fun g=>qh (FN s g (by omega));have n:=fun g=>qh (Em s g (by omega));have o:=fun(g:World) (q:Ext w g)=>qh (Ch (r.ext q) l.out);have p:=fun(g:World) (q:Ext w g)=>qh (D1 (r.ext q) l.out);generalize Pt.vName (Ab s)=v at*;generalize Pt.vNames names=x at*;(have j:∀b:Bool,(b==b)=true:=fun b=>by cases b<;>rfl);have z:=j v;have A:=j x;clear j;go_enter func3,ntmps3;go_wp2_with fail;refine d.out.mono ?_;rintro e f ⟨rfl,a⟩;rw[a];clear a f d;go_wp2_with fail;refine(m _).out.mono ?_;rintro e f ⟨rfl,a⟩;rw[a];clear a f m;go_wp2_with fail;refine(n _).out.mono ?_;rintro e f ⟨rfl,a⟩;rw[a];clear a f n;go_wp2_with fail;refine(o _ (Ext.refl _)).out.mono ?_;rintro e f ⟨rfl,a⟩;rw[a];clear a f o;go_wp2_with fail;refine(p _ (Ext.refl _)).out.mono ?_;rintro e f ⟨rfl,k,a⟩;rw[a];clear a f p;go_wp2_with fail;refine(i _ ((Ext.refl w).drewN k)).out.mono ?_;rintro e t ⟨rfl,c⟩;go_wp2;go_ret;exact⟨rfl,((Ext.refl w).drewN k).trans c⟩
end Go.Proofs.YtpkijbkpjhpfmaaGreatDoor
