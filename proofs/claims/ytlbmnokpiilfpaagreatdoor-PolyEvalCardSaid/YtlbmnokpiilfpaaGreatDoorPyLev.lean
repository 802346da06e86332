/- Part PyLev. -/
import Derived.Test.YtlbmnokpiilfpaaGreatDoorPyEvp

set_option linter.all false
set_option maxRecDepth 100000
set_option maxHeartbeats 100000000
namespace Go.Proofs.YtlbmnokpiilfpaaGreatDoor
open Tryz Go Go.RowKit
variable {f:Act} {ops:Array Oper} {Q:Exit->Act->World->Prop} {va:Int} {rest:List Oper} {c g n:Nat} {o:Oper} {x:Operand} {a b:Option Addr} {P:Program} {t:TypeId} {w:World}
theorem SR(s:ByteArray):(s == s)=true:=by
 show(s.data == s.data)=true;simp
theorem PSl.one{b:List Tx}(h:Arr w g 28 (As va a n c))(d:Be w a n c b):PSl w (some ⟨g,0,none⟩) 1 1 [(va,b)]:=by
 refine⟨_,Cj h rfl,rfl,fun i e => ?_⟩;obtain rfl:i=0:=by omega
 exact⟨a,n,c,rfl,d⟩
theorem Fs{a:List Tx}:(∀ p∈[(va,a)],Bf p.2 8 12)<->Bf a 8 12:=by simp
theorem GI(b:o.guard=none)(d:o.op = .buildSlice t 1 #[(0,x)])
 {r0 r1:Value} {e:TypeId} {zs:List Value} {bytes:Nat} (g:P.underlying t=some (.slice e)) (a:BT P e zs 2 bytes) (i:f.eval x = .agg #[r0,r1])
 (h:wpList P ops Q rest (f.put o.dst (.slice (some ⟨w.heap.size,0,none⟩) 1 1)) (w.alloc (.cells #[r0,r1] e))):wpList P ops Q (o :: rest) f w:=by
 refine iI b fun _ c => ?_;unfold Oper.wp execOp;simp only[d,jo,iz,jg,i,gI,Jt g a,p9,gS];exact c _ _ h
theorem L8{N ca m d:Nat}{K:List Tx}{xs:List (List UInt8)}(L:AV w)(ha:Be w a N ca K)(R:Db w b m d xs) :
 Calls prog 9 #[.agg #[.int .i64 va,.slice a N ca],.slice b m d] w (Tl w):=by
 have p:=fun(wx:World) (hC:Ext w wx)=>qh (Qh (L.ext hC));have H:m<=maxLen:=by obtain⟨_,hS,_⟩:=R;exact oS hS.cap hS.max
 unfold maxLen at H;have o:=qh R
 go_enter func9,ntmps9
 go_upto_region 1 with(fail)
 refine AM ?_;intro V B A U;have g:=PBx.one B A ha;clear B A U ha R;have l:Ext V (V.alloc (.cells #[.int .i64 va,.slice a N ca] 28)):=(Ext.refl _).alloc _;have f:=qh (Qi (n:=1) (PSl.one (Arr.new V 28 (As va a N ca)) ((g.t (i:=0) rfl).ext l)) (by omega));by_cases q:Bf K 8 12;rotate_left
 · obtain⟨j,k⟩:=g.c (i:=0) rfl;rw[pb (fun h=>q (Fs.1 h))]at f
   go_wp2_with(refine GI rfl rfl underlying75 Fi rfl ?_)
   refine f.out.mono ?_;rintro e ag ⟨rfl,hF⟩;replace g:=g.ext (l.trans hF);clear f hF l j k;clear q
   go_wp2_with fail
   refine(p _ g.e).out.mono ?_;rintro e ah ⟨rfl,hF⟩;go_wp2;go_ret;exact⟨rfl,g.e.trans hF⟩
 by_cases M:m<=10;rotate_left
 · have T:(10:Int)<m:=by omega
   obtain⟨j,k⟩:=g.c (i:=0) rfl;rw[gX (Fs.2 q)]at f
   go_wp2_with(refine GI rfl rfl underlying75 Fi rfl ?_)
   refine f.out.mono ?_;rintro e ai ⟨rfl,hF⟩;replace g:=g.ext (l.trans hF);clear f hF l j k;clear q M
   go_wp2_with fail
   refine(p _ g.e).out.mono ?_;rintro e aj ⟨rfl,hF⟩;go_wp2;go_ret;exact⟨rfl,g.e.trans hF⟩
 have T:¬ (10:Int)<m:=by omega
 have s:=qh q;have HZ:=qh M;by_cases I:xs.all (fun x=>decide (x.length<=12))=true;rotate_left
 · have J:xs.all (fun x=>decide (x.length<=12))=false:=by simpa using I
   obtain⟨j,k⟩:=g.c (i:=0) rfl;rw[gX (Fs.2 q)]at f
   go_wp2_with(refine GI rfl rfl underlying75 Fi rfl ?_)
   refine f.out.mono ?_;rintro e ak ⟨rfl,hF⟩;replace g:=g.ext (l.trans hF);clear f hF l j k;clear q M;have f:=qh (Jb (m:=12) (o.out.ext g.e));rw[J]at f;clear I J
   go_wp2_with fail
   refine f.out.mono ?_;rintro e Y ⟨rfl,rfl⟩;clear f
   go_wp2_with fail
   refine(p _ g.e).out.mono ?_;rintro e al ⟨rfl,hF⟩;go_wp2;go_ret;exact⟨rfl,g.e.trans hF⟩
 have SX:Hid (∀ x∈xs,x.length<=12):=qh (fun x h=>by have:=j9.1 I x h;simpa using this);obtain⟨j,k⟩:=g.c (i:=0) rfl;rw[gX (Fs.2 q)]at f
 go_wp2_with(refine GI rfl rfl underlying75 Fi rfl ?_)
 refine f.out.mono ?_;rintro e am ⟨rfl,hF⟩;replace g:=g.ext (l.trans hF);clear f hF l j k;clear q M;have f:=qh (Jb (m:=12) (o.out.ext g.e));rw[I]at f
 go_wp2_with fail
 refine f.out.mono ?_;rintro e Y ⟨rfl,rfl⟩;clear f I;obtain⟨⟨s1,e1⟩,h1⟩:∃ r,evA va m (rdP va K) (rdAll xs)=r:=⟨_,rfl⟩;have H1:=qh h1;clear h1;obtain⟨P,D⟩:∃ S:ByteArray,⟨s1.toArray⟩=S:=⟨_,rfl⟩;have v:=qh D;clear D;obtain⟨⟨s2,e2⟩,h2⟩:∃ r,contA (rdP va K)=r:=⟨_,rfl⟩;have H2:=qh h2;clear h2;obtain⟨Q,E⟩:∃ S:ByteArray,⟨s2.toArray⟩=S:=⟨_,rfl⟩;have y:=qh E;clear E;obtain⟨⟨O,t3,e3⟩,h3⟩:∃ r,primA va (rdP va K)=r:=⟨_,rfl⟩;have H3:=qh h3;clear h3;obtain⟨j,k⟩:=g.c (i:=0) rfl
 have f:=qh (OM H1.out (L.ext g.e) (g.t (i:=0) rfl) (o.out.ext g.e) s.out SX.out HZ.out);unfold Cl at f;rw[v.out]at f
 go_wp2_with fail
 refine f.out.mono ?_;rintro e an ⟨rfl,hF⟩;replace g:=g.ext hF;clear f hF j k;obtain⟨j,k⟩:=g.c (i:=0) rfl;have f:=qh (Np H1.out (g.t (i:=0) rfl) (o.out.ext g.e) s.out SX.out HZ.out);unfold Cl at f;rw[v.out]at f
 go_wp2_with fail
 refine f.out.mono ?_;rintro e ao ⟨rfl,hF⟩;replace g:=g.ext hF;clear f hF j k;obtain⟨j,k⟩:=g.c (i:=0) rfl;have f:=qh (Kq H2.out (L.ext g.e) (g.t (i:=0) rfl) s.out);unfold Cl at f;rw[y.out]at f
 go_wp2_with fail
 refine f.out.mono ?_;rintro e ap ⟨rfl,hF⟩;replace g:=g.ext hF;clear f hF j k;obtain⟨j,k⟩:=g.c (i:=0) rfl;have f:=qh (J4 H2.out (g.t (i:=0) rfl) s.out);unfold Cl at f;rw[y.out]at f
 go_wp2_with fail
 refine f.out.mono ?_;rintro e aq ⟨rfl,hF⟩;replace g:=g.ext hF;clear f hF j k;obtain⟨j,k⟩:=g.c (i:=0) rfl;have f:=qh (Is H3.out (L.ext g.e) (g.t (i:=0) rfl) s.out)
 go_wp2_with fail
 refine f.out.mono ?_;rintro e W ⟨a5,a9,a7,rfl,hF,C⟩;have F:=Arr.new W 28 (As 0 none 0 0);clear f j k
 go_upto_region 8 with(refine O8 rfl rfl rfl rfl F rfl ?_;intro a3 z G)
 replace g:=g.new hF C z G;clear F z G hF C;obtain⟨j,k⟩:=g.c (i:=0) rfl;have f:=qh (Hl H3.out (g.t (i:=0) rfl) s.out)
 go_wp2_with fail
 refine f.out.mono ?_;rintro e X ⟨a6,aa,a8,rfl,hF,C⟩;have F:=Arr.new X 28 (As 0 none 0 0);clear f j k
 go_upto_region 9 with(refine O8 rfl rfl rfl rfl F rfl ?_;intro a4 z G)
 replace g:=g.new hF C z G;clear F z G hF C;have ae:=SR P;have af:=SR Q;have ab:(e1 == e1)=true:=by simp
 have ac:(e2 == e2)=true:=by simp
 have ad:(e3 == e3)=true:=by simp
 obtain⟨Z,a0⟩:=g.c (i:=1) rfl;obtain⟨a1,a2⟩:=g.c (i:=2) rfl;have f:=qh (NZ (va:=O) (vb:=O) (g.t (i:=1) rfl) (g.t (i:=2) rfl));rw[show decide (O=O/\t3=t3)=true by simp]at f
 go_wp2_with fail
 refine f.out.mono ?_;rintro e ar ⟨rfl,hF⟩;replace g:=g.ext hF;clear f hF Z a0 a1 a2
 go_wp2_with fail
 refine(p _ g.e).out.mono ?_;rintro e au ⟨rfl,hF⟩;go_wp2;go_ret;exact⟨rfl,g.e.trans hF⟩
end Go.Proofs.YtlbmnokpiilfpaaGreatDoor
