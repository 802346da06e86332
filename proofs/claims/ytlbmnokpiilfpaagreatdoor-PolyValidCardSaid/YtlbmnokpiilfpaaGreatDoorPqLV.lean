/- Part PqLV. -/
import Derived.Test.YtlbmnokpiilfpaaGreatDoorPqBx1

set_option linter.all false
set_option maxRecDepth 100000
set_option maxHeartbeats 100000000
namespace Go.Proofs.YtlbmnokpiilfpaaGreatDoor
open Tryz Go Go.RowKit
variable {s t:ByteArray} {va vb:Int} {ms:List Int} {a b mA:Option Addr} {w:World}
theorem Ci{a b:List Tx}:(∀ p∈[(va,a),(vb,b)],Av p.2 8 12)<->Av a 8 12/\Av b 8 12:=by simp
theorem YC(s:ByteArray):(s == s)=true:=by
 cases s with
 | mk d =>
 show(d == d)=true;simp
theorem YZ(s:ByteArray):(s != s)=false:=by simp[bne,YC]
def YY(l:List UInt8)(v:Value):Prop:=∃ s:ByteArray,v = .string s/\An s=l
theorem JE(h:An s=An t):s=t:=by
 have h1:s.data=t.data:=Array.toList_inj.1 h;cases s;cases t;cases h1;rfl
theorem XK{e f:List Tx}{la lb:List Pl.Tm}(c:rdR va e=some la)(d:rdR vb f=some lb)(sa:Av e 8 12)(sb:Av f 8 12):Pl.SubOK (la ++ Pl.scl (-1) lb):=by
 have h1:=Et c (k:=12) (fun t a=>(sa.2 t a).1);have h2:=Et d (k:=12) (fun t a=>(sb.2 t a).1);have i:la.length<=8:=by rw[(AU c).1,iM];exact sa.1
 have j:lb.length<=8:=by rw[(AU d).1,iM];exact sb.1
 refine Pl.SubOK.of_rb (b:=96) (by omega) (fun t a => ?_) (by rw[iD,show(Pl.scl (-1) lb).length=lb.length from iM _];omega);rcases iw.1 a with h|h
 · exact(h1 t h).mono (by omega)
 · obtain⟨s,g,rfl⟩:=ie.1 h;exact(Pl.RB.mul Wx (h2 s g))
theorem Ly{q ca nb cb Z cm:Nat}{R tb:List Tx}(hT:AM w)(ha:AH w a q ca R)(hb:AH w b nb cb tb)(hm:SlI w mA Z cm ms) :
 Calls prog 5 #[.agg #[.int .i64 va,.slice a q ca],.agg #[.int .i64 vb,.slice b nb cb],.slice mA Z cm] w (Jz w):=by
 have ag:=fun(f:World) (d:Ext w f)=>qh (F9 (hT.ext d));have au:=hm.le
 go_enter func5,ntmps5
 go_upto_region 1 with(fail)
 refine Cf ?_;intro w0 ap aA aB aO;have p:=(PBx.one ap aA ha).app (PBx.one ap aB hb);have aw:=qh ha.len;have ao:q<=maxLen:=by obtain⟨aL,hS,_⟩:=ha;exact hS.le
 clear ap aA aB aO ha hb;have ac:Ext w0 (w0.alloc (.cells #[.int .i64 va,.slice a q ca,.int .i64 vb,.slice b nb cb] 28)):=(Ext.refl _).alloc _;have H:=qh (Iy (n:=2) (PSl.two (Arr.new w0 28 (Ah va a q ca ++ Ah vb b nb cb)) ((p.t (i:=0) rfl).ext ac) ((p.t (i:=1) rfl).ext ac)) (by omega));by_cases hs:Av R 8 12/\Av tb 8 12;rotate_left
 · obtain⟨I,J⟩:=p.c (i:=0) rfl;obtain⟨a3,a4⟩:=p.c (i:=1) rfl;rw[gR (fun h=>hs (Ci.1 h))]at H
   go_wp2_with(refine Dx rfl rfl underlying75 C0 rfl rfl ?_)
   refine H.out.mono ?_;rintro e aR ⟨rfl,hF⟩;replace p:=p.ext (ac.trans hF);clear H hF ac I J a3 a4;clear hs
   go_wp2_with fail
   refine(ag _ p.e).out.mono ?_;rintro e aS ⟨rfl,hF⟩;go_wp2;go_ret;exact⟨rfl,p.e.trans hF⟩
 by_cases hz:Z<=12;rotate_left
 · have al:(12:Int)<Z:=by omega
   obtain⟨I,J⟩:=p.c (i:=0) rfl;obtain⟨a3,a4⟩:=p.c (i:=1) rfl;rw[iA (Ci.2 hs)]at H
   go_wp2_with(refine Dx rfl rfl underlying75 C0 rfl rfl ?_)
   refine H.out.mono ?_;rintro e aT ⟨rfl,hF⟩;replace p:=p.ext (ac.trans hF);clear H hF ac I J a3 a4;clear hs hz
   go_wp2_with fail
   refine(ag _ p.e).out.mono ?_;rintro e aU ⟨rfl,hF⟩;go_wp2;go_ret;exact⟨rfl,p.e.trans hF⟩
 have al:¬ (12:Int)<Z:=by omega
 have G:=qh hs.1;have S2:=qh hs.2;obtain⟨I,J⟩:=p.c (i:=0) rfl;obtain⟨a3,a4⟩:=p.c (i:=1) rfl;rw[iA (Ci.2 hs)]at H
 go_wp2_with(refine Dx rfl rfl underlying75 C0 rfl rfl ?_)
 refine H.out.mono ?_;rintro e aV ⟨rfl,hF⟩;replace p:=p.ext (ac.trans hF);clear H hF ac I J a3 a4;have aP:q<=8:=by have h1:=hs.1.1;have h2:=aw.out;omega
 clear hs hz;obtain⟨bl,ad⟩:∃ x,leadB va R=x:=⟨_,rfl⟩;have ax:=qh ad;obtain⟨I,J⟩:=p.c (i:=0) rfl;have H:=qh (NH (vars:=va) (hT.ext p.e) (p.t (i:=0) rfl) (Bz G.out (by omega)));rw[ad]at H;clear ad
 go_wp2_with fail
 refine H.out.mono ?_;rintro e am ⟨s1,a1,n1,c1,rfl,hF,aH,a5⟩;have ae:=qh aH;have hY:=Arr.new am 26 (tmL ⟨#[]⟩ none 0 0);have ar:(tmL s1 a1 n1 c1).toArray=#[.string s1,.slice a1 n1 c1]:=rfl;clear H aH I J
 go_upto_region 4 with(refine Aa (vs:=tmL s1 a1 n1 c1) rfl rfl rfl rfl rfl A4 hY rfl (CI _ _ _ _) ?_;intro wt hB hg)
 have hG:Ext am wt:=((Ext.refl am).alloc _).grownR hg (lrf _);replace p:=p.ext (hF.trans hG);replace a5:=a5.ext hG;obtain⟨X,aC⟩:∃ x,am.heap.size=x:=⟨_,rfl⟩;rw[aC]at hB |-;have l0:=hB.c 0 rfl;have l1:=hB.c 1 rfl;clear hY ar hB hg hF hG aC;obtain⟨I,J⟩:=p.c (i:=0) rfl;obtain⟨o,ho⟩:∃ o,rdR va R=o:=⟨_,rfl⟩;have ah:=qh (XV va R);have H:=qh (Bv (vars:=va) (p.t (i:=0) rfl) (Ext.refl _) (fun t F=>gJ (G.out.2 t F).1 (by omega)));rw[ho]at H ah;rw[ax.out]at ah;clear ho
 go_wp2_with fail
 refine H.out.mono ?_;rintro e an ⟨a2,n2,c2,rfl,hF,ai⟩;have az:=qh ai.sl.len;have aQ:n2<=maxLen:=gJ ai.sl.le.1 ai.sl.le.2;obtain⟨x2,aJ⟩:∃ y,(if o.isSome=true then va else 0)=y:=⟨_,rfl⟩;obtain⟨A,aq⟩:∃ y,o.isSome=y:=⟨_,rfl⟩;rw[aJ,aq];have ay:=qh aq;have hY:=Arr.new an 44 (pL 0 none 0 0);have ar:(pL x2 a2 n2 c2).toArray=#[.int .i64 x2,.slice a2 n2 c2]:=rfl;clear H aJ aq ai I J
 go_upto_region 5 with(refine Aa (vs:=pL x2 a2 n2 c2) rfl rfl rfl rfl rfl AJ hY rfl (AT _ _ _ _) ?_;intro wr hB hg)
 have hG:Ext an wr:=((Ext.refl an).alloc _).grownR hg (lrf _);have af:=hF.trans hG;replace p:=p.ext af;replace a5:=a5.ext af;replace l0:=af.cell l0;replace l1:=af.cell l1;obtain⟨Y,aD⟩:∃ x,an.heap.size=x:=⟨_,rfl⟩;rw[aD]at hB |-;have m1:=hB.c 1 rfl;clear hY ar hB hg hF hG af aD;have ad:bl=(A && decide (0<n2)):=by rw[<-ah.out,ay.out,az.out]
 have aM:(bl=false/\A=false)\/(bl=false/\A=true/\n2=0)\/(bl=true/\A=true/\0<n2):=by
  cases A with
  | false=>exact .inl ⟨by simpa using ad,rfl⟩
  | true =>
   by_cases h0:0<n2
   · exact .inr (.inr ⟨by simpa[h0]using ad,rfl,h0⟩)
   · exact .inr (.inl ⟨by simpa[h0]using ad,rfl,by omega⟩)
 clear ad ah ay az;rcases aM with⟨rfl,rfl⟩|⟨rfl,rfl,rfl⟩|⟨rfl,rfl,h0⟩
 case inl =>
  obtain rfl:s1=⟨#[]⟩:=JE (by rw[ae.out];rfl);obtain rfl:n1=0:=by have:=a5.len;simpa using this.symm
  go_upto_region 6 with(fail)
  go_quiet (fail)
  have hd:=(Ext.refl wr).drewN nq;replace p:=p.ext hd;clear l0 l1 m1 a5 ae
  go_upto_region 8 with(fail)
  generalize wr.drewN nq=E at *
  obtain⟨I,J⟩:=p.c (i:=0) rfl;obtain⟨a3,a4⟩:=p.c (i:=1) rfl;clear au al ao;obtain⟨b1,S⟩:∃ x,(rdP va R).isSome=x:=⟨_,rfl⟩;obtain⟨b2,T⟩:∃ x,(rdWF va R).isSome=x:=⟨_,rfl⟩;obtain⟨b3,U⟩:∃ x,(decide (R=tb) && decide (va=vb) && (rdP va R).isSome)=x:=⟨_,rfl⟩;obtain⟨dg,W⟩:∃ x,degP va R=x:=⟨_,rfl⟩;obtain⟨cf,V⟩:∃ x,coefP va R ms=x:=⟨_,rfl⟩;have a6:=qh (fun(f:World) (d:Ext E f)=>D7 (vars:=va) (hT.ext (p.e.trans d)) ((p.t (i:=0) rfl).ext d) (Bz G.out (by omega)))
  have a7:=qh (fun(f:World) (d:Ext E f)=>Dy (vars:=va) ((p.t (i:=0) rfl).ext d) (fun t F=>gJ (G.out.2 t F).1 (by omega)));have a8:=qh (fun(f:World) (d:Ext E f)=>Jh (vars:=va) (hT.ext (p.e.trans d)) ((p.t (i:=0) rfl).ext d) (Bz G.out (by omega)) (by omega));have a9:=qh (fun(f:World) (d:Ext E f)=>Iz (vars:=va) ((p.t (i:=0) rfl).ext d) (fun t F=>gJ (G.out.2 t F).1 (by omega)) (by omega))
  have aa:=qh (fun(f:World) (d:Ext E f)=>Ks (v1:=va) (v2:=vb) (hT.ext (p.e.trans d)) ((p.t (i:=0) rfl).ext d) ((p.t (i:=1) rfl).ext d) (Bz G.out (by omega)));have ab:=qh (fun(f:World) (d:Ext E f)=>PE (va:=va) (vb:=vb) ((p.t (i:=0) rfl).ext d) ((p.t (i:=1) rfl).ext d) (fun t F=>gJ (G.out.2 t F).1 (by omega)) (fun t F=>gJ (S2.out.2 t F).1 (by omega)) (fun la lb h1 h2 _=>XK h1 h2 G.out S2.out))
  have N:=qh (fun(f:World) (d:Ext E f)=>IM (vars:=va) (hT.ext (p.e.trans d)) ((p.t (i:=0) rfl).ext d) (Bz G.out (by omega)));have O:=qh (fun(f:World) (d:Ext E f)=>MF (vars:=va) ((p.t (i:=0) rfl).ext d) (fun t F=>gJ (G.out.2 t F).1 (by omega)));have P:=qh (fun(f:World) (d:Ext E f)=>Vl (vars:=va) (hT.ext (p.e.trans d)) ((p.t (i:=0) rfl).ext d) (hm.ext (p.e.trans d)) (Bz G.out (by omega)))
  have Q:=qh (fun(f:World) (d:Ext E f)=>QJ (vars:=va) ((p.t (i:=0) rfl).ext d) (hm.ext (p.e.trans d)) (fun t F=>gJ (G.out.2 t F).1 (by omega)));rw[S]at a6;rw[BQ,S]at a7;rw[T]at a8;rw[QI,T]at a9;rw[U]at aa;rw[Zk,U]at ab;rw[W]at N;rw[Vm,W]at O;rw[V]at P;rw[Y5,V]at Q;clear S T U W V;have K:=fun(f:World) (d:Ext E f)=>qh (And.intro (d.cell I) (And.intro (d.cell J) (And.intro (d.cell a3) (d.cell a4))))
  refine Ab (by kernel_rfl) (fun f=>Ext E f)
   [he (.agg #[.int .i64 va,.slice a q ca]),
    hp (fun v f=>v = .bool b1),
    he (.agg #[.int .i64 va,.slice a q ca]),
    hp (fun v f=>v = .bool b1),
    he (.bool true),
    he (.bool true),
    he (.agg #[.int .i64 va,.slice a q ca]),
    hp (fun v f=>v = .bool b2),
    he (.agg #[.int .i64 va,.slice a q ca]),
    hp (fun v f=>v = .bool b2),
    he (.bool true),
    he (.bool true),
    he (.bool true),
    he (.agg #[.int .i64 va,.slice a q ca]),
    he (.agg #[.int .i64 vb,.slice b nb cb]),
    hp (fun v f=>v = .bool b3),
    he (.agg #[.int .i64 va,.slice a q ca]),
    he (.agg #[.int .i64 vb,.slice b nb cb]),
    hp (fun v f=>v = .bool b3),
    he (.bool true),
    he (.bool true),
    he (.bool true),
    he (.agg #[.int .i64 va,.slice a q ca]),
    hp (fun v f=>v = .int .i64 dg),
    he (.agg #[.int .i64 va,.slice a q ca]),
    hp (fun v f=>v = .int .i64 dg),
    he (.bool true),
    he (.bool true),
    he (.bool true),
    he (.agg #[.int .i64 va,.slice a q ca]),
    he (.slice mA Z cm),
    hp (fun v f=>YY cf v),
    he (.agg #[.int .i64 va,.slice a q ca]),
    he (.slice mA Z cm),
    hp (fun v f=>YY cf v),
    he (.bool true),
    he (.bool true),
    he (.bool true),
    hp (fun v f=>v = .bool true),
    he (.bool true)]
   (by kernel_rfl) (fun _ _ e h=>h.trans e) ((Ext.refl E).drew) ⟨trivial,fun v w r e h=>h,trivial,fun v w r e h=>h,trivial,trivial,trivial,fun v w r e h=>h,trivial,fun v w r e h=>h,trivial,trivial,trivial,trivial,trivial,fun v w r e h=>h,trivial,trivial,fun v w r e h=>h,trivial,trivial,trivial,trivial,fun v w r e h=>h,trivial,fun v w r e h=>h,trivial,trivial,trivial,trivial,trivial,fun v w r e h=>h,trivial,trivial,fun v w r e h=>h,trivial,trivial,trivial,fun v w r e h=>h,trivial,trivial⟩ ⟨?o0,?o1,?o2,?o3,?o4,?o5,?o6,?o7,?o8,?o9,?o10,?o11,?o12,?o13,?o14,?o15,?o16,?o17,?o18,?o19,?o20,?o21,?o22,?o23,?o24,?o25,?o26,?o27,?o28,?o29,?o30,?o31,?o32,?o33,?o34,?o35,?o36,?o37,?o38,?o39,trivial⟩ ?fin
  case o0 | o2 | o6 | o8 | o13 | o14 | o16 | o17 | o22 | o24 | o29 | o32=>exact ol2
  case o5 | o12 | o21 | o28 | o30 | o33 | o37=>exact omv
  case o1 =>
   refine Ag rfl fun m f d g s h => ?_;have z:m (.tmp 81)=(.agg #[.int .i64 va,.slice a q ca]):=h.2.1;obtain⟨B,C,A,D⟩:=(K f d).out;refine⟨27,#[(.agg #[.int .i64 va,.slice a q ca])],by go_simp,(a6.out f d).mono ?_⟩;rintro e r ⟨rfl,l⟩;exact⟨_,rfl,l,rfl⟩
  case o3 =>
   refine Ag rfl fun m f d g s h => ?_;have z:m (.tmp 83)=(.agg #[.int .i64 va,.slice a q ca]):=h.2.1;obtain⟨B,C,A,D⟩:=(K f d).out;refine⟨28,#[(.agg #[.int .i64 va,.slice a q ca])],by go_simp,(a7.out f d).mono ?_⟩;rintro e r ⟨rfl,l⟩;exact⟨_,rfl,l,rfl⟩
  case o4 =>
   refine Aj rfl fun m f d g h => ?_;obtain⟨v0,e0,rfl⟩:=h.1;obtain⟨v1,z,rfl⟩:=h.2.1;go_simp
  case o7 =>
   refine Ag rfl fun m f d g s h => ?_;have z:m (.tmp 87)=(.agg #[.int .i64 va,.slice a q ca]):=h.2.1;obtain⟨B,C,A,D⟩:=(K f d).out;refine⟨29,#[(.agg #[.int .i64 va,.slice a q ca])],by go_simp,(a8.out f d).mono ?_⟩;rintro e r ⟨rfl,l⟩;exact⟨_,rfl,l,rfl⟩
  case o9 =>
   refine Ag rfl fun m f d g s h => ?_;have z:m (.tmp 89)=(.agg #[.int .i64 va,.slice a q ca]):=h.2.1;obtain⟨B,C,A,D⟩:=(K f d).out;refine⟨30,#[(.agg #[.int .i64 va,.slice a q ca])],by go_simp,(a9.out f d).mono ?_⟩;rintro e r ⟨rfl,l⟩;exact⟨_,rfl,l,rfl⟩
  case o10 =>
   refine Aj rfl fun m f d g h => ?_;obtain⟨v0,e0,rfl⟩:=h.1;obtain⟨v1,z,rfl⟩:=h.2.1;go_simp
  case o11 =>
   refine Aj rfl fun m f d g h => ?_;have e0:m (.tmp 86)=(.bool true):=h.1;have z:m (.tmp 91)=(.bool true):=h.2.1;obtain⟨B,C,A,D⟩:=(K f d).out;go_simp
  case o15 =>
   refine Ag rfl fun m f d g s h => ?_;have z:m (.tmp 94)=(.agg #[.int .i64 va,.slice a q ca]):=h.2.1;have e2:m (.tmp 95)=(.agg #[.int .i64 vb,.slice b nb cb]):=h.2.2.1;obtain⟨B,C,A,D⟩:=(K f d).out;refine⟨31,#[(.agg #[.int .i64 va,.slice a q ca]),(.agg #[.int .i64 vb,.slice b nb cb])],by go_simp,(aa.out f d).mono ?_⟩;rintro e r ⟨rfl,l⟩;exact⟨_,rfl,l,rfl⟩
  case o18 =>
   refine Ag rfl fun m f d g s h => ?_;have z:m (.tmp 97)=(.agg #[.int .i64 va,.slice a q ca]):=h.2.1;have e2:m (.tmp 98)=(.agg #[.int .i64 vb,.slice b nb cb]):=h.2.2.1;obtain⟨B,C,A,D⟩:=(K f d).out;refine⟨32,#[(.agg #[.int .i64 va,.slice a q ca]),(.agg #[.int .i64 vb,.slice b nb cb])],by go_simp,(ab.out f d).mono ?_⟩;rintro e r ⟨rfl,l⟩;exact⟨_,rfl,l,rfl⟩
  case o19 =>
   refine Aj rfl fun m f d g h => ?_;obtain⟨v0,e0,rfl⟩:=h.1;obtain⟨v1,z,rfl⟩:=h.2.1;go_simp
  case o20 =>
   refine Aj rfl fun m f d g h => ?_;have e0:m (.tmp 93)=(.bool true):=h.1;have z:m (.tmp 100)=(.bool true):=h.2.1;obtain⟨B,C,A,D⟩:=(K f d).out;go_simp
  case o23 =>
   refine Ag rfl fun m f d g s h => ?_;have z:m (.tmp 103)=(.agg #[.int .i64 va,.slice a q ca]):=h.2.1;obtain⟨B,C,A,D⟩:=(K f d).out;refine⟨33,#[(.agg #[.int .i64 va,.slice a q ca])],by go_simp,(N.out f d).mono ?_⟩;rintro e r ⟨rfl,l⟩;exact⟨_,rfl,l,rfl⟩
  case o25 =>
   refine Ag rfl fun m f d g s h => ?_;have z:m (.tmp 105)=(.agg #[.int .i64 va,.slice a q ca]):=h.2.1;obtain⟨B,C,A,D⟩:=(K f d).out;refine⟨34,#[(.agg #[.int .i64 va,.slice a q ca])],by go_simp,(O.out f d).mono ?_⟩;rintro e r ⟨rfl,l⟩;exact⟨_,rfl,l,rfl⟩
  case o26 =>
   refine Aj rfl fun m f d g h => ?_;obtain⟨v0,e0,rfl⟩:=h.1;obtain⟨v1,z,rfl⟩:=h.2.1;go_simp
  case o27 =>
   refine Aj rfl fun m f d g h => ?_;have e0:m (.tmp 102)=(.bool true):=h.1;have z:m (.tmp 107)=(.bool true):=h.2.1;obtain⟨B,C,A,D⟩:=(K f d).out;go_simp
  case o31 =>
   refine Ag rfl fun m f d g s h => ?_;have z:m (.tmp 110)=(.agg #[.int .i64 va,.slice a q ca]):=h.2.1;have e2:m (.tmp 111)=(.slice mA Z cm):=h.2.2.1;obtain⟨B,C,A,D⟩:=(K f d).out;refine⟨35,#[(.agg #[.int .i64 va,.slice a q ca]),(.slice mA Z cm)],by go_simp,(P.out f d).mono ?_⟩;rintro e r ⟨s',rfl,h',l⟩;exact⟨_,rfl,l,s',rfl,h'⟩
  case o34 =>
   refine Ag rfl fun m f d g s h => ?_;have z:m (.tmp 113)=(.agg #[.int .i64 va,.slice a q ca]):=h.2.1;have e2:m (.tmp 114)=(.slice mA Z cm):=h.2.2.1;obtain⟨B,C,A,D⟩:=(K f d).out;refine⟨36,#[(.agg #[.int .i64 va,.slice a q ca]),(.slice mA Z cm)],by go_simp,(Q.out f d).mono ?_⟩;rintro e r ⟨s',rfl,h',l⟩;exact⟨_,rfl,l,s',rfl,h'⟩
  case o35 =>
   refine Aj rfl fun m f d g h => ?_;obtain⟨v0,e0,s0,rfl,i0⟩:=h.1;obtain⟨v1,z,s1,rfl,i1⟩:=h.2.1;obtain rfl:s0=s1:=JE (i0.trans i1.symm);have aj:=YC s0;go_simp
  case o36 =>
   refine Aj rfl fun m f d g h => ?_;have e0:m (.tmp 109)=(.bool true):=h.1;have z:m (.tmp 116)=(.bool true):=h.2.1;obtain⟨B,C,A,D⟩:=(K f d).out;go_simp
  case o38 =>
   refine Ag rfl fun m f d g s h => ?_;obtain⟨B,C,A,D⟩:=(K f d).out;refine⟨11,#[],by go_simp,((ag _ (p.e.trans d)).out).mono ?_⟩;rintro e r ⟨rfl,l⟩;exact⟨_,rfl,l,rfl⟩
  case o39 =>
   refine Aj rfl fun m f d g h => ?_;have e0:m (.tmp 118)=(.bool true):=h.1;obtain⟨v1,z,rfl⟩:=h.2.1;obtain⟨B,C,A,D⟩:=(K f d).out;go_simp
  case fin =>
   intro f d;rintro _ rfl;rintro _ rfl;rintro _ rfl;rintro _ rfl;rintro _ rfl;rintro _ rfl;rintro _ rfl;rintro _ rfl;rintro _ _;rintro _ _;rintro _ rfl;change wpList _ _ _ _ _ _;simp only[lq,lw,lx,lz,Act.put,lj,lk,ly];go_wp2;go_ret;exact⟨rfl,p.e.trans d⟩
 case inr.inl =>
  obtain rfl:s1=⟨#[]⟩:=JE (by rw[ae.out];rfl);obtain rfl:n1=0:=by have:=a5.len;simpa using this.symm
  have aE:¬ ((0:Int)<((0:Nat):Int)):=by omega
  go_upto_region 6 with(fail)
  go_quiet (fail)
  have hd:=(Ext.refl wr).drewN nq;replace p:=p.ext hd;clear l0 l1 m1 a5 ae
  go_upto_region 8 with(fail)
  generalize wr.drewN nq=E at *
  obtain⟨I,J⟩:=p.c (i:=0) rfl;obtain⟨a3,a4⟩:=p.c (i:=1) rfl;clear au al ao;obtain⟨b1,S⟩:∃ x,(rdP va R).isSome=x:=⟨_,rfl⟩;obtain⟨b2,T⟩:∃ x,(rdWF va R).isSome=x:=⟨_,rfl⟩;obtain⟨b3,U⟩:∃ x,(decide (R=tb) && decide (va=vb) && (rdP va R).isSome)=x:=⟨_,rfl⟩;obtain⟨dg,W⟩:∃ x,degP va R=x:=⟨_,rfl⟩;obtain⟨cf,V⟩:∃ x,coefP va R ms=x:=⟨_,rfl⟩;have a6:=qh (fun(f:World) (d:Ext E f)=>D7 (vars:=va) (hT.ext (p.e.trans d)) ((p.t (i:=0) rfl).ext d) (Bz G.out (by omega)))
  have a7:=qh (fun(f:World) (d:Ext E f)=>Dy (vars:=va) ((p.t (i:=0) rfl).ext d) (fun t F=>gJ (G.out.2 t F).1 (by omega)));have a8:=qh (fun(f:World) (d:Ext E f)=>Jh (vars:=va) (hT.ext (p.e.trans d)) ((p.t (i:=0) rfl).ext d) (Bz G.out (by omega)) (by omega));have a9:=qh (fun(f:World) (d:Ext E f)=>Iz (vars:=va) ((p.t (i:=0) rfl).ext d) (fun t F=>gJ (G.out.2 t F).1 (by omega)) (by omega))
  have aa:=qh (fun(f:World) (d:Ext E f)=>Ks (v1:=va) (v2:=vb) (hT.ext (p.e.trans d)) ((p.t (i:=0) rfl).ext d) ((p.t (i:=1) rfl).ext d) (Bz G.out (by omega)));have ab:=qh (fun(f:World) (d:Ext E f)=>PE (va:=va) (vb:=vb) ((p.t (i:=0) rfl).ext d) ((p.t (i:=1) rfl).ext d) (fun t F=>gJ (G.out.2 t F).1 (by omega)) (fun t F=>gJ (S2.out.2 t F).1 (by omega)) (fun la lb h1 h2 _=>XK h1 h2 G.out S2.out))
  have N:=qh (fun(f:World) (d:Ext E f)=>IM (vars:=va) (hT.ext (p.e.trans d)) ((p.t (i:=0) rfl).ext d) (Bz G.out (by omega)));have O:=qh (fun(f:World) (d:Ext E f)=>MF (vars:=va) ((p.t (i:=0) rfl).ext d) (fun t F=>gJ (G.out.2 t F).1 (by omega)));have P:=qh (fun(f:World) (d:Ext E f)=>Vl (vars:=va) (hT.ext (p.e.trans d)) ((p.t (i:=0) rfl).ext d) (hm.ext (p.e.trans d)) (Bz G.out (by omega)))
  have Q:=qh (fun(f:World) (d:Ext E f)=>QJ (vars:=va) ((p.t (i:=0) rfl).ext d) (hm.ext (p.e.trans d)) (fun t F=>gJ (G.out.2 t F).1 (by omega)));rw[S]at a6;rw[BQ,S]at a7;rw[T]at a8;rw[QI,T]at a9;rw[U]at aa;rw[Zk,U]at ab;rw[W]at N;rw[Vm,W]at O;rw[V]at P;rw[Y5,V]at Q;clear S T U W V;have L:=fun(f:World) (d:Ext E f)=>qh (And.intro (d.cell I) (And.intro (d.cell J) (And.intro (d.cell a3) (d.cell a4))))
  refine Ab (by kernel_rfl) (fun f=>Ext E f)
   [he (.agg #[.int .i64 va,.slice a q ca]),
    hp (fun v f=>v = .bool b1),
    he (.agg #[.int .i64 va,.slice a q ca]),
    hp (fun v f=>v = .bool b1),
    he (.bool true),
    he (.bool true),
    he (.agg #[.int .i64 va,.slice a q ca]),
    hp (fun v f=>v = .bool b2),
    he (.agg #[.int .i64 va,.slice a q ca]),
    hp (fun v f=>v = .bool b2),
    he (.bool true),
    he (.bool true),
    he (.bool true),
    he (.agg #[.int .i64 va,.slice a q ca]),
    he (.agg #[.int .i64 vb,.slice b nb cb]),
    hp (fun v f=>v = .bool b3),
    he (.agg #[.int .i64 va,.slice a q ca]),
    he (.agg #[.int .i64 vb,.slice b nb cb]),
    hp (fun v f=>v = .bool b3),
    he (.bool true),
    he (.bool true),
    he (.bool true),
    he (.agg #[.int .i64 va,.slice a q ca]),
    hp (fun v f=>v = .int .i64 dg),
    he (.agg #[.int .i64 va,.slice a q ca]),
    hp (fun v f=>v = .int .i64 dg),
    he (.bool true),
    he (.bool true),
    he (.bool true),
    he (.agg #[.int .i64 va,.slice a q ca]),
    he (.slice mA Z cm),
    hp (fun v f=>YY cf v),
    he (.agg #[.int .i64 va,.slice a q ca]),
    he (.slice mA Z cm),
    hp (fun v f=>YY cf v),
    he (.bool true),
    he (.bool true),
    he (.bool true),
    hp (fun v f=>v = .bool true),
    he (.bool true)]
   (by kernel_rfl) (fun _ _ e h=>h.trans e) ((Ext.refl E).drew) ⟨trivial,fun v w r e h=>h,trivial,fun v w r e h=>h,trivial,trivial,trivial,fun v w r e h=>h,trivial,fun v w r e h=>h,trivial,trivial,trivial,trivial,trivial,fun v w r e h=>h,trivial,trivial,fun v w r e h=>h,trivial,trivial,trivial,trivial,fun v w r e h=>h,trivial,fun v w r e h=>h,trivial,trivial,trivial,trivial,trivial,fun v w r e h=>h,trivial,trivial,fun v w r e h=>h,trivial,trivial,trivial,fun v w r e h=>h,trivial,trivial⟩ ⟨?oB0,?oB1,?oB2,?oB3,?oB4,?oB5,?oB6,?oB7,?oB8,?oB9,?oB10,?oB11,?oB12,?oB13,?oB14,?oB15,?oB16,?oB17,?oB18,?oB19,?oB20,?oB21,?oB22,?oB23,?oB24,?oB25,?oB26,?oB27,?oB28,?oB29,?oB30,?oB31,?oB32,?oB33,?oB34,?oB35,?oB36,?oB37,?oB38,?oB39,trivial⟩ ?finB
  case oB0=>exact ol2 rfl rfl (fun _ _=>id) ⟨by kernel_rfl,by kernel_rfl⟩ (by assumption) (by assumption)
  case oB1 =>
   refine Ag rfl fun m f d g s h => ?_;have z:m (.tmp 81)=(.agg #[.int .i64 va,.slice a q ca]):=h.2.1;obtain⟨B,C,A,D⟩:=(L f d).out;refine⟨27,#[(.agg #[.int .i64 va,.slice a q ca])],by go_simp,(a6.out f d).mono ?_⟩;rintro e r ⟨rfl,l⟩;exact⟨_,rfl,l,rfl⟩
  case oB2=>exact ol2 rfl rfl (fun _ _=>id) ⟨by kernel_rfl,by kernel_rfl⟩ (by assumption) (by assumption)
  case oB3 =>
   refine Ag rfl fun m f d g s h => ?_;have z:m (.tmp 83)=(.agg #[.int .i64 va,.slice a q ca]):=h.2.1;obtain⟨B,C,A,D⟩:=(L f d).out;refine⟨28,#[(.agg #[.int .i64 va,.slice a q ca])],by go_simp,(a7.out f d).mono ?_⟩;rintro e r ⟨rfl,l⟩;exact⟨_,rfl,l,rfl⟩
  case oB4 =>
   refine Aj rfl fun m f d g h => ?_;obtain⟨v0,e0,rfl⟩:=h.1;obtain⟨v1,z,rfl⟩:=h.2.1;go_simp
  case oB5=>exact omv rfl rfl (fun _ _=>id)
  case oB6=>exact ol2 rfl rfl (fun _ _=>id) ⟨by kernel_rfl,by kernel_rfl⟩ (by assumption) (by assumption)
  case oB7 =>
   refine Ag rfl fun m f d g s h => ?_;have z:m (.tmp 87)=(.agg #[.int .i64 va,.slice a q ca]):=h.2.1;obtain⟨B,C,A,D⟩:=(L f d).out;refine⟨29,#[(.agg #[.int .i64 va,.slice a q ca])],by go_simp,(a8.out f d).mono ?_⟩;rintro e r ⟨rfl,l⟩;exact⟨_,rfl,l,rfl⟩
  case oB8=>exact ol2 rfl rfl (fun _ _=>id) ⟨by kernel_rfl,by kernel_rfl⟩ (by assumption) (by assumption)
  case oB9 =>
   refine Ag rfl fun m f d g s h => ?_;have z:m (.tmp 89)=(.agg #[.int .i64 va,.slice a q ca]):=h.2.1;obtain⟨B,C,A,D⟩:=(L f d).out;refine⟨30,#[(.agg #[.int .i64 va,.slice a q ca])],by go_simp,(a9.out f d).mono ?_⟩;rintro e r ⟨rfl,l⟩;exact⟨_,rfl,l,rfl⟩
  case oB10 =>
   refine Aj rfl fun m f d g h => ?_;obtain⟨v0,e0,rfl⟩:=h.1;obtain⟨v1,z,rfl⟩:=h.2.1;go_simp
  case oB11 =>
   refine Aj rfl fun m f d g h => ?_;have e0:m (.tmp 86)=(.bool true):=h.1;have z:m (.tmp 91)=(.bool true):=h.2.1;obtain⟨B,C,A,D⟩:=(L f d).out;go_simp
  case oB12=>exact omv rfl rfl (fun _ _=>id)
  case oB13=>exact ol2 rfl rfl (fun _ _=>id) ⟨by kernel_rfl,by kernel_rfl⟩ (by assumption) (by assumption)
  case oB14=>exact ol2 rfl rfl (fun _ _=>id) ⟨by kernel_rfl,by kernel_rfl⟩ (by assumption) (by assumption)
  case oB15 =>
   refine Ag rfl fun m f d g s h => ?_;have z:m (.tmp 94)=(.agg #[.int .i64 va,.slice a q ca]):=h.2.1;have e2:m (.tmp 95)=(.agg #[.int .i64 vb,.slice b nb cb]):=h.2.2.1;obtain⟨B,C,A,D⟩:=(L f d).out;refine⟨31,#[(.agg #[.int .i64 va,.slice a q ca]),(.agg #[.int .i64 vb,.slice b nb cb])],by go_simp,(aa.out f d).mono ?_⟩;rintro e r ⟨rfl,l⟩;exact⟨_,rfl,l,rfl⟩
  case oB16=>exact ol2 rfl rfl (fun _ _=>id) ⟨by kernel_rfl,by kernel_rfl⟩ (by assumption) (by assumption)
  case oB17=>exact ol2 rfl rfl (fun _ _=>id) ⟨by kernel_rfl,by kernel_rfl⟩ (by assumption) (by assumption)
  case oB18 =>
   refine Ag rfl fun m f d g s h => ?_;have z:m (.tmp 97)=(.agg #[.int .i64 va,.slice a q ca]):=h.2.1;have e2:m (.tmp 98)=(.agg #[.int .i64 vb,.slice b nb cb]):=h.2.2.1;obtain⟨B,C,A,D⟩:=(L f d).out;refine⟨32,#[(.agg #[.int .i64 va,.slice a q ca]),(.agg #[.int .i64 vb,.slice b nb cb])],by go_simp,(ab.out f d).mono ?_⟩;rintro e r ⟨rfl,l⟩;exact⟨_,rfl,l,rfl⟩
  case oB19 =>
   refine Aj rfl fun m f d g h => ?_;obtain⟨v0,e0,rfl⟩:=h.1;obtain⟨v1,z,rfl⟩:=h.2.1;go_simp
  case oB20 =>
   refine Aj rfl fun m f d g h => ?_;have e0:m (.tmp 93)=(.bool true):=h.1;have z:m (.tmp 100)=(.bool true):=h.2.1;obtain⟨B,C,A,D⟩:=(L f d).out;go_simp
  case oB21=>exact omv rfl rfl (fun _ _=>id)
  case oB22=>exact ol2 rfl rfl (fun _ _=>id) ⟨by kernel_rfl,by kernel_rfl⟩ (by assumption) (by assumption)
  case oB23 =>
   refine Ag rfl fun m f d g s h => ?_;have z:m (.tmp 103)=(.agg #[.int .i64 va,.slice a q ca]):=h.2.1;obtain⟨B,C,A,D⟩:=(L f d).out;refine⟨33,#[(.agg #[.int .i64 va,.slice a q ca])],by go_simp,(N.out f d).mono ?_⟩;rintro e r ⟨rfl,l⟩;exact⟨_,rfl,l,rfl⟩
  case oB24=>exact ol2 rfl rfl (fun _ _=>id) ⟨by kernel_rfl,by kernel_rfl⟩ (by assumption) (by assumption)
  case oB25 =>
   refine Ag rfl fun m f d g s h => ?_;have z:m (.tmp 105)=(.agg #[.int .i64 va,.slice a q ca]):=h.2.1;obtain⟨B,C,A,D⟩:=(L f d).out;refine⟨34,#[(.agg #[.int .i64 va,.slice a q ca])],by go_simp,(O.out f d).mono ?_⟩;rintro e r ⟨rfl,l⟩;exact⟨_,rfl,l,rfl⟩
  case oB26 =>
   refine Aj rfl fun m f d g h => ?_;obtain⟨v0,e0,rfl⟩:=h.1;obtain⟨v1,z,rfl⟩:=h.2.1;go_simp
  case oB27 =>
   refine Aj rfl fun m f d g h => ?_;have e0:m (.tmp 102)=(.bool true):=h.1;have z:m (.tmp 107)=(.bool true):=h.2.1;obtain⟨B,C,A,D⟩:=(L f d).out;go_simp
  case oB28=>exact omv rfl rfl (fun _ _=>id)
  case oB29=>exact ol2 rfl rfl (fun _ _=>id) ⟨by kernel_rfl,by kernel_rfl⟩ (by assumption) (by assumption)
  case oB30=>exact omv rfl rfl (fun _ _=>id)
  case oB31 =>
   refine Ag rfl fun m f d g s h => ?_;have z:m (.tmp 110)=(.agg #[.int .i64 va,.slice a q ca]):=h.2.1;have e2:m (.tmp 111)=(.slice mA Z cm):=h.2.2.1;obtain⟨B,C,A,D⟩:=(L f d).out;refine⟨35,#[(.agg #[.int .i64 va,.slice a q ca]),(.slice mA Z cm)],by go_simp,(P.out f d).mono ?_⟩;rintro e r ⟨s',rfl,h',l⟩;exact⟨_,rfl,l,s',rfl,h'⟩
  case oB32=>exact ol2 rfl rfl (fun _ _=>id) ⟨by kernel_rfl,by kernel_rfl⟩ (by assumption) (by assumption)
  case oB33=>exact omv rfl rfl (fun _ _=>id)
  case oB34 =>
   refine Ag rfl fun m f d g s h => ?_;have z:m (.tmp 113)=(.agg #[.int .i64 va,.slice a q ca]):=h.2.1;have e2:m (.tmp 114)=(.slice mA Z cm):=h.2.2.1;obtain⟨B,C,A,D⟩:=(L f d).out;refine⟨36,#[(.agg #[.int .i64 va,.slice a q ca]),(.slice mA Z cm)],by go_simp,(Q.out f d).mono ?_⟩;rintro e r ⟨s',rfl,h',l⟩;exact⟨_,rfl,l,s',rfl,h'⟩
  case oB35 =>
   refine Aj rfl fun m f d g h => ?_;obtain⟨v0,e0,s0,rfl,i0⟩:=h.1;obtain⟨v1,z,s1,rfl,i1⟩:=h.2.1;obtain rfl:s0=s1:=JE (i0.trans i1.symm);have aj:=YC s0;go_simp
  case oB36 =>
   refine Aj rfl fun m f d g h => ?_;have e0:m (.tmp 109)=(.bool true):=h.1;have z:m (.tmp 116)=(.bool true):=h.2.1;obtain⟨B,C,A,D⟩:=(L f d).out;go_simp
  case oB37=>exact omv rfl rfl (fun _ _=>id)
  case oB38 =>
   refine Ag rfl fun m f d g s h => ?_;obtain⟨B,C,A,D⟩:=(L f d).out;refine⟨11,#[],by go_simp,((ag _ (p.e.trans d)).out).mono ?_⟩;rintro e r ⟨rfl,l⟩;exact⟨_,rfl,l,rfl⟩
  case oB39 =>
   refine Aj rfl fun m f d g h => ?_;have e0:m (.tmp 118)=(.bool true):=h.1;obtain⟨v1,z,rfl⟩:=h.2.1;obtain⟨B,C,A,D⟩:=(L f d).out;go_simp
  case finB =>
   intro f d;rintro _ rfl;rintro _ rfl;rintro _ rfl;rintro _ rfl;rintro _ rfl;rintro _ rfl;rintro _ rfl;rintro _ rfl;rintro _ _;rintro _ _;rintro _ rfl;change wpList _ _ _ _ _ _;simp only[lq,lw,lx,lz,Act.put,lj,lk,ly];go_wp2;go_ret;exact⟨rfl,p.e.trans d⟩
 case inr.inr =>
  have aE:(0:Int)<(n2:Int):=by omega
  have aK:0<R.length:=by have h1:=ax.out;unfold leadB at h1;exact(kE h1).2
  have ak:0<q:=by have:=aw.out;omega
  clear aK;obtain⟨I,J⟩:=p.c (i:=0) rfl;obtain⟨aL,hS,_,hq⟩:=p.t (i:=0) rfl;obtain⟨s0,a0,n0,c0,av,aG,aI⟩:=hq 0 ak;obtain rfl:s1=s0:=JE (by rw[ae.out,aG,gY rfl]);obtain⟨bb,oo,rfl,-⟩:=hS.rd ak;have r0:wr.cell? ⟨bb,oo,none⟩=some (.string s1):=by have:=hS.cl ak (j:=0) (by omega);rw[av]at this;simpa using this
  have r1:wr.cell? ⟨bb,oo+1,none⟩=some (.slice a0 n0 c0):=by have:=hS.cl ak (j:=1) (by omega);rw[av]at this;simpa using this
  have aF:=fun k:Nat=>qh ((LT (a5.ext ((Ext.refl wr).drewN k)) (aI.ext ((Ext.refl wr).drewN k))).mono (fun e r (h:e = .returned (.bool (decide ((if true=true then(R.getD 0 tm0).2 else [])=(R.getD 0 tm0).2)))/\_)=>(⟨h.1.trans (by simp),h.2⟩:e = .returned (.bool true)/\Qt _ r)));clear hq hS av aG aI a5 ae
  go_upto_region 6 with(fail)
  have aN:=YZ s1;have aj:=YC s1;have hd0:decide (0<n2)=true:=iA h0
  go_quiet ((go_at_call 26;exact lS (aF _).out))
  have hd:=(Ext.refl wr).drewN nq;replace p:=p.ext hd;clear l0 l1 m1 aF r0 r1 I J aN aj hd0 h0 aE
  go_upto_region 8 with(fail)
  generalize wr.drewN nq=E at *
  generalize (some (⟨bb,oo,none⟩:Addr))=a at *
  obtain⟨I,J⟩:=p.c (i:=0) rfl;obtain⟨a3,a4⟩:=p.c (i:=1) rfl;clear au al ao;obtain⟨b1,S⟩:∃ x,(rdP va R).isSome=x:=⟨_,rfl⟩;obtain⟨b2,T⟩:∃ x,(rdWF va R).isSome=x:=⟨_,rfl⟩;obtain⟨b3,U⟩:∃ x,(decide (R=tb) && decide (va=vb) && (rdP va R).isSome)=x:=⟨_,rfl⟩;obtain⟨dg,W⟩:∃ x,degP va R=x:=⟨_,rfl⟩;obtain⟨cf,V⟩:∃ x,coefP va R ms=x:=⟨_,rfl⟩;have a6:=qh (fun(f:World) (d:Ext E f)=>D7 (vars:=va) (hT.ext (p.e.trans d)) ((p.t (i:=0) rfl).ext d) (Bz G.out (by omega)))
  have a7:=qh (fun(f:World) (d:Ext E f)=>Dy (vars:=va) ((p.t (i:=0) rfl).ext d) (fun t F=>gJ (G.out.2 t F).1 (by omega)));have a8:=qh (fun(f:World) (d:Ext E f)=>Jh (vars:=va) (hT.ext (p.e.trans d)) ((p.t (i:=0) rfl).ext d) (Bz G.out (by omega)) (by omega));have a9:=qh (fun(f:World) (d:Ext E f)=>Iz (vars:=va) ((p.t (i:=0) rfl).ext d) (fun t F=>gJ (G.out.2 t F).1 (by omega)) (by omega))
  have aa:=qh (fun(f:World) (d:Ext E f)=>Ks (v1:=va) (v2:=vb) (hT.ext (p.e.trans d)) ((p.t (i:=0) rfl).ext d) ((p.t (i:=1) rfl).ext d) (Bz G.out (by omega)));have ab:=qh (fun(f:World) (d:Ext E f)=>PE (va:=va) (vb:=vb) ((p.t (i:=0) rfl).ext d) ((p.t (i:=1) rfl).ext d) (fun t F=>gJ (G.out.2 t F).1 (by omega)) (fun t F=>gJ (S2.out.2 t F).1 (by omega)) (fun la lb h1 h2 _=>XK h1 h2 G.out S2.out))
  have N:=qh (fun(f:World) (d:Ext E f)=>IM (vars:=va) (hT.ext (p.e.trans d)) ((p.t (i:=0) rfl).ext d) (Bz G.out (by omega)));have O:=qh (fun(f:World) (d:Ext E f)=>MF (vars:=va) ((p.t (i:=0) rfl).ext d) (fun t F=>gJ (G.out.2 t F).1 (by omega)));have P:=qh (fun(f:World) (d:Ext E f)=>Vl (vars:=va) (hT.ext (p.e.trans d)) ((p.t (i:=0) rfl).ext d) (hm.ext (p.e.trans d)) (Bz G.out (by omega)))
  have Q:=qh (fun(f:World) (d:Ext E f)=>QJ (vars:=va) ((p.t (i:=0) rfl).ext d) (hm.ext (p.e.trans d)) (fun t F=>gJ (G.out.2 t F).1 (by omega)));rw[S]at a6;rw[BQ,S]at a7;rw[T]at a8;rw[QI,T]at a9;rw[U]at aa;rw[Zk,U]at ab;rw[W]at N;rw[Vm,W]at O;rw[V]at P;rw[Y5,V]at Q;clear S T U W V;have M:=fun(f:World) (d:Ext E f)=>qh (And.intro (d.cell I) (And.intro (d.cell J) (And.intro (d.cell a3) (d.cell a4))))
  refine Ab (by kernel_rfl) (fun f=>Ext E f)
   [he (.agg #[.int .i64 va,.slice a q ca]),
    hp (fun v f=>v = .bool b1),
    he (.agg #[.int .i64 va,.slice a q ca]),
    hp (fun v f=>v = .bool b1),
    he (.bool true),
    he (.bool true),
    he (.agg #[.int .i64 va,.slice a q ca]),
    hp (fun v f=>v = .bool b2),
    he (.agg #[.int .i64 va,.slice a q ca]),
    hp (fun v f=>v = .bool b2),
    he (.bool true),
    he (.bool true),
    he (.bool true),
    he (.agg #[.int .i64 va,.slice a q ca]),
    he (.agg #[.int .i64 vb,.slice b nb cb]),
    hp (fun v f=>v = .bool b3),
    he (.agg #[.int .i64 va,.slice a q ca]),
    he (.agg #[.int .i64 vb,.slice b nb cb]),
    hp (fun v f=>v = .bool b3),
    he (.bool true),
    he (.bool true),
    he (.bool true),
    he (.agg #[.int .i64 va,.slice a q ca]),
    hp (fun v f=>v = .int .i64 dg),
    he (.agg #[.int .i64 va,.slice a q ca]),
    hp (fun v f=>v = .int .i64 dg),
    he (.bool true),
    he (.bool true),
    he (.bool true),
    he (.agg #[.int .i64 va,.slice a q ca]),
    he (.slice mA Z cm),
    hp (fun v f=>YY cf v),
    he (.agg #[.int .i64 va,.slice a q ca]),
    he (.slice mA Z cm),
    hp (fun v f=>YY cf v),
    he (.bool true),
    he (.bool true),
    he (.bool true),
    hp (fun v f=>v = .bool true),
    he (.bool true)]
   (by kernel_rfl) (fun _ _ e h=>h.trans e) ((Ext.refl E).drew) ⟨trivial,fun v w r e h=>h,trivial,fun v w r e h=>h,trivial,trivial,trivial,fun v w r e h=>h,trivial,fun v w r e h=>h,trivial,trivial,trivial,trivial,trivial,fun v w r e h=>h,trivial,trivial,fun v w r e h=>h,trivial,trivial,trivial,trivial,fun v w r e h=>h,trivial,fun v w r e h=>h,trivial,trivial,trivial,trivial,trivial,fun v w r e h=>h,trivial,trivial,fun v w r e h=>h,trivial,trivial,trivial,fun v w r e h=>h,trivial,trivial⟩ ⟨?oC0,?oC1,?oC2,?oC3,?oC4,?oC5,?oC6,?oC7,?oC8,?oC9,?oC10,?oC11,?oC12,?oC13,?oC14,?oC15,?oC16,?oC17,?oC18,?oC19,?oC20,?oC21,?oC22,?oC23,?oC24,?oC25,?oC26,?oC27,?oC28,?oC29,?oC30,?oC31,?oC32,?oC33,?oC34,?oC35,?oC36,?oC37,?oC38,?oC39,trivial⟩ ?finC
  case oC0=>exact ol2 rfl rfl (fun _ _=>id) ⟨by kernel_rfl,by kernel_rfl⟩ (by assumption) (by assumption)
  case oC1 =>
   refine Ag rfl fun m f d g s h => ?_;have z:m (.tmp 81)=(.agg #[.int .i64 va,.slice a q ca]):=h.2.1;obtain⟨B,C,A,D⟩:=(M f d).out;refine⟨27,#[(.agg #[.int .i64 va,.slice a q ca])],by go_simp,(a6.out f d).mono ?_⟩;rintro e r ⟨rfl,l⟩;exact⟨_,rfl,l,rfl⟩
  case oC2=>exact ol2 rfl rfl (fun _ _=>id) ⟨by kernel_rfl,by kernel_rfl⟩ (by assumption) (by assumption)
  case oC3 =>
   refine Ag rfl fun m f d g s h => ?_;have z:m (.tmp 83)=(.agg #[.int .i64 va,.slice a q ca]):=h.2.1;obtain⟨B,C,A,D⟩:=(M f d).out;refine⟨28,#[(.agg #[.int .i64 va,.slice a q ca])],by go_simp,(a7.out f d).mono ?_⟩;rintro e r ⟨rfl,l⟩;exact⟨_,rfl,l,rfl⟩
  case oC4 =>
   refine Aj rfl fun m f d g h => ?_;obtain⟨v0,e0,rfl⟩:=h.1;obtain⟨v1,z,rfl⟩:=h.2.1;go_simp
  case oC5=>exact omv rfl rfl (fun _ _=>id)
  case oC6=>exact ol2 rfl rfl (fun _ _=>id) ⟨by kernel_rfl,by kernel_rfl⟩ (by assumption) (by assumption)
  case oC7 =>
   refine Ag rfl fun m f d g s h => ?_;have z:m (.tmp 87)=(.agg #[.int .i64 va,.slice a q ca]):=h.2.1;obtain⟨B,C,A,D⟩:=(M f d).out;refine⟨29,#[(.agg #[.int .i64 va,.slice a q ca])],by go_simp,(a8.out f d).mono ?_⟩;rintro e r ⟨rfl,l⟩;exact⟨_,rfl,l,rfl⟩
  case oC8=>exact ol2 rfl rfl (fun _ _=>id) ⟨by kernel_rfl,by kernel_rfl⟩ (by assumption) (by assumption)
  case oC9 =>
   refine Ag rfl fun m f d g s h => ?_;have z:m (.tmp 89)=(.agg #[.int .i64 va,.slice a q ca]):=h.2.1;obtain⟨B,C,A,D⟩:=(M f d).out;refine⟨30,#[(.agg #[.int .i64 va,.slice a q ca])],by go_simp,(a9.out f d).mono ?_⟩;rintro e r ⟨rfl,l⟩;exact⟨_,rfl,l,rfl⟩
  case oC10 =>
   refine Aj rfl fun m f d g h => ?_;obtain⟨v0,e0,rfl⟩:=h.1;obtain⟨v1,z,rfl⟩:=h.2.1;go_simp
  case oC11 =>
   refine Aj rfl fun m f d g h => ?_;have e0:m (.tmp 86)=(.bool true):=h.1;have z:m (.tmp 91)=(.bool true):=h.2.1;obtain⟨B,C,A,D⟩:=(M f d).out;go_simp
  case oC12=>exact omv rfl rfl (fun _ _=>id)
  case oC13=>exact ol2 rfl rfl (fun _ _=>id) ⟨by kernel_rfl,by kernel_rfl⟩ (by assumption) (by assumption)
  case oC14=>exact ol2 rfl rfl (fun _ _=>id) ⟨by kernel_rfl,by kernel_rfl⟩ (by assumption) (by assumption)
  case oC15 =>
   refine Ag rfl fun m f d g s h => ?_;have z:m (.tmp 94)=(.agg #[.int .i64 va,.slice a q ca]):=h.2.1;have e2:m (.tmp 95)=(.agg #[.int .i64 vb,.slice b nb cb]):=h.2.2.1;obtain⟨B,C,A,D⟩:=(M f d).out;refine⟨31,#[(.agg #[.int .i64 va,.slice a q ca]),(.agg #[.int .i64 vb,.slice b nb cb])],by go_simp,(aa.out f d).mono ?_⟩;rintro e r ⟨rfl,l⟩;exact⟨_,rfl,l,rfl⟩
  case oC16=>exact ol2 rfl rfl (fun _ _=>id) ⟨by kernel_rfl,by kernel_rfl⟩ (by assumption) (by assumption)
  case oC17=>exact ol2 rfl rfl (fun _ _=>id) ⟨by kernel_rfl,by kernel_rfl⟩ (by assumption) (by assumption)
  case oC18 =>
   refine Ag rfl fun m f d g s h => ?_;have z:m (.tmp 97)=(.agg #[.int .i64 va,.slice a q ca]):=h.2.1;have e2:m (.tmp 98)=(.agg #[.int .i64 vb,.slice b nb cb]):=h.2.2.1;obtain⟨B,C,A,D⟩:=(M f d).out;refine⟨32,#[(.agg #[.int .i64 va,.slice a q ca]),(.agg #[.int .i64 vb,.slice b nb cb])],by go_simp,(ab.out f d).mono ?_⟩;rintro e r ⟨rfl,l⟩;exact⟨_,rfl,l,rfl⟩
  case oC19 =>
   refine Aj rfl fun m f d g h => ?_;obtain⟨v0,e0,rfl⟩:=h.1;obtain⟨v1,z,rfl⟩:=h.2.1;go_simp
  case oC20 =>
   refine Aj rfl fun m f d g h => ?_;have e0:m (.tmp 93)=(.bool true):=h.1;have z:m (.tmp 100)=(.bool true):=h.2.1;obtain⟨B,C,A,D⟩:=(M f d).out;go_simp
  case oC21=>exact omv rfl rfl (fun _ _=>id)
  case oC22=>exact ol2 rfl rfl (fun _ _=>id) ⟨by kernel_rfl,by kernel_rfl⟩ (by assumption) (by assumption)
  case oC23 =>
   refine Ag rfl fun m f d g s h => ?_;have z:m (.tmp 103)=(.agg #[.int .i64 va,.slice a q ca]):=h.2.1;obtain⟨B,C,A,D⟩:=(M f d).out;refine⟨33,#[(.agg #[.int .i64 va,.slice a q ca])],by go_simp,(N.out f d).mono ?_⟩;rintro e r ⟨rfl,l⟩;exact⟨_,rfl,l,rfl⟩
  case oC24=>exact ol2 rfl rfl (fun _ _=>id) ⟨by kernel_rfl,by kernel_rfl⟩ (by assumption) (by assumption)
  case oC25 =>
   refine Ag rfl fun m f d g s h => ?_;have z:m (.tmp 105)=(.agg #[.int .i64 va,.slice a q ca]):=h.2.1;obtain⟨B,C,A,D⟩:=(M f d).out;refine⟨34,#[(.agg #[.int .i64 va,.slice a q ca])],by go_simp,(O.out f d).mono ?_⟩;rintro e r ⟨rfl,l⟩;exact⟨_,rfl,l,rfl⟩
  case oC26 =>
   refine Aj rfl fun m f d g h => ?_;obtain⟨v0,e0,rfl⟩:=h.1;obtain⟨v1,z,rfl⟩:=h.2.1;go_simp
  case oC27 =>
   refine Aj rfl fun m f d g h => ?_;have e0:m (.tmp 102)=(.bool true):=h.1;have z:m (.tmp 107)=(.bool true):=h.2.1;obtain⟨B,C,A,D⟩:=(M f d).out;go_simp
  case oC28=>exact omv rfl rfl (fun _ _=>id)
  case oC29=>exact ol2 rfl rfl (fun _ _=>id) ⟨by kernel_rfl,by kernel_rfl⟩ (by assumption) (by assumption)
  case oC30=>exact omv rfl rfl (fun _ _=>id)
  case oC31 =>
   refine Ag rfl fun m f d g s h => ?_;have z:m (.tmp 110)=(.agg #[.int .i64 va,.slice a q ca]):=h.2.1;have e2:m (.tmp 111)=(.slice mA Z cm):=h.2.2.1;obtain⟨B,C,A,D⟩:=(M f d).out;refine⟨35,#[(.agg #[.int .i64 va,.slice a q ca]),(.slice mA Z cm)],by go_simp,(P.out f d).mono ?_⟩;rintro e r ⟨s',rfl,h',l⟩;exact⟨_,rfl,l,s',rfl,h'⟩
  case oC32=>exact ol2 rfl rfl (fun _ _=>id) ⟨by kernel_rfl,by kernel_rfl⟩ (by assumption) (by assumption)
  case oC33=>exact omv rfl rfl (fun _ _=>id)
  case oC34 =>
   refine Ag rfl fun m f d g s h => ?_;have z:m (.tmp 113)=(.agg #[.int .i64 va,.slice a q ca]):=h.2.1;have e2:m (.tmp 114)=(.slice mA Z cm):=h.2.2.1;obtain⟨B,C,A,D⟩:=(M f d).out;refine⟨36,#[(.agg #[.int .i64 va,.slice a q ca]),(.slice mA Z cm)],by go_simp,(Q.out f d).mono ?_⟩;rintro e r ⟨s',rfl,h',l⟩;exact⟨_,rfl,l,s',rfl,h'⟩
  case oC35 =>
   refine Aj rfl fun m f d g h => ?_;obtain⟨v0,e0,s0,rfl,i0⟩:=h.1;obtain⟨v1,z,s1,rfl,i1⟩:=h.2.1;obtain rfl:s0=s1:=JE (i0.trans i1.symm);have aj:=YC s0;go_simp
  case oC36 =>
   refine Aj rfl fun m f d g h => ?_;have e0:m (.tmp 109)=(.bool true):=h.1;have z:m (.tmp 116)=(.bool true):=h.2.1;obtain⟨B,C,A,D⟩:=(M f d).out;go_simp
  case oC37=>exact omv rfl rfl (fun _ _=>id)
  case oC38 =>
   refine Ag rfl fun m f d g s h => ?_;obtain⟨B,C,A,D⟩:=(M f d).out;refine⟨11,#[],by go_simp,((ag _ (p.e.trans d)).out).mono ?_⟩;rintro e r ⟨rfl,l⟩;exact⟨_,rfl,l,rfl⟩
  case oC39 =>
   refine Aj rfl fun m f d g h => ?_;have e0:m (.tmp 118)=(.bool true):=h.1;obtain⟨v1,z,rfl⟩:=h.2.1;obtain⟨B,C,A,D⟩:=(M f d).out;go_simp
  case finC =>
   intro f d;rintro _ rfl;rintro _ rfl;rintro _ rfl;rintro _ rfl;rintro _ rfl;rintro _ rfl;rintro _ rfl;rintro _ rfl;rintro _ _;rintro _ _;rintro _ rfl;change wpList _ _ _ _ _ _;simp only[lq,lw,lx,lz,Act.put,lj,lk,ly];go_wp2;go_ret;exact⟨rfl,p.e.trans d⟩
end Go.Proofs.YtlbmnokpiilfpaaGreatDoor
