/- Part PyRae. -/
import Derived.Test.YtlbmnokpiilfpaaGreatDoorPyRpa
import Derived.Test.YtlbmnokpiilfpaaGreatDoorPyNms
import Derived.Test.YtlbmnokpiilfpaaGreatDoorPy18

set_option linter.all false
set_option maxRecDepth 100000
set_option maxHeartbeats 100000000
namespace Go.Proofs.YtlbmnokpiilfpaaGreatDoor
open Tryz Go Go.RowKit
variable {R b0 k:Nat} {a x:Option Addr} {q:Rat} {w:World}
theorem PT(pt:List Rat):∀ (l m:List Pl.Tm),Pl.evq pt (l ++ m)=Pl.evq pt l+Pl.evq pt m
 | [],m=>by show Pl.evq pt m=0+Pl.evq pt m;rw[Rat.zero_add]
 | t :: l,m=>by
  show t.2*Pl.valE pt t.1 pt.length+Pl.evq pt (l ++ m)=t.2*Pl.valE pt t.1 pt.length+Pl.evq pt l+Pl.evq pt m;rw[PT pt l m,Rat.add_assoc]
theorem SU{pt:List Rat}{l:List Pl.Tm}(a:k<l.length):Pl.evq pt (l.take k)+(l.getD k tz).2*Pl.valE pt (l.getD k tz).1 pt.length=Pl.evq pt (l.take (k+1)):=by
 rw[oW a,PT,gqq,oN a];show _=Pl.evq pt (l.take k)+(l[k].2*Pl.valE pt l[k].1 pt.length+0);rw[ms];rfl
structure AtB(pt:List Rat)(l:List Pl.Tm):Prop where
 atx:∀ t∈l,t.1.length=pt.length/\∀ x∈t.1,0<=x/\x<=1000
 atp:∀ v,v<pt.length->Pl.RB 900 (pt.getD v 0)
 att:∀ t∈l,∀ k,k<=pt.length->Pl.RB 1000000 (t.2*Pl.valE pt t.1 k)
 ats:∀ k,Pl.RB 1000000 (Pl.evq pt (l.take k))
theorem QBx.at(h:QBx w R q):∃ s a n c b m d,Arr w R 99 (Ah s a n c false b m d)/\Hid (decide (q.num<0)=s)/\Mg w a n c q.num.natAbs/\Mg w b m d (AN q).natAbs:=h
theorem SV{n c m d:Nat}{I:List Pl.Tm}{pt:List Rat}(ha:TSl w b0 a n c I)(hx:QSl w x m d pt)(hn:n<=10000)(hm:m<=12)(hb:AtB pt I) :
 Calls prog 126 #[.agg (pL (m:Int) a n c).toArray,.slice x m d] w (FL w (Pl.evq pt I)):=by
 have aN:=ha.len;have aO:=hx.len;have HB:=qh hb;have a0:=qh aO;have aq:=qh aN;clear hb aO aN
 go_enter func126,ntmps126
 go_upto_region 1 with(fail)
 refine Ch ?_;intro w0 az ae aw bs;have aD:Arr w0 (w.heap.size+1) 99 (Ah false none 0 0 false none 0 0):=aw;have p0:=ae.c 0 rfl;have p1:=ae.c 1 rfl;have bx:w.heap.size+2<=w0.heap.size:=by omega
 have hY:=Arr.new w0 99 (Ah false none 0 0 false none 0 0);clear ae aw bs
 go_wp2_with(refine Aa (vs:=Ah false none 0 0 false none 0 0) rfl rfl rfl rfl rfl AE hY rfl (Ag _ _ _ _ _ _ _ _) ?_;intro w1 ax aJ)
 have M:Ext w0 w1:=((Ext.refl w0).alloc _).grownR aJ (lrf _);have aB:QBx w1 w0.heap.size (Pl.evq pt (I.take 0)):=⟨false,none,0,0,none,0,0,ax,qh rfl,Mg.nil _,Mg.nil _⟩;have ao:=az.trans M;have aE:=aD.ext M;have aU:=M.cell p0;have aV:=M.cell p1;clear hY ax aJ aD p0 p1 az M;generalize w0.heap.size=S at *
 try simp only[Act.put]
 go_loopw[6] (fun iv wr=>∃ i:Nat,iv = .int .i64 i/\i<=n/\Ext w wr/\QBx wr S (Pl.evq pt (I.take i))/\Arr wr (w.heap.size+1) 99 (Ah false none 0 0 false none 0 0)/\wr.cell? ⟨w.heap.size,0,none⟩=some (.int .i64 (m:Int))/\wr.cell? ⟨w.heap.size,1,none⟩=some (.slice a n c)) (fun iv _=>n-(intOf iv).toNat)
 case atStart=>exact⟨0,rfl,oY _,ao,aB,aE,aU,aV⟩
 case round =>
  clear ao aB aE aU aV;obtain⟨i,rfl,hi,hE,hO,hR,p0,p1⟩:=hrel;by_cases E:i<n
  case neg =>
   have b3:¬ (i:Int)<n:=by omega
   have ap:I.take i=I:=oL (by have:=aq.out;omega);rw[ap]at hO;obtain⟨W,X,V,K,Z,L,h3,a2,i3,j3,k3⟩:=hO;have z0:=a2.c 0 rfl;have z1:=a2.c 1 rfl;have z2:=a2.c 2 rfl;have z3:=a2.c 3 rfl;have bz:(Ah W X V K false Z L h3).toArray=#[.bool W,.slice X V K,.bool false,.slice Z L h3]:=rfl;clear E ap
   go_wp2_with(refine Aa (vs:=Ah W X V K false Z L h3) rfl rfl rfl rfl rfl AE hR rfl (Ag _ _ _ _ _ _ _ _) ?_;intro w9 bk bm)
   exact oM (Ai rfl AE rfl bk) rfl (Bu hE hR (by decide) bm (by omega) i3 j3 k3)
  have b3:(i:Int)<n:=by omega
  have R:i<I.length:=by have:=aq.out;omega
  obtain⟨z,C,bu,s1,x1,m1,d1,y1,g1,h1,b9,y,f1,rfl,H,g,ar,aP,aI,aR⟩:=(ha.ext hE).row E;have ba:wr.cell? ⟨z,C+i*5,none⟩=some (.bool s1):=by have:=H.cl E (j:=0) (by omega);rw[g]at this;exact this
  have bb:wr.cell? ⟨z,C+i*5+1,none⟩=some (.slice x1 m1 d1):=by have:=H.cl E (j:=1) (by omega);rw[g]at this;exact this
  have bc:wr.cell? ⟨z,C+i*5+2,none⟩=some (.bool false):=by have:=H.cl E (j:=2) (by omega);rw[g]at this;exact this
  have bd:wr.cell? ⟨z,C+i*5+3,none⟩=some (.slice y1 g1 h1):=by have:=H.cl E (j:=3) (by omega);rw[g]at this;exact this
  have bf:wr.cell? ⟨z,C+i*5+4,none⟩=some (.slice b9 y f1):=by have:=H.cl E (j:=4) (by omega);rw[g]at this;exact this
  have T:I.getD i tz∈I:=gY (getD_some R);have au:=qh (SU (pt:=pt) R);have b5:=qh (HB.out.ats i);have ad:=qh (HB.out.att _ T);have U:=HB.out.atx _ T;have an:=aR.1;generalize I.getD i tz=u at *
  obtain⟨D,aT⟩:∃ D,u.1=D:=⟨_,rfl⟩;rw[aT]at an U au ad;have bn:y=m:=by have q1:=an.len;have q2:=U.1;have q3:=a0.out;omega
  subst bn;have b6:=qh U.2;have b7:=qh U.1;have bo:(Ah s1 x1 m1 d1 false y1 g1 h1).toArray=#[.bool s1,.slice x1 m1 d1,.bool false,.slice y1 g1 h1]:=rfl;have hY:=Arr.new wr 99 (Ah false none 0 0 false none 0 0);have bw:=hE.size;clear H g T aR U aT R
  go_upto_region 6 with(refine Aa (vs:=Ah s1 x1 m1 d1 false y1 g1 h1) rfl rfl rfl rfl rfl AE hY rfl (Ag _ _ _ _ _ _ _ _) ?_;intro w5 ay aK)
  have a1:Ext wr w5:=((Ext.refl wr).alloc _).grownR aK (lrf _);have ah:QBx w5 wr.heap.size (u.2*Pl.valE pt D 0):=by
   rw[show Pl.valE pt D 0=1 from rfl,kO];exact⟨s1,x1,m1,d1,y1,g1,h1,ay,ar,aP.ext a1,aI.ext a1⟩
  have b1:S<wr.heap.size:=by obtain⟨_,_,_,_,_,_,_,h,-⟩:=hO;exact h.lt
  clear hY ay aK bo ar aP aI ba bb bc bd;obtain⟨Y,a4⟩:∃ Y,wr.heap.size=Y:=⟨_,rfl⟩;rw[a4]at ah b1;simp only[a4];have b8:=qh a4;clear a4;go_wp2
  try simp only[Act.put]
  obtain⟨wv,br⟩:∃ wv,wv=wr:=⟨_,rfl⟩;subst br
  go_loopw[8] (fun kv wr=>∃ k:Nat,kv = .int .i64 k/\k<=y/\Ext wv wr/\QBx wr Y (u.2*Pl.valE pt D k)) (fun kv _=>y-(intOf kv).toNat)
  case atStart=>exact⟨0,rfl,oY _,a1,ah⟩
  case round =>
   clear a1 ah;obtain⟨k,rfl,hk,t,a3⟩:=hrel;have bt:=t.cell p0;have aW:=t.cell p1;have aY:=t.cell bf;by_cases B:k<y
   case neg =>
    have b2:¬ (k:Int)<y:=by omega
    have aL:k=pt.length:=by have:=a0.out;omega
    obtain⟨s2,x2,m2,d2,y2,g2,h2,G,i2,j2,k2⟩:=hO.ext t;obtain⟨W,X,V,K,Z,L,h3,o,i3,j3,k3⟩:=a3;have z0:=G.c 0 rfl;have z1:=G.c 1 rfl;have z2:=G.c 2 rfl;have z3:=G.c 3 rfl;have t0:=o.c 0 rfl;have t1:=o.c 1 rfl;have t2:=o.c 2 rfl;have t3:=o.c 3 rfl
    have Q:=qh (MH (w:=wr) (v := .agg #[.bool s2,.slice x2 m2 d2,.bool false,.slice y2 g2 h2]) (p:=Pl.evq pt (I.take i)) ⟨s2,x2,m2,d2,y2,g2,h2,rfl,i2,j2,k2⟩ (v' := .agg #[.bool W,.slice X V K,.bool false,.slice Z L h3]) (q:=u.2*Pl.valE pt D k) ⟨W,X,V,K,Z,L,h3,rfl,i3,j3,k3⟩ b5.out (ad.out k (by omega)));rw[aL,au.out]at Q;clear aL B i2 j2 k2 i3 j3 k3 o
    go_wp2_with fail
    refine Q.out.mono ?_;rintro e7 w7 ⟨s7,x7,m7,d7,y7,g7,h7,rfl,O,i7,j7,k7⟩;have aC:=G.ext O;have bB:(Ah s7 x7 m7 d7 false y7 g7 h7).toArray=#[.bool s7,.slice x7 m7 d7,.bool false,.slice y7 g7 h7]:=rfl;clear G Q
    go_wp2_with(refine Aa (vs:=Ah s7 x7 m7 d7 false y7 g7 h7) rfl rfl rfl rfl rfl AE aC rfl (Ag _ _ _ _ _ _ _ _) ?_;intro w8 af A)
    have aZ:=(hE.trans t).trans O;go_roundw
    case rel =>
     refine⟨i+1,by go_num,by omega,aZ.grownR A (by omega),QBx.put aC A af i7 j7 k7,((hR.ext t).ext O).kept A (by intro e;injection e;omega),?_,?_⟩
     · exact A.cell (O.cell bt) (by simp;omega)
     · exact A.cell (O.cell aW) (by simp;omega)
    case measure=>simp[intOf];omega
   have b2:(k:Int)<y:=by omega
   obtain⟨be,oe,rfl,aH⟩:=(an.ext t).at B;have aG:=aH k B;have aS:=b6.out _ (Jp (l:=D) (k:=k) (by have:=b7.out;have:=a0.out;omega));obtain⟨N,hN⟩:∃ N:Nat,D.getD k 0=(N:Int):=⟨(D.getD k 0).toNat,by omega⟩
   have av:Hid (u.2*Pl.valE pt D k*(pt.getD k 0)^N=u.2*Pl.valE pt D (k+1)):=qh (by
    show _=u.2*(Pl.valE pt D k*(pt.getD k 0)^(D.getD k 0).toNat)
    rw[hN,jf,iB])
   rw[hN]at aG aS;clear aH hN;by_cases b4:0<N
   case neg =>
    have aX:¬ (0:Int)<N:=by omega
    have aA:N=0:=by omega
    have hv:u.2*Pl.valE pt D k=u.2*Pl.valE pt D (k+1):=by rw[<-av.out,aA,lX,kO]
    rw[hv]at a3;clear aA b4 hv;go_wp2;go_roundw
    case rel=>exact⟨k+1,by go_num,by omega,t,a3⟩
    case measure=>simp[intOf];omega
   have aX:(0:Int)<N:=by omega
   obtain⟨bp,op,bv,s2,x2,m2,d2,y2,g2,h2,bq,P,r,i2,j2,k2⟩:=(hx.ext (hE.trans t)).row B;subst bq;have bg:wr.cell? ⟨bp,op+k*4,none⟩=some (.bool s2):=by have:=P.cl B (j:=0) (by omega);rw[r]at this;exact this
   have bh:wr.cell? ⟨bp,op+k*4+1,none⟩=some (.slice x2 m2 d2):=by have:=P.cl B (j:=1) (by omega);rw[r]at this;exact this
   have bi:wr.cell? ⟨bp,op+k*4+2,none⟩=some (.bool false):=by have:=P.cl B (j:=2) (by omega);rw[r]at this;exact this
   have bj:wr.cell? ⟨bp,op+k*4+3,none⟩=some (.slice y2 g2 h2):=by have:=P.cl B (j:=3) (by omega);rw[r]at this;exact this
   obtain⟨W,X,V,K,Z,L,h3,o,i3,j3,k3⟩:=a3;have t0:=o.c 0 rfl;have t1:=o.c 1 rfl;have t2:=o.c 2 rfl;have t3:=o.c 3 rfl;have aM:k<pt.length:=by have:=a0.out;omega
   have al:=HB.out.atp k aM;have aQ:=qh (fun(s:World) (f:Ext wr s)=>Nu (b:=900) (N:=N) (v := .agg #[.bool s2,.slice x2 m2 d2,.bool false,.slice y2 g2 h2]) (q:=pt.getD k 0) ⟨s2,x2,m2,d2,y2,g2,h2,rfl,i2,j2.ext f,k2.ext f⟩ al (by omega) (by omega));have aj:=qh (fun(s:World) (f:Ext wr s) (v':Value) (hv:QV s v' ((pt.getD k 0)^N))=>Gg (v := .agg #[.bool W,.slice X V K,.bool false,.slice Z L h3]) (p:=u.2*Pl.valE pt D k) ⟨W,X,V,K,Z,L,h3,rfl,i3,j3.ext f,k3.ext f⟩ (v':=v') hv (ad.out k (by omega)) ((RB.pow al N).mono (by omega)));rw[av.out]at aj
   clear P r al aM aS i2 j2 k2
   go_upto_region 10 with(fail)
   have J:=fun(s:World) (f:Ext wr s)=>qh (And.intro (f.cell aW) (And.intro (f.cell aY) (And.intro (f.cell aG) (And.intro (f.cell t0) (And.intro (f.cell t1) (And.intro (f.cell t2) (And.intro (f.cell t3) (And.intro (f.cell bg) (And.intro (f.cell bh) (And.intro (f.cell bi) (f.cell bj)))))))))))
   refine Ac
    [he (.agg #[.bool W,.slice X V K,.bool false,.slice Z L h3]),hdS (some ⟨bp,op,none⟩) y d,hdI k,hdP bp (op+k*4),he (.agg #[.bool s2,.slice x2 m2 d2,.bool false,.slice y2 g2 h2]),hdP w.heap.size 1,hdS (some ⟨z,C,none⟩) n c,hdI i,hdP z (C+i*5),hdP z ((C+i*5)+4),hdS (some ⟨be,oe,none⟩) y f1,hdI k,hdP be (oe+k),hdI N,hp (fun v s=>QV s v ((pt.getD k 0)^N)),hp (fun v s=>QV s v (u.2*Pl.valE pt D (k+1)))]
    ⟨fun v w w' e h=>QV.ext h e,fun v w w' e h=>QV.ext h e,trivial⟩ ⟨?o0,?o1,?o2,?o3,?o4,?o5,?o6,?o7,?o8,?o9,?o10,?o11,?o12,?o13,?o14,?o15,trivial⟩ ?fin
   case o0 | o4=>exact ol4
   case o1 | o2 | o7 | o11=>exact omv
   case o5=>exact ofa (d:=1)
   case o6 | o10 | o13=>exact ol
   case o9=>exact ofa (d:=4)
   case o3 =>
    refine Ao rfl fun ρ s f F h => ?_;have e0:_=_:=h.1;have e1:_=_:=h.2.1;obtain⟨kq,kg,ke,a9,aa,ab,ac,a5,a6,a7,a8⟩:=(J s f).out;go_simp
    try (first | (intros;omega) | exact oP _ (by omega))
   case o8 =>
    refine Ao rfl fun ρ s f F h => ?_;have e0:_=_:=h.1;have e1:_=_:=h.2.1;obtain⟨kq,kg,ke,a9,aa,ab,ac,a5,a6,a7,a8⟩:=(J s f).out;go_simp
    try (first | (intros;omega) | exact oP _ (by omega))
   case o12 =>
    refine Ao rfl fun ρ s f F h => ?_;have e0:_=_:=h.1;have e1:_=_:=h.2.1;obtain⟨kq,kg,ke,a9,aa,ab,ac,a5,a6,a7,a8⟩:=(J s f).out;go_simp
    try (first | (intros;omega) | exact oP _ (by omega))
   case o14 =>
    refine Ae rfl fun ρ s f F bl h => ?_;have e1:_=_:=h.2.1;have e2:_=_:=h.2.2.1;obtain⟨kq,kg,ke,a9,aa,ab,ac,a5,a6,a7,a8⟩:=(J s f).out;refine⟨196,#[.agg #[.bool s2,.slice x2 m2 d2,.bool false,.slice y2 g2 h2],.int .i64 (N:Int)],by go_simp,(aQ.out s f).mono ?_⟩;rintro e w' ⟨s',a',n',c',b',m',d',rfl,ag,am,ak,ai⟩;exact⟨_,rfl,ag,s',a',n',c',b',m',d',rfl,am,ak,ai⟩
   case o15 =>
    refine Ae rfl fun ρ s f F bl h => ?_;have e1:_=_:=h.2.1;obtain⟨v2,e2,i2⟩:=h.2.2.1;obtain⟨kq,kg,ke,a9,aa,ab,ac,a5,a6,a7,a8⟩:=(J s f).out;refine⟨167,#[.agg #[.bool W,.slice X V K,.bool false,.slice Z L h3],v2],by go_simp,(aj.out s f v2 i2).mono ?_⟩;rintro e w' ⟨s',a',n',c',b',m',d',rfl,ag,am,ak,ai⟩;exact⟨_,rfl,ag,s',a',n',c',b',m',d',rfl,am,ak,ai⟩
   case fin =>
    intro s f;rintro _ _;rintro _ ⟨s4,x4,m4,d4,y4,g4,h4,rfl,i4,j4,k4⟩;change wpList _ _ _ _ _ _;simp only[A0];have aF:=o.ext f;have bA:(Ah s4 x4 m4 d4 false y4 g4 h4).toArray=#[.bool s4,.slice x4 m4 d4,.bool false,.slice y4 g4 h4]:=rfl;clear o aQ aj
    go_wp2_with(refine Aa (vs:=Ah s4 x4 m4 d4 false y4 g4 h4) rfl rfl rfl rfl rfl AE aF rfl (Ag _ _ _ _ _ _ _ _) ?_;intro w8 af A)
    go_roundw
    case rel=>exact⟨k+1,by go_num,by omega,(t.trans f).grownR A (by have:=b8.out;omega),QBx.put aF A af i4 j4 k4⟩
    case measure=>simp[intOf];omega
end Go.Proofs.YtlbmnokpiilfpaaGreatDoor
