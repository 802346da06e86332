/- Part PzRac. -/
import Derived.Test.YtlbmnokpiilfpaaGreatDoorPz17

set_option linter.all false
set_option maxRecDepth 100000
set_option maxHeartbeats 100000000
namespace Go.Proofs.YtlbmnokpiilfpaaGreatDoor
open Tryz Go Go.RowKit
variable {a xs ys:List Int} {k n:Nat} {b:Option Addr} {w:World}
def actU(a:List Int)(l:List Pl.Tm):List Pl.Tm:=l.map fun t=>(mvd a t.1,t.2)
theorem aE(a:List Int)(l:List Pl.Tm):(actU a l).length=l.length:=pH ..
theorem jf{l:List Pl.Tm}(b:k<l.length):actU a (l.take k) ++ [(mvd a (l.getD k tz).1,(l.getD k tz).2)]=actU a (l.take (k+1)):=by
 unfold actU;rw[pB b,qw,gqq,oO b];rfl
theorem TB.actU{N:Nat}{xs:List Int}{l:List Pl.Tm}(h:TB N l)(hp:G1 xs=true)(d:xs.length=N):TB N (actU xs l):=fun t b=>by
 obtain⟨s,a,rfl⟩:=pU.1 b;obtain⟨h1,h2⟩:=h s a;exact⟨by show(mvd xs s.1).length=N;rw[H5];exact h1,fun x c=>h2 x (fq hp (by omega) c)⟩
theorem eU{l:List Pl.Tm}(h:∀ t∈l,t.1.length=n):AC (actU a l)=ZC n a (AC l):=by
 unfold AC actU ZC;rw[sn,sn];refine so fun t b => ?_;have h1:=Zn (l:=t.1);rw[h t b]at h1;show(AY (mvd a t.1),t.2)=(mp n a (AY t.1),t.2);unfold mp;rw[h1]
theorem ij{a:Option Addr}{c d:Nat}(p:SlI w a n c xs)(j:SlI w b n d ys)(r:G1 xs=true) :
 Calls prog 107 #[.slice a n c,.slice b n d] w fun e k=>∃ f g,e = .returned (.slice f n g)/\Ext w k/\Za k w.heap.size f n g (mvd xs ys):=by
 refine(eQ p j r).mono ?_;rintro e s ⟨l,q,m,rfl,o,i⟩;have h:q=n:=by have h1:=i.sl.len;have h2:=j.len;rw[H5]at h1;omega
 subst h;exact⟨l,m,rfl,o,i⟩
theorem eV{N b0 cx:Nat}(hN:N<=12){x:Option Addr}{xs:List Int}{a:Option Addr}{n c:Nat}{la:List Pl.Tm}{w:World}(hx:SlI w x N cx xs)(hp:G1 xs=true)(ha:TSl w b0 a n c la)(ba:TB N la)(hw:b0<=w.heap.size)(hn:n<=10000)(hs:Pl.SubOK (actU xs la)) :
 Calls prog 108 #[.slice x N cx,.agg (pL (N:Int) a n c).toArray] w (OM w b0 (N:Int) N (actU xs la)):=by
 have y:=ha.len;have I:=qh hp;have a0:=hx.len;have ai:=qh a0;clear hp a0
 go_enter func108,ntmps108
 go_upto_region 1 with(fail)
 refine Cf ?_;intro w0 Q E P bg;have b9:Arr w0 (w.heap.size+1) 44 (pL 0 none 0 0):=P;have p0:=E.c 0 rfl;have p1:=E.c 1 rfl;clear E P bg;go_wp2
 go_loopw[5,6] (fun lv iv wr=>∃ (k:Nat) (L:Option Addr) (O:Nat),lv = .slice L k O/\iv = .int .i64 k/\k<=n/\Ext w0 wr/\Hid (TO wr b0 w0.heap.size L k O (actU xs (la.take k)))) (fun _ iv _=>n-(intOf iv).toNat)
 case atStart=>exact⟨0,none,0,rfl,rfl,pE _,Ext.refl _,by rw[rf];exact qh (TO.nil _ _ _)⟩
 case round =>
  obtain⟨k,L,O,rfl,rfl,hk,G,HO⟩:=hrel;have s:=Q.trans G;have bo:=G.cell p0;have bj:=G.cell p1;by_cases q:k<n
  case neg =>
   have ac:¬ (k:Int)<n:=by omega
   have bd:k=n:=by omega
   have hT:TO wr b0 w0.heap.size L k O (actU xs la):=by
    have h1:=HO.out;rw[pu (by omega)]at h1;exact h1
   have a5:=qh (EL (N:=N) (b0:=b0) hN (vars:=(N:Int)) hT.sl (ba.actU I.out ai.out) (pD hw s.size) (by omega) hs);have hR:=b9.ext G;have ag:=qh hw;clear HO hT hs bd y ba
   go_wp2_with fail
   refine a5.out.mono ?_;rintro e w1 ⟨a1,n1,c1,bi,rfl,R,b6,a3,z,V⟩;have T:=hR.ext R;have HX:=qh z;have HY:=qh V;have aj:=qh a3;clear a5 z V a3 hR
   go_wp2_with(refine Aa (vs:=pL (N:Int) a1 n1 c1) rfl rfl rfl rfl rfl AJ T rfl (AT _ _ _ _) ?_;intro w9 ay Y)
   exact py (Ap rfl AJ rfl ay) rfl ⟨a1,n1,c1,bi,rfl,(s.trans R).grownR Y (by omega),(b6.keptA T (by decide) (by decide) (by decide) (by have:=ag.out;omega) Y).mono s.size,aj.out,HX.out,HY.out⟩
  have ac:(k:Int)<n:=by omega
  have t:k<la.length:=by omega
  obtain⟨i,l,bk,s1,x1,m1,d1,y1,g1,h1,D,m,f1,rfl,p,b,J,a2,W,F⟩:=(ha.ext s).row q;have B:la.getD k tz∈la:=ql (getD_some t);have bb:=ba _ B;have Z:m=N:=by have q1:=F.1.len;omega
  subst Z;have ap:wr.cell? ⟨i,l+k*5,none⟩=some (.bool s1):=by have:=p.cl q (j:=0) (by omega);rw[b]at this;exact this
  have aq:wr.cell? ⟨i,l+k*5+1,none⟩=some (.slice x1 m1 d1):=by have:=p.cl q (j:=1) (by omega);rw[b]at this;exact this
  have ar:wr.cell? ⟨i,l+k*5+2,none⟩=some (.bool false):=by have:=p.cl q (j:=2) (by omega);rw[b]at this;exact this
  have av:wr.cell? ⟨i,l+k*5+3,none⟩=some (.slice y1 g1 h1):=by have:=p.cl q (j:=3) (by omega);rw[b]at this;exact this
  have ax:wr.cell? ⟨i,l+k*5+4,none⟩=some (.slice D m f1):=by have:=p.cl q (j:=4) (by omega);rw[b]at this;exact this
  have al:=qh (jf (a:=xs) t);have ak:Hid (QV wr (.agg #[.bool s1,.slice x1 m1 d1,.bool false,.slice y1 g1 h1]) (la.getD k tz).2):=qh ⟨s1,x1,m1,d1,y1,g1,h1,rfl,J,a2,W⟩;have bf:=qh (fun(wy:World) (f:Ext wr wy)=>ij ((hx.ext s).ext f) (F.1.ext f) I.out);have ah:=qh y;generalize la.getD k tz=u at *
  clear p b B a2 W F J y t bb
  go_upto_region 5 with(fail)
  have C:=fun(o:World) (f:Ext wr o)=>qh (And.intro (f.cell bj) (And.intro (f.cell ap) (And.intro (f.cell aq) (And.intro (f.cell ar) (And.intro (f.cell av) (f.cell ax))))))
  refine B0
   [hdS L k O,hdP w.heap.size 1,hdS (some ⟨i,l,none⟩) n c,hdI k,hdP i (l+k*5),hdP i (l+k*5),he (.agg #[.bool s1,.slice x1 m1 d1,.bool false,.slice y1 g1 h1]),hdS x m cx,hdP w.heap.size 1,hdS (some ⟨i,l,none⟩) n c,hdI k,hdP i (l+k*5),hdP i ((l+k*5)+4),hdS D m f1,hp (fun v o=>∃ K M,v = .slice K m M/\Za o wr.heap.size K m M (mvd xs u.1)),hp (fun v o=>Hc o b0 v (mvd xs u.1,u.2)),hp (fun v o=>KL o b0 v (mvd xs u.1,u.2))]
   ⟨fun v w w' e h=>by obtain⟨K,M,h1,h2⟩:=h;exact⟨K,M,h1,Own.ext h2 e⟩,Hc.x _ _,KL.x _ _,trivial⟩ ⟨?o0,?o1,?o2,?o3,?o4,?o5,?o6,?o7,?o8,?o9,?o10,?o11,?o12,?o13,?o14,?o15,?o16,trivial⟩ ?fin
  case o0 | o3 | o7 | o10=>exact omv
  case o1 | o8=>exact ofa (d:=1)
  case o2 | o9 | o13=>exact ol
  case o5=>exact ofa (d:=0)
  case o6=>exact ol4
  case o12=>exact ofa (d:=4)
  case o4 =>
   refine Aj rfl fun ρ o f A h => ?_;have e0:_=_:=h.1;have e1:_=_:=h.2.1;obtain⟨kq,a6,a7,a9,aa,ab⟩:=(C o f).out;go_simp
   try (first | (intros;omega) | exact pq _ (by omega))
  case o11 =>
   refine Aj rfl fun ρ o f A h => ?_;have e0:_=_:=h.1;have e1:_=_:=h.2.1;obtain⟨kq,a6,a7,a9,aa,ab⟩:=(C o f).out;go_simp
   try (first | (intros;omega) | exact pq _ (by omega))
  case o14 =>
   refine Ag rfl fun ρ o f A bn h => ?_;have e1:_=_:=h.2.1;have e2:_=_:=h.2.2.1;obtain⟨kq,a6,a7,a9,aa,ab⟩:=(C o f).out;refine⟨107,#[.slice x m cx,.slice D m f1],by go_simp,(bf.out o f).mono ?_⟩;rintro e w' ⟨a',c',rfl,aA,b5⟩;exact⟨_,rfl,aA,a',c',rfl,Own.mono b5 f.size⟩
  case o15 =>
   refine WD rfl rfl GE ?_;rintro ρ o hp f ⟨e0,⟨v1,e1,K,M,rfl,b7⟩,-⟩;exact⟨by rw[e0];exact ak.out.ext f,_,_,_,e1,Vh b7⟩
  case o16 =>
   refine Ui rfl rfl underlying42 B8 ?_;rintro ρ o hp f ⟨⟨v0,e0,i0⟩,-⟩;rw[e0];exact i0
  case fin =>
   intro o f;rintro _ _;rintro _ _;rintro _ ⟨g9,bl,rfl,b2,U⟩;change wpList _ _ _ _ _ _;simp only[Ci];obtain⟨bp,hK,b4,b3⟩:=HO.out;have S:=hK.ext f;obtain⟨h5,h6⟩:=U.five;have hL:=BT (k:=5) b2 h5;have ad:=(G.trans f).size
   go_wp2_with(refine Dn rfl rfl underlying42 B8 rfl S rfl hL (by intro r hr u hu;rw[pF.1 hr]at hu;exact h6 u hu) (by unfold maxLen;omega) (by omega) ad ?_;intro a8 c8 w8 b8 X bm)
   have H:=TO.grow S b4 (fun j hj=>(b3 j hj).ext f) U (pD hw Q.size) b8 X;rw[al.out]at H;have b1:Ext w0 w8:=(G.trans f).grown X (fun g hg=>(hK.lt hg).1);have y:=ah.out;go_roundw
   case rel=>exact⟨k+1,a8,c8,by go_num,by go_num,by omega,b1,qh H⟩
   case measure=>simp[intOf];omega
end Go.Proofs.YtlbmnokpiilfpaaGreatDoor
