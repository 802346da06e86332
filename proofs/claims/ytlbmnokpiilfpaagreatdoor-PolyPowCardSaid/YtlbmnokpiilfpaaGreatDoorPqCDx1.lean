/- Part PqCDx1. -/
import Derived.Test.YtlbmnokpiilfpaaGreatDoorPqBCDx1
import Derived.Test.YtlbmnokpiilfpaaGreatDoorPqACDx2
import Derived.WalkKit
set_option linter.all false
set_option maxRecDepth 100000
set_option maxHeartbeats 100000000
namespace Go.Proofs.YtlbmnokpiilfpaaGreatDoor.Pl
def lin(F:List Int->Rat):List Tm->Rat
 | []=>0
 | t :: r=>t.2*F t.1+lin F r
end Go.Proofs.YtlbmnokpiilfpaaGreatDoor.Pl
namespace Go.Proofs.YtlbmnokpiilfpaaGreatDoor
open Go Go.RowKit
variable {B:Int}
theorem JD(b : -1<=B):∀ {l:List Pl.Tm},(∀ t∈l,t.1.sum<=B)->Bu l<=B:=by
 have a:∀ (l:List Pl.Tm) (m:Int),m<=B->(∀ t∈l,t.1.sum<=B)->l.foldl (fun m t=>max m t.1.sum) m<=B:=by
  intro l
  induction l with
  | nil=>intro m h _;exact h
  | cons t r ih =>
   intro m h1 h2;rw[m7];have:=h2 t (by simp);exact ih _ (by omega) (fun s c=>h2 s (by simp[c]))
 intro l h;exact a l (-1) b h
end Go.Proofs.YtlbmnokpiilfpaaGreatDoor
namespace Go.Proofs.YtlbmnokpiilfpaaGreatDoor.Pl
theorem Pc(s:List Int)(c:Rat)(e:List Int):∀ b:List Tm,coef (b.map (fun t=>(plE s t.1,c*t.2))) e=c*lin (fun m=>if plE s m=e then 1 else 0) b
 | []=>by simp[coef,lin]
 | t :: r=>by
  rw[ja];unfold coef lin;rw[Pc s c e r,Rat.mul_add];by_cases h:plE s t.1=e
  · simp[h]
  · simp[h]
theorem ET(a b:List Tm)(e:List Int):coef (prodT a b) e=lin (fun s=>lin (fun m=>if plE s m=e then 1 else 0) b) a:=by
 induction a with
 | nil=>rfl
 | cons s r ih =>
  have h:prodT (s :: r) b=b.map (fun t=>(plE s.1 t.1,s.2*t.2)) ++ prodT r b:=by simp[prodT]
  rw[h,coef_app,Pc,ih];rfl
theorem Hu{F:List Int->Rat}:∀ {l:List Tm},(∀ t∈l,F t.1=0)->lin F l=0
 | [],_=>rfl
 | t :: r,h=>by
  unfold lin;rw[h t (by simp),Hu (l:=r) (fun s a=>h s (by simp[a])),Rat.mul_zero];exact Rat.zero_add _
theorem RJ(F G:List Int->Rat):∀ l:List Tm,lin (fun m=>F m+G m) l=lin F l+lin G l
 | []=>by simp[lin];grind
 | t :: r=>by unfold lin;rw[RJ F G r];grind
theorem RK(c:Rat)(F:List Int->Rat):∀ l:List Tm,lin (fun m=>c*F m) l=c*lin F l
 | []=>by simp[lin]
 | t :: r=>by unfold lin;rw[RK c F r];grind
theorem UR(G:List Int->List Int->Rat)(a b:List Tm):lin (fun s=>lin (fun t=>G s t) b) a=lin (fun t=>lin (fun s=>G s t) a) b:=by
 induction a with
 | nil=>exact(Hu fun _ _=>rfl).symm
 | cons s r ih =>
  show s.2*lin (fun t=>G s.1 t) b+lin (fun s=>lin (fun t=>G s t) b) r=lin (fun t=>s.2*G s.1 t+lin (fun s=>G s t) r) b;rw[RJ,RK,ih]
theorem plE_comm(a b:List Int):plE a b=plE b a:=by
 unfold plE;rw[List.zipWith_comm];congr 1;funext x y;exact Int.add_comm _ _
theorem prod_comm(a b:List Tm)(e:List Int):coef (prodT a b) e=coef (prodT b a) e:=by
 rw[ET,ET,UR];congr 1;funext s;congr 1;funext m;rw[plE_comm]
end Go.Proofs.YtlbmnokpiilfpaaGreatDoor.Pl
namespace Go.Proofs.YtlbmnokpiilfpaaGreatDoor
open Go Go.RowKit
variable {B C D va:Int} {xs ys zs:List Int} {N b b0 k m n:Nat} {a:Option Addr} {w:World}
namespace Pl
theorem plE_sum:∀ {a b:List Int},a.length=b.length->(plE a b).sum=a.sum+b.sum
 | [],[],_=>rfl
 | x :: a,y :: b,h=>by
  have:=plE_sum (a:=a) (b:=b) (by simpa using h);unfold plE at this |-;simp only[List.zipWith_cons_cons,lr,this];omega
end Pl
theorem Fs{l:List Pl.Tm}{t:Pl.Tm}(h:t∈l):t.1.sum<=Bu l:=by
 have b:∀ (l:List Pl.Tm) (m:Int),m<=l.foldl (fun m t=>max m t.1.sum) m/\∀ t∈l,t.1.sum<=l.foldl (fun m t=>max m t.1.sum) m:=by
  intro l
  induction l with
  | nil=>intro m;exact⟨by simp,by simp⟩
  | cons t r ih =>
   intro m;rw[m7];have h1:=ih (max m t.1.sum);refine⟨by omega,fun s a => ?_⟩;rcases iE.1 a with rfl|a
   · omega
   · exact h1.2 s a
 exact(b l (-1)).2 t h
theorem Gg{t:Pl.Tm}{r:List Pl.Tm}(h:Pl.Canon 6 (t :: r))(h0 : -1<=t.1.sum):Bu (t :: r)=t.1.sum :=
 Int.le_antisymm (JD h0 (DQ h)) (Fs (by simp))
def Za(w:World)(base:Nat)(a:Option Addr)(n c:Nat)(xs:List Int):Prop:=Own w base 3 a n c (xs.map (Value.int .i64))
theorem Za.sl{w:World}{base:Nat}{a:Option Addr}{n c:Nat}{xs:List Int}(h:Za w base a n c xs):SlI w a n c xs:=Own.sl h
theorem Za.ext{w b:World}{base:Nat}{a:Option Addr}{n c:Nat}{xs:List Int}(h:Za w base a n c xs)(k:Ext w b):Za b base a n c xs:=Own.ext h k
theorem Ze{a:Type}(L:List a)(z v:a)(r:Nat):(L ++ List.replicate (r+1) z).set L.length v=(L ++ [v]) ++ List.replicate r z:=by
 rw[List.set_append_right _ _ (lrf _)];simp[ni]
def Y9(n:Nat)(xs:List Int):List Int:=xs ++ List.replicate (n-xs.length) 0
theorem Zc(n:Nat):(Y9 n []).map (Value.int .i64)=List.replicate n (Value.int .i64 0):=by simp[Y9]
theorem Zb(h:n<=xs.length):Y9 n xs=xs:=by simp[Y9,Nat.sub_eq_zero_of_le h]
theorem Zd(a:xs.length=k)(h:k<n)(x:Int) :
 ((Y9 n xs).map (Value.int .i64)).set k (Value.int .i64 x)=(Y9 n (xs ++ [x])).map (Value.int .i64):=by
 have e:n-xs.length=(n-(xs ++ [x]).length)+1:=by simp;omega
 rw[<-mw,<-a];unfold Y9;rw[e,Ze]
def shf(t:Pl.Tm)(l:List Pl.Tm):List Pl.Tm:=l.map (fun s=>(Pl.plE s.1 t.1,s.2*t.2))
theorem NG(t:Pl.Tm)(l:List Pl.Tm):(shf t l).length=l.length:=iM ..
theorem Vf{t:Pl.Tm}{l:List Pl.Tm}(a:k<l.length):shf t (l.take k) ++ [(Pl.plE (l.getD k tz).1 t.1,(l.getD k tz).2*t.2)]=shf t (l.take (k+1)):=by
 unfold shf;rw[gM a,iJ,gqq,gD a];rfl
def TBb(B:Int)(N:Nat)(l:List Pl.Tm):Prop:=∀ t∈l,t.1.length=N/\∀ x∈t.1,0<=x/\x<=B
theorem RT(c:∀ x∈xs,0<=x/\x<=B)(d:∀ y∈ys,0<=y/\y<=C):∀ z∈Pl.plE xs ys,0<=z/\z<=B+C:=by
 intro z a;unfold Pl.plE at a;obtain⟨i,b,rfl⟩:=kP a;rw[List.getElem_zipWith];rw[List.length_zipWith]at b;have h1:=c _ (jl (show i<xs.length by omega));have h2:=d _ (jl (show i<ys.length by omega));omega
theorem DN(a:xs.length=N)(b:ys.length=N):(Pl.plE xs ys).length=N:=by
 unfold Pl.plE;rw[List.length_zipWith];omega
theorem Vg(a:k<xs.length)(b:k<ys.length):Pl.plE (xs.take (k+1)) (ys.take (k+1))=Pl.plE (xs.take k) (ys.take k) ++ [xs.getD k 0+ys.getD k 0]:=by
 unfold Pl.plE;rw[gM a,gM b,List.zipWith_append (by rw[iq,iq];omega),gqq,gqq,gD a,gD b];rfl
theorem TBb.shf{B C:Int}{N:Nat}{l:List Pl.Tm}{t:Pl.Tm}(h:TBb B N l)(a:t.1.length=N/\∀ x∈t.1,0<=x/\x<=C):TBb (B+C) N (shf t l):=fun u hu=>by
 obtain⟨s,b,rfl⟩:=ie.1 hu;obtain⟨h1,h2⟩:=h s b;exact⟨DN h1 a.1,RT h2 a.2⟩
theorem TBb.tb{l:List Pl.Tm}(h:TBb B N l)(c:B<=1099511627776):TB N l:=fun t a=>by
 obtain⟨h1,h2⟩:=h t a;exact⟨h1,fun x b=>by have:=h2 x b;omega⟩
theorem Vh{base c:Nat}(h:Za w base a n c xs):XI w b0 a n c xs :=
 ⟨Own.sl h,fun _ g e => .inr (by obtain⟨b,d,h1⟩:=Own.ty h g e;exact⟨b,d,h1⟩)⟩
theorem PA(hN:N<=12){B C:Int}{a:Option Addr}{n c:Nat}{la:List Pl.Tm}{vt:Value}{t:Pl.Tm}{w:World}(ha:TSl w b0 a n c la)(ht:Hc w b0 vt t)(ba:TBb B N la)(bt:t.1.length=N/\∀ x∈t.1,0<=x/\x<=C)(a4:0<=B/\0<=C/\B+C<=1099511627776)(hw:b0<=w.heap.size)(hn:n<=10000)(rt:Pl.RB 1000000 t.2)(ra:∀ s∈la,Pl.RB 1000000 s.2)(hs:Pl.SubOK (shf t la)) :
 Calls Tryz.prog 161 #[.agg (pL (N:Int) a n c).toArray,vt] w (OM w b0 (N:Int) N (shf t la)):=by
 have S:=ha.len;obtain⟨_,rfl,st,xt,nt,ct,yt,mt,dt,et,kt,ft,rfl,b1,bn,bo,Y⟩:=ht;have bg:kt=N:=by have h1:=Y.1.len;omega
 subst bg
 go_enter Tryz.func161,Tryz.ntmps161
 go_upto_region 1 with(fail)
 refine CO ?_;intro w0 aq a3 I ap bp;have bd:Arr w0 (w.heap.size+2) 44 (pL 0 none 0 0):=ap;have p0:=a3.c 0 rfl;have p1:=a3.c 1 rfl;have t0:=I.c 0 rfl;have t1:=I.c 1 rfl;have t2:=I.c 2 rfl;have t3:=I.c 3 rfl;have t4:=I.c 4 rfl;clear a3 I ap bp;go_wp2
 go_loopw[5,6] (fun lv iv wr=>∃ (k:Nat) (ao:Option Addr) (co:Nat),lv = .slice ao k co/\iv = .int .i64 k/\k<=n/\Ext w0 wr/\Hid (TO wr b0 w0.heap.size ao k co (shf t (la.take k)))) (fun _ iv _=>n-(intOf iv).toNat)
 case atStart=>exact⟨0,none,0,rfl,rfl,gO _,Ext.refl _,by rw[jw];exact qh (TO.nil _ _ _)⟩
 case round =>
  obtain⟨k,ao,co,rfl,rfl,hk,Q,HO⟩:=hrel;have F:=aq.trans Q;have bB:=Q.cell p0;have bC:=Q.cell p1;by_cases K:k<n
  case neg =>
   have aP:¬ (k:Int)<n:=by omega
   have bf:k=n:=by omega
   have hT:TO wr b0 w0.heap.size ao k co (shf t la):=by
    have h1:=HO.out;rw[gG (by omega)]at h1;exact h1
   have aI:=qh (EL (N:=kt) (b0:=b0) hN (vars:=(kt:Int)) hT.sl ((ba.shf bt).tb a4.2.2) (gJ hw F.size) (by omega) hs);have hR:=bd.ext Q;have aU:=qh hw;clear HO hT hs bf S ba bt
   go_wp2_with fail
   refine aI.out.mono ?_;rintro e w1 ⟨a1,n1,c1,bA,rfl,ar,bb,aH,V,aC⟩;have ax:=hR.ext ar;have HX:=qh V;have HY:=qh aC;have aY:=qh aH;clear aI V aC aH hR
   go_wp2_with(refine Aa (vs:=pL (kt:Int) a1 n1 c1) rfl rfl rfl rfl rfl AJ ax rfl (AT _ _ _ _) ?_;intro w9 b4 aF)
   exact gF (Ap rfl AJ rfl b4) rfl ⟨a1,n1,c1,bA,rfl,(F.trans ar).grownR aF (by omega),(bb.keptA ax (by decide) (by decide) (by decide) (by have:=aU.out;omega) aF).mono F.size,aY.out,HX.out,HY.out⟩
  have aP:(k:Int)<n:=by omega
  have O:k<la.length:=by omega
  obtain⟨o,A,bD,s1,x1,m1,d1,y1,g1,h1,b3,f,f1,rfl,J,z,ai,aG,aD,a9⟩:=(ha.ext F).row K;have P:la.getD k tz∈la:=im (getD_some O);have az:=ba _ P;have aO:f=kt:=by have q1:=a9.1.len;omega
  subst aO;have aj:wr.cell? ⟨o,A+k*5,none⟩=some (.bool s1):=by have:=J.cl K (j:=0) (by omega);rw[z]at this;exact this
  have ak:wr.cell? ⟨o,A+k*5+1,none⟩=some (.slice x1 m1 d1):=by have:=J.cl K (j:=1) (by omega);rw[z]at this;exact this
  have al:wr.cell? ⟨o,A+k*5+2,none⟩=some (.bool false):=by have:=J.cl K (j:=2) (by omega);rw[z]at this;exact this
  have am:wr.cell? ⟨o,A+k*5+3,none⟩=some (.slice y1 g1 h1):=by have:=J.cl K (j:=3) (by omega);rw[z]at this;exact this
  have an:wr.cell? ⟨o,A+k*5+4,none⟩=some (.slice b3 f f1):=by have:=J.cl K (j:=4) (by omega);rw[z]at this;exact this
  have Z:=qh (Vf (t:=t) O);have aQ:=qh (fun(wy:World) (b:Ext wr wy)=>KH (v := .agg #[.bool s1,.slice x1 m1 d1,.bool false,.slice y1 g1 h1]) (p:=(la.getD k tz).2) ⟨s1,x1,m1,d1,y1,g1,h1,rfl,ai,aG.ext b,aD.ext b⟩ (v' := .agg #[.bool st,.slice xt nt ct,.bool false,.slice yt mt dt]) (q:=t.2) ⟨st,xt,nt,ct,yt,mt,dt,rfl,b1,(bn.ext F).ext b,(bo.ext F).ext b⟩ (ra _ P) rt);have T:=a9.1;have U:=Y.1.ext F;have aX:=qh S;have ac:=qh az;have ad:=qh bt;have aS:=qh a4;generalize la.getD k tz=u at *
  obtain⟨xs,aJ⟩:∃ xs,u.1=xs:=⟨_,rfl⟩;obtain⟨ys,aK⟩:∃ ys,t.1=ys:=⟨_,rfl⟩;rw[aJ]at T ac Z;rw[aK]at U ad Z;have c0:=Q.cell t0;have c1:=Q.cell t1;have c2:=Q.cell t2;have c3:=Q.cell t3;have c4:=Q.cell t4;have W:=T.len;have X:=U.len;have L:=qh W;have M:=qh X;clear J z P aG aD a9 ai S O az bt a4 aJ aK W X;have bE:=F.size
  go_upto_region 6 with(at_make;refine C6 (n:=f) rfl rfl Tryz.underlying24 Dt rfl rfl rfl (by omega) (by unfold maxLen;omega) ?_;intro w2 a5 au)
  generalize bm:wr=wo at *
  clear bm;obtain⟨G,hG⟩:∃ G,wo.heap.size=G:=⟨_,rfl⟩;have HG:=qh hG;rw[hG]at a5;simp only[hG];clear hG;go_wp2
  go_loopw[8] (fun jv wr=>∃ j:Nat,jv = .int .i64 j/\j<=f/\Ext wo wr/\Za wr G (some ⟨G,0,none⟩) f f (Y9 f (Pl.plE (xs.take j) (ys.take j)))) (fun jv _=>f-(intOf jv).toNat)
  case atStart=>exact⟨0,rfl,gO _,au,by unfold Za;rw[jw,jw,show Pl.plE [] []=[] from rfl,Zc];exact a5⟩
  case round =>
   clear a5 au;obtain⟨j,rfl,hj,i,a7⟩:=hrel;have q0:=i.cell bB;have q1:=i.cell bC;have r4:=i.cell an;have s4:=i.cell c4;by_cases D:j<f
   · have aN:(j:Int)<f:=by omega
     obtain⟨a0,aa,rfl,aA⟩:=(T.ext i).at D;obtain⟨a2,ab,rfl,aB⟩:=(U.ext i).at D;have ga:=aA j D;have gb:=aB j D;have bk:=ac.out.2 _ (Y6 (l:=xs) (k:=j) (by rw[L.out];exact D));have bl:=ad.out.2 _ (Y6 (l:=ys) (k:=j) (by rw[M.out];exact D));have aT:=qh (Vg (xs:=xs) (ys:=ys) (k:=j) (by rw[L.out];exact D) (by rw[M.out];exact D));have aW:Hid ((Pl.plE (xs.take j) (ys.take j)).length=j):=qh (DN (by rw[iq,L.out];omega) (by rw[iq,M.out];omega));have be:=aS.out;generalize xs.getD j 0=x at *
     generalize ys.getD j 0=y at *
     have w1:IntKind.i64.wrap (x+y)=x+y:=gI _ (by omega);clear aA aB bk bl be
     go_upto_region 9 with(fail)
     have R:=fun(m:World) (b:Ext wr m)=>qh (And.intro (b.cell q1) (And.intro (b.cell r4) (And.intro (b.cell s4) (And.intro (b.cell ga) (b.cell gb)))))
     refine Ab (by kernel_rfl) (fun m=>Ext wr m)
      [he (.slice (some ⟨G,0,none⟩) f f),
 he (.int .i64 (j:Int)),
 he (.pointer (some ⟨w.heap.size,1,none⟩)),
 he (.slice (some ⟨o,A,none⟩) n c),
 he (.int .i64 (k:Int)),
 he (.pointer (some ⟨o,(A+k*5),none⟩)),
 he (.pointer (some ⟨o,((A+k*5)+4),none⟩)),
 he (.slice (some ⟨a0,aa,none⟩) f f1),
 he (.int .i64 (j:Int)),
 he (.pointer (some ⟨a0,(aa+j),none⟩)),
 he (.int .i64 x),
 he (.pointer (some ⟨(w.heap.size+1),4,none⟩)),
 he (.slice (some ⟨a2,ab,none⟩) f ft),
 he (.int .i64 (j:Int)),
 he (.pointer (some ⟨a2,(ab+j),none⟩)),
 he (.int .i64 y),
 he (.int .i64 (x+y))]
      (by kernel_rfl) (fun _ _ e h=>h.trans e) ((Ext.refl wr).drew) ⟨trivial,trivial,trivial,trivial,trivial,trivial,trivial,trivial,trivial,trivial,trivial,trivial,trivial,trivial,trivial,trivial,trivial,trivial⟩ ⟨?o0,?o1,?o2,?o3,?o4,?o5,?o6,?o7,?o8,?o9,?o10,?o11,?o12,?o13,?o14,?o15,?o16,trivial⟩ ?fin
     case o0 | o1 | o4 | o8 | o13=>exact omv
     case o2=>exact ofa (d:=1)
     case o3 | o7 | o10 | o12 | o15=>exact ol
     case o6 | o11=>exact ofa (d:=4)
     case o5 =>
      refine Aj rfl fun E m b H h => ?_;have e0:E (.tmp 28)=(.slice (some ⟨o,A,none⟩) n c):=h.1;have e1:E (.tmp 29)=(.int .i64 (k:Int)):=h.2.1;obtain⟨kq,kr,ks,ka,kb⟩:=(R m b).out;go_simp
      try (first | (intros;omega) | exact gI _ (by omega))
     case o9 =>
      refine Aj rfl fun E m b H h => ?_;have e0:E (.tmp 32)=(.slice (some ⟨a0,aa,none⟩) f f1):=h.1;have e1:E (.tmp 33)=(.int .i64 (j:Int)):=h.2.1;obtain⟨kq,kr,ks,ka,kb⟩:=(R m b).out;go_simp
      try (first | (intros;omega) | exact gI _ (by omega))
     case o14 =>
      refine Aj rfl fun E m b H h => ?_;have e0:E (.tmp 37)=(.slice (some ⟨a2,ab,none⟩) f ft):=h.1;have e1:E (.tmp 38)=(.int .i64 (j:Int)):=h.2.1;obtain⟨kq,kr,ks,ka,kb⟩:=(R m b).out;go_simp
      try (first | (intros;omega) | exact gI _ (by omega))
     case o16 =>
      refine Aj rfl fun E m b H h => ?_;have e0:E (.tmp 35)=(.int .i64 x):=h.1;have e1:E (.tmp 40)=(.int .i64 y):=h.2.1;obtain⟨kq,kr,ks,ka,kb⟩:=(R m b).out;go_simp
      try (first | (intros;omega) | exact gI _ (by omega))
     case fin =>
      intro m b;change wpList _ _ _ _ _ _;simp only[lq,lw,lx,lz,Act.put,lj,lk,ly];have a6:=a7.ext b;have g1:=Own.cellAt a6 D;have g2:=Own.frozenAt a6 j;have hz:=(i.trans b).size;have aM:=i.trans b;clear a7 q0 q1 r4 s4 ga gb;go_wp2;go_roundw
      case rel =>
       refine⟨j+1,by go_num,by omega,aM.setCell (by have:=HG.out;show wo.heap.size<=G;omega) _,?_⟩;have:=Own.stored a6 j (.int .i64 (x+y));rw[Zd aW.out D,<-aT.out]at this;exact this
      case measure=>simp[intOf];omega
   · have aN:¬ (j:Int)<f:=by omega
     have aV:Hid (j=f):=by show j=f;omega
     have ah:=qh a7;have av:=Q.trans i;have r0:=i.cell aj;have r1:=i.cell ak;have r2:=i.cell al;have r3:=i.cell am;have s0:=i.cell c0;have aL:=i.cell c1;have s2:=i.cell c2;have s3:=i.cell c3
     have b2:Hid (Za wr G (some ⟨G,0,none⟩) f f (Pl.plE xs ys)):=qh (by
      have h1:=ah.out;have h2:=aV.out;rw[gG (by rw[L.out];omega),gG (by rw[M.out];omega),Zb (by rw[DN L.out M.out];exact lrf _)]at h1
      exact h1)
     have aZ:=qh (HO.out.ext i);clear aj ak al am an c0 c1 c2 c3 c4 ah HO T U r4 s4
     go_upto_region 10 with(fail)
     have ae:=fun(m:World) (b:Ext wr m)=>qh (And.intro (b.cell q1) (And.intro (b.cell r0) (And.intro (b.cell r1) (And.intro (b.cell r2) (And.intro (b.cell r3) (b.cell s0))))));have af:=fun(m:World) (b:Ext wr m)=>qh (And.intro (b.cell s2) (b.cell s3))
     refine Ab (by kernel_rfl) (fun m=>Ext wr m)
      [he (.slice ao k co),
 he (.pointer (some ⟨w.heap.size,1,none⟩)),
 he (.slice (some ⟨o,A,none⟩) n c),
 he (.int .i64 (k:Int)),
 he (.pointer (some ⟨o,(A+k*5),none⟩)),
 he (.pointer (some ⟨o,(A+k*5),none⟩)),
 he (.agg #[.bool s1,.slice x1 m1 d1,.bool false,.slice y1 g1 h1]),
 he (.pointer (some ⟨(w.heap.size+1),0,none⟩)),
 he (.agg #[.bool st,.slice xt nt ct,.bool false,.slice yt mt dt]),
 hp (fun v m=>QV m v (u.2*t.2)),
 he (.slice (some ⟨G,0,none⟩) f f),
 hp (fun v m=>Hc m b0 v (Pl.plE xs ys,u.2*t.2)),
 hp (fun v m=>KL m b0 v (Pl.plE xs ys,u.2*t.2))]
      (by kernel_rfl) (fun _ _ e h=>h.trans e) ((Ext.refl wr).drew) ⟨trivial,trivial,trivial,trivial,trivial,trivial,trivial,trivial,trivial,fun v w w' e h=>QV.ext h e,trivial,Hc.x _ _,KL.x _ _,trivial⟩ ⟨?o0,?o1,?o2,?o3,?o4,?o5,?o6,?o7,?o8,?o9,?o10,?o11,?o12,trivial⟩ ?fin
     case o0 | o3 | o10=>exact omv
     case o1=>exact ofa (d:=1)
     case o2=>exact ol
     case o5 | o7=>exact ofa (d:=0)
     case o6 | o8=>exact ol4
     case o4 =>
      refine Aj rfl fun E m b H h => ?_;have e0:E (.tmp 45)=(.slice (some ⟨o,A,none⟩) n c):=h.1;have e1:E (.tmp 46)=(.int .i64 (k:Int)):=h.2.1;obtain⟨kq,bq,br,bs,bu,bv⟩:=(ae m b).out;have bw:=b.cell aL;obtain⟨bx,bz⟩:=(af m b).out;go_simp
      try (first | (intros;omega) | exact gI _ (by omega))
     case o9 =>
      refine Ag rfl fun E m b H bH h => ?_;have e1:E (.tmp 49)=(.agg #[.bool s1,.slice x1 m1 d1,.bool false,.slice y1 g1 h1]):=h.2.1;have e2:E (.tmp 51)=(.agg #[.bool st,.slice xt nt ct,.bool false,.slice yt mt dt]):=h.2.2.1;obtain⟨kq,bq,br,bs,bu,bv⟩:=(ae m b).out;have bw:=b.cell aL;obtain⟨bx,bz⟩:=(af m b).out;refine⟨167,#[.agg #[.bool s1,.slice x1 m1 d1,.bool false,.slice y1 g1 h1],.agg #[.bool st,.slice xt nt ct,.bool false,.slice yt mt dt]],by go_simp,(aQ.out m (i.trans b)).mono ?_⟩;rintro e w' ⟨s',a',n',c',b',m',d',rfl,b5,bj,bi,bh⟩
      exact⟨_,rfl,b5,s',a',n',c',b',m',d',rfl,bj,bi,bh⟩
     case o11 =>
      refine WD rfl rfl GE ?_;rintro E m hp b ⟨⟨v0,e0,i0⟩,h1,-⟩;exact⟨by rw[e0];exact i0,_,_,_,h1,Vh (b2.out.ext b)⟩
     case o12 =>
      refine Ui rfl rfl Tryz.underlying42 B8 ?_;rintro E m hp b ⟨⟨v0,e0,i0⟩,-⟩;rw[e0];exact i0
     case fin =>
      intro m b;rintro _ _;rintro _ _;rintro _ ⟨g9,bF,rfl,b7,ay⟩;change wpList _ _ _ _ _ _;simp only[lq,lw,lx,lz,Act.put,lj,lk,ly];obtain⟨bI,hK,b9,b8⟩:=aZ.out;have aw:=hK.ext b;obtain⟨h5,h6⟩:=ay.five;have hL:=BT (k:=5) b7 h5;have aR:=(av.trans b).size
      go_wp2_with(refine Dn rfl rfl Tryz.underlying42 B8 rfl aw rfl hL (by intro r hr u hu;rw[gL.1 hr]at hu;exact h6 u hu) (by unfold maxLen;omega) (by omega) aR ?_;intro a8 c8 w8 bc aE bG)
      have ag:=TO.grow aw b9 (fun j hj=>(b8 j hj).ext b) ay (gJ hw aq.size) bc aE;rw[Z.out]at ag;have b6:Ext w0 w8:=(av.trans b).grown aE (fun g hg=>(hK.lt hg).1);have S:=aX.out;go_roundw
      case rel=>exact⟨k+1,a8,c8,by go_num,by go_num,by omega,b6,qh ag⟩
      case measure=>simp[intOf];omega
def tmU(la lb:List Pl.Tm):List Pl.Tm:=lb.flatMap (fun t=>shf t la)
theorem Vi{la lb:List Pl.Tm}(a:k<lb.length):tmU la (lb.take (k+1))=tmU la (lb.take k) ++ shf (lb.getD k tz) la:=by
 unfold tmU;rw[gM a,List.flatMap_append,gqq,gD a];simp
theorem Vj(t:Pl.Tm)(la:List Pl.Tm)(e:List Int):Pl.coef (shf t la) e=Pl.coef (Pl.prodT [t] la) e:=by
 have h1:Pl.prodT [t] la=la.map (fun s=>(Pl.plE t.1 s.1,t.2*s.2)):=by simp[Pl.prodT]
 rw[h1];unfold shf;congr 1;refine kh fun s _ => ?_;rw[Pl.plE_comm,nZ]
theorem PC(la lb:List Pl.Tm)(e:List Int):Pl.coef (tmU la lb) e=Pl.coef (Pl.prodT la lb) e:=by
 rw[Pl.prod_comm];unfold tmU
 induction lb with
 | nil=>rfl
 | cons t r ih =>
  have h1:Pl.prodT (t :: r) la=Pl.prodT [t] la ++ Pl.prodT r la:=by simp[Pl.prodT]
  rw[lF,h1,Pl.coef_app,Pl.coef_app,ih,Vj]
theorem RV(a:xs.length=N)(b:ys.length=N):AY (Pl.plE xs ys)=Pl.plE (AY xs) (AY ys):=by
 unfold AY
 have e:∀ k:Nat,Pl.plE (List.replicate k 0) (List.replicate k 0)=List.replicate k 0:=fun k=>by
  unfold Pl.plE;rw[List.zipWith_replicate];simp
 have h1:Pl.plE (xs ++ List.replicate (6-xs.length) 0) (ys ++ List.replicate (6-ys.length) 0)=Pl.plE xs ys ++ Pl.plE (List.replicate (6-xs.length) 0) (List.replicate (6-ys.length) 0):=by
  unfold Pl.plE;rw[List.zipWith_append (by omega)]
 rw[h1,a,b,e,DN a b]
theorem Ww(h1:xs.length=zs.length)(h2:ys.length=zs.length)(h:Pl.plE xs zs=Pl.plE ys zs):xs=ys:=by
 refine mR (by omega) fun i a b => ?_;have h3:(Pl.plE xs zs)[i]?=(Pl.plE ys zs)[i]?:=by rw[h]
 unfold Pl.plE at h3;rw[List.getElem?_zipWith,List.getElem?_zipWith,gD a,gD b,gD (show i<zs.length by omega)]at h3;simp only[gK]at h3;omega
theorem IB{la:List Pl.Tm}{t:Pl.Tm}(h:(la.map (·.1)).Nodup)(f:∀ s∈la,s.1.length=N)(g:t.1.length=N):((shf t la).map (·.1)).Nodup:=by
 unfold shf;rw[jO];have h1:la.map ((fun x:Pl.Tm=>x.1) ∘ fun s=>(Pl.plE s.1 t.1,s.2*t.2))=(la.map (·.1)).map (fun e=>Pl.plE e t.1):=by rw[jO];rfl
 rw[h1];unfold List.Nodup at h |-;rw[ma]at h |-;rw[ma];refine List.Pairwise.imp_of_mem (fun {a b} i d c => ?_) h;intro he;exact c (Ww (by rw[f a i,g]) (by rw[f b d,g]) he)
theorem Ti{la out:List Pl.Tm}{t:Pl.Tm}(h:(la.map (·.1)).Nodup)(d:∀ s∈la,s.1.length=N)(g:t.1.length=N)(b:Pl.Canon N out)(a:∀ e,Pl.coef out e=Pl.coef (shf t la) e):∀ u∈out,∃ s∈la,u=(Pl.plE s.1 t.1,s.2*t.2):=by
 intro u hu;have h1:=Pl.coef_canon b hu;have h2:=b.nz u hu;rw[a]at h1;obtain⟨v,c,he⟩:=Pl.coef_present (by rw[h1];exact h2:Pl.coef (shf t la) u.1≠0);have h3:=Pl.coef_mem (IB h d g) c;rw[he,h1]at h3;obtain⟨s,f,rfl⟩:=ie.1 c;exact⟨s,f,Prod.ext he.symm h3⟩
theorem Eq{l:List Pl.Tm}(h:Pl.Canon N l):(l.map (·.1)).Nodup:=by
 refine List.Pairwise.map _ (fun a b c => ?_) h.desc;intro he;rw[he,Pl.ordE_self]at c;omega
def cnt(e:List Int)(l:List Pl.Tm):Nat:=(l.filter (fun t=>decide (t.1=e))).length
theorem JF(e:List Int)(a b:List Pl.Tm):cnt e (a ++ b)=cnt e a+cnt e b:=by unfold cnt;rw[List.filter_append,iD]
theorem Gh(e:List Int):∀ {l:List Pl.Tm},(l.map (·.1)).Nodup->cnt e l<=1
 | [],_=>gO _
 | t :: r,h=>by
  have h1:=kf.1 h;unfold cnt;rw[List.filter_cons];by_cases he:t.1=e
  · have h2:r.filter (fun t=>decide (t.1=e))=[]:=by
     rw[List.filter_eq_nil_iff];intro s b a;exact h1.1 (by show t.1∈r.map (·.1);rw[he,<-kE a];exact jk b)
    rw[gY (by simpa using he),h2];simp
  · rw[gT (by simpa using he)];exact Gh e h1.2
theorem DO(e:List Int):∀ l:List Pl.Tm,Pl.coef (l.filter (fun t=>decide (t.1=e))) e=Pl.coef l e
 | []=>rfl
 | t :: r=>by
  rw[List.filter_cons];by_cases he:t.1=e
  · rw[gY (by simpa using he)];unfold Pl.coef;rw[DO e r]
  · rw[gT (by simpa using he),DO e r]
    conv=>rhs;unfold Pl.coef
    rw[gT he,Rat.zero_add]
theorem Pl.SubOK.of_cnt{l:List Pl.Tm}(c:1<=b)(h:∀ t∈l,Pl.RB b t.2)(d:∀ e,cnt e l<=m)(i:m*(b+1)+1<=1000000):Pl.SubOK l:=by
 intro a s hp e;rw[<-DO];have f:∀ t∈a.filter (fun t=>decide (t.1=e)),Pl.RB b t.2:=fun t g=>h t (hp.subset (List.mem_append_left _ (mD.1 g).1));refine(Pl.RB.coef c e f).mono ?_;have h1:cnt e a<=cnt e l:=by
  have h2:cnt e (a ++ s)=cnt e l:=(hp.filter _).length_eq;rw[JF]at h2;omega
 have h3:cnt e a*(b+1)<=m*(b+1):=gH _ (gJ h1 (d e));show cnt e a*(b+1)+1<=1000000;omega
structure Acc(N:Nat)(D:Int)(b:Nat)(la lb acc:List Pl.Tm)(k:Nat):Prop where
 co:∀ e,Pl.coef acc e=Pl.coef (tmU la (lb.take k)) e
 rb:∀ t∈acc,Pl.RB b t.2
 tb:TBb D N acc
 ct:∀ e,cnt e acc<=k
 ln:acc.length<=k*la.length
theorem Acc.start(N:Nat)(D:Int)(b:Nat)(la lb:List Pl.Tm):Acc N D b la lb [] 0:=by
 refine⟨fun e=>by rw[jw];rfl,?_,?_,fun e=>lrf _,by simp⟩
 · intro t a;cases a
 · intro t a;cases a
theorem Acc.step{la lb d out:List Pl.Tm}(h:Acc N (B+C) b la lb d k)(l:k<lb.length)(o:(la.map (·.1)).Nodup)(i:TBb B N la)(j:TBb C N lb)(p:∀ s∈la,∀ t∈lb,Pl.RB b (s.2*t.2))(m:Pl.Canon N out)(f:∀ e,Pl.coef out e=Pl.coef (shf (lb.getD k tz) la) e)(n:out.length<=(shf (lb.getD k tz) la).length):Acc N (B+C) b la lb (d ++ out) (k+1):=by
 have g:lb.getD k tz∈lb:=by
  rw[gqq,gD l,gP];exact jl l
 have h1:=Ti o (fun s c=>(i s c).1) (j _ g).1 m f;refine⟨fun e=>by rw[Vi l,Pl.coef_app,Pl.coef_app,h.co,f],fun t a => ?_,fun t a => ?_,fun e => ?_,?_⟩
 · rcases iw.1 a with a|a
   · exact h.rb t a
   · obtain⟨s,c,rfl⟩:=h1 t a;exact p s c _ g
 · rcases iw.1 a with a|a
   · exact h.tb t a
   · obtain⟨s,c,rfl⟩:=h1 t a;exact⟨DN (i s c).1 (j _ g).1,RT (i s c).2 (j _ g).2⟩
 · have h2:=Gh e (Eq m);have h3:=h.ct e;rw[JF];omega
 · have h2:=h.ln;rw[NG]at n;rw[iD,iW];omega
theorem Acc.sub{la lb a:List Pl.Tm}(h:Acc N D b la lb a k)(c:1<=b)(d:k*(b+1)+1<=1000000):Pl.SubOK a:=Pl.SubOK.of_cnt c h.rb h.ct d
def NSm(b0 base N:Nat)(l:List Pl.Tm)(v:Value)(w:World):Prop:=∃ a n c out,v = .agg (pL (N:Int) a n c).toArray/\TO w b0 base a n c out/\n<=l.length/\Pl.Canon N out/\∀ e,Pl.coef out e=Pl.coef l e
theorem NSm.x(b0 base N:Nat)(l:List Pl.Tm):StX (NSm b0 base N l):=fun _ _ _ x ⟨a,n,c,b,h1,h2,h3⟩=>⟨a,n,c,b,h1,h2.ext x,h3⟩
def NSf(b0 base N:Nat)(l:List Pl.Tm)(v:Value)(w:World):Prop:=∃ a n c out,v = .slice a n c/\TO w b0 base a n c out/\n<=l.length/\Pl.Canon N out/\∀ e,Pl.coef out e=Pl.coef l e
theorem NSf.x(b0 base N:Nat)(l:List Pl.Tm):StX (NSf b0 base N l):=fun _ _ _ x ⟨a,n,c,b,h1,h2,h3⟩=>⟨a,n,c,b,h1,h2.ext x,h3⟩
def YF(w:World)(b0 N M:Nat)(l:List Pl.Tm)(e:Ending)(w':World):Prop:=∃ a n c out,e = .returned (.agg (pL (N:Int) a n c).toArray)/\Ext w w'/\TO w' b0 w.heap.size a n c out/\n<=M/\Pl.Canon N out/\∀ x,Pl.coef out x=Pl.coef l x
theorem I1(hN:N<=12){B C:Int}{aa ab:Option Addr}{n c m d:Nat}{la lb:List Pl.Tm}{w:World}(ha:TSl w b0 aa n c la)(hb:TSl w b0 ab m d lb)(ba:TBb B N la)(bb:TBb C N lb)(a7:0<=B/\0<=C/\B+C<=1099511627776)(hw:b0<=w.heap.size)(bm:m*n<=10000)(hn:n<=10000)(hm:m<=10000)(Z:(la.map (·.1)).Nodup)(ra:∀ s∈la,Pl.RB 1000000 s.2)(rb:∀ t∈lb,Pl.RB 1000000 t.2)(ai:1<=b)(hr:∀ s∈la,∀ t∈lb,Pl.RB b (s.2*t.2))(aj:m*(b+1)+1<=1000000) :
 Calls Tryz.prog 83 #[.agg (pL (N:Int) aa n c).toArray,.agg (pL (N:Int) ab m d).toArray] w (YF w b0 N (m*n) (tmU la lb)):=by
 have X:=ha.len;have G:=hb.len
 go_enter Tryz.func83,Tryz.ntmps83
 go_upto_region 1 with(fail)
 refine CO ?_;intro w0 ac T a5 a6 bc;have b8:Arr w0 (w.heap.size+2) 44 (pL 0 none 0 0):=a6;have p0:=T.c 0 rfl;have p1:=T.c 1 rfl;have q1:=a5.c 1 rfl;clear T a5 a6 bc;have J:=qh (Acc.start N (B+C) b la lb);go_wp2
 go_loopw[5,6] (fun lv iv wr=>∃ (k:Nat) (ao:Option Addr) (no co:Nat) (D:List Pl.Tm),lv = .slice ao no co/\iv = .int .i64 k/\k<=m/\no<=k*n/\Ext w0 wr/\Hid (TO wr b0 w0.heap.size ao no co D)/\Hid (Acc N (B+C) b la lb D k)) (fun _ iv _=>m-(intOf iv).toNat)
 case atStart=>exact⟨0,none,0,0,[],rfl,rfl,gO _,gO _,Ext.refl _,qh (TO.nil _ _ _),J⟩
 case round =>
  clear J;obtain⟨k,ao,no,co,D,rfl,rfl,hk,bn,K,HO,HA⟩:=hrel;have z:=ac.trans K;have bd:=K.cell p0;have be:=K.cell p1;have bf:=K.cell q1;have b9:k*n<=m*n:=gH n hk;by_cases r:k<m
  case neg =>
   have aI:¬ (k:Int)<m:=by omega
   have ar:k=m:=by omega
   have az:=qh (EL (N:=N) (b0:=b0) hN (vars:=(N:Int)) HO.out.sl (HA.out.tb.tb a7.2.2) (gJ hw z.size) (by omega) (HA.out.sub ai (by rw[ar];exact aj)));have aN:Hid (∀ e,Pl.coef D e=Pl.coef (tmU la lb) e):=by have h1:=HA.out.co;rw[gG (by omega)]at h1;exact qh h1
   have P:Hid (D.length<=m*n):=qh (by rw[HO.out.sl.len];omega);have hR:=b8.ext K;have aO:=qh hw;clear HO HA ar X G ba bb b9 aj Z hr
   go_wp2_with fail
   refine az.out.mono ?_;rintro e w1 ⟨a1,n1,c1,out,rfl,ad,b6,av,L,am⟩;have af:=hR.ext ad;have HX:=qh L;have HY:=qh am;have aR:=qh av;clear az L am av hR
   go_wp2_with(refine Aa (vs:=pL (N:Int) a1 n1 c1) rfl rfl rfl rfl rfl AJ af rfl (AT _ _ _ _) ?_;intro w9 b1 aq)
   exact gF (Ap rfl AJ rfl b1) rfl ⟨a1,n1,c1,out,rfl,(z.trans ad).grownR aq (by omega),(b6.keptA af (by decide) (by decide) (by decide) (by have:=aO.out;omega) aq).mono z.size,gJ aR.out P.out,HX.out,fun e=>(HY.out e).trans (aN.out e)⟩
  have aI:(k:Int)<m:=by omega
  have F:k<lb.length:=by omega
  have ak:=hb.ext z;obtain⟨i,l,bh,s1,x1,m1,Q,y1,S,h1,q,y,R,rfl,A,a,a2,au,an,aA⟩:=ak.row r;have o:lb.getD k tz∈lb:=im (getD_some F);have aV:wr.cell? ⟨i,l+k*5,none⟩=some (.bool s1):=by have:=A.cl r (j:=0) (by omega);rw[a]at this;exact this
  have aW:wr.cell? ⟨i,l+k*5+1,none⟩=some (.slice x1 m1 Q):=by have:=A.cl r (j:=1) (by omega);rw[a]at this;exact this
  have aX:wr.cell? ⟨i,l+k*5+2,none⟩=some (.bool false):=by have:=A.cl r (j:=2) (by omega);rw[a]at this;exact this
  have aY:wr.cell? ⟨i,l+k*5+3,none⟩=some (.slice y1 S h1):=by have:=A.cl r (j:=3) (by omega);rw[a]at this;exact this
  have aZ:wr.cell? ⟨i,l+k*5+4,none⟩=some (.slice q y R):=by have:=A.cl r (j:=4) (by omega);rw[a]at this;exact this
  have a4:Hid (Hc wr b0 (.agg #[.bool s1,.slice x1 m1 Q,.bool false,.slice y1 S h1,.slice q y R]) (lb.getD k tz)):=qh ⟨tL s1 x1 m1 Q y1 S h1 q y R,rfl,s1,x1,m1,Q,y1,S,h1,q,y,R,rfl,a2,au,an,aA⟩
  have ay:=qh (fun(wy:World) (f:Ext wr wy)=>PA (N:=N) (b0:=b0) hN (ha.ext (z.trans f)) (a4.out.ext f) ba (bb _ o) a7 (gJ hw (z.trans f).size) hn (rb _ o) ra (Pl.SubOK.of_cnt ai (fun u hu=>by obtain⟨s,hs,rfl⟩:=ie.1 hu;exact hr s hs _ o) (fun e=>Gh e (IB Z (fun s hs=>(ba s hs).1) (bb _ o).1)) (by have:1*(b+1)<=m*(b+1):=gH _ (by omega);omega)));have a3:=fun out h1 h2 h3=>qh (HA.out.step (out:=out) F Z ba bb hr h1 h2 h3);have aQ:=qh G;have P:=qh X;generalize lb.getD k tz=t at *
  clear A a o au an aA a2 G X F ak
  go_upto_region 5 with(fail)
  have O:=fun(p:World) (f:Ext wr p)=>qh (And.intro (f.cell bd) (And.intro (f.cell be) (And.intro (f.cell bf) (And.intro (f.cell aV) (And.intro (f.cell aW) (And.intro (f.cell aX) (And.intro (f.cell aY) (f.cell aZ))))))))
  refine Ab (by kernel_rfl) (fun p=>Ext wr p)
   [he (.slice ao no co),
 he (.agg #[.int .i64 (N:Int),.slice aa n c]),
 he (.pointer (some ⟨(w.heap.size+1),1,none⟩)),
 he (.slice (some ⟨i,l,none⟩) m d),
 he (.int .i64 (k:Int)),
 he (.pointer (some ⟨i,(l+k*5),none⟩)),
 he (.agg #[.bool s1,.slice x1 m1 Q,.bool false,.slice y1 S h1,.slice q y R]),
 hp (fun v p=>NSm b0 w0.heap.size N (shf t la) v p),
 hp (fun v p=>NSf b0 w0.heap.size N (shf t la) v p)]
   (by kernel_rfl) (fun _ _ e h=>h.trans e) ((Ext.refl wr).drew) ⟨trivial,trivial,trivial,trivial,trivial,trivial,trivial,NSm.x _ _ _ _,NSf.x _ _ _ _,trivial⟩ ⟨?o0,?o1,?o2,?o3,?o4,?o5,?o6,?o7,?o8,trivial⟩ ?fin
  case o0 | o4=>exact omv
  case o1=>exact ol2
  case o2=>exact ofa (d:=1)
  case o3=>exact ol
  case o5 =>
   refine Aj rfl fun I p f M h => ?_;have e0:I (.tmp 17)=(.slice (some ⟨i,l,none⟩) m d):=h.1;have e1:I (.tmp 18)=(.int .i64 (k:Int)):=h.2.1;obtain⟨aG,aH,kq,aB,aC,aD,aE,aF⟩:=(O p f).out;go_simp
   try (first | (intros;omega) | exact gI _ (by omega))
  case o6 =>
   refine Aj rfl fun I p f M h => ?_;have e0:I (.tmp 19)=(.pointer (some ⟨i,(l+k*5),none⟩)):=h.1;obtain⟨aG,aH,kq,aB,aC,aD,aE,aF⟩:=(O p f).out;go_simp
  case o7 =>
   refine Ag rfl fun I p f M bl h => ?_;have e1:I (.tmp 15)=(.agg #[.int .i64 (N:Int),.slice aa n c]):=h.2.1;have e2:I (.tmp 20)=(.agg #[.bool s1,.slice x1 m1 Q,.bool false,.slice y1 S h1,.slice q y R]):=h.2.2.1;obtain⟨aG,aH,kq,aB,aC,aD,aE,aF⟩:=(O p f).out;refine⟨161,#[.agg #[.int .i64 (N:Int),.slice aa n c],.agg #[.bool s1,.slice x1 m1 Q,.bool false,.slice y1 S h1,.slice q y R]],by go_simp,(ay.out p f).mono ?_⟩;rintro e w' ⟨a',n',c',out,rfl,b2,U,Y,V,a0⟩;exact⟨_,rfl,b2,a',n',c',out,rfl,U.mono (K.trans f).size,Y,V,a0⟩
  case o8 =>
   refine AE rfl ?_;rintro I p hp f ⟨⟨v0,e0,a',n',c',out,rfl,U,Y,V,a0⟩,-⟩;refine⟨.slice a' n' c',p,?_,Ext.refl _,a',n',c',out,rfl,U,Y,V,a0⟩;have aU:I (.tmp 21) = .agg #[.int .i64 (N:Int),.slice a' n' c']:=e0;clear e0;simp[execOp,aU,Zl]
  case fin =>
   intro p f;rintro _ _;rintro _ ⟨a9,n9,c9,aL,rfl,ah,H,al,aw⟩;change wpList _ _ _ _ _ _;simp only[lq,lw,lx,lz,Act.put,lj,lk,ly];obtain⟨bo,hK,b5,b4⟩:=HO.out;obtain⟨bg,ag,W,E⟩:=ah.sl;have ae:=hK.ext f;have aK:=(K.trans f).size;have ax:bg.length=n9:=ag.len;have aJ:=OQ ax E;have aT:=qh (a3 aL al aw (by rw[W];exact H)).out;have bj:n9<=n:=by rw[NG,P.out]at H;exact H
   have bi:k*n+n<=m*n:=by have h1:(k+1)*n<=m*n:=gH n r;rw[iW]at h1;omega
   have aM:=qh E;have aP:=qh W;clear E ah al aw H W HA a3 ay a4
   go_wp2_with(refine OP rfl rfl Tryz.underlying42 B8 rfl ae rfl ag aJ (by unfold maxLen;omega) (by omega) aK ?_;intro a8 c8 w8 b7 ap bk)
   have aS:=TO.app ae b5 (fun j hj=>(b4 j hj).ext f) aP.out ax aM.out (gJ hw ac.size) b7 ap;have b3:Ext w0 w8:=(K.trans f).grown ap (fun g hg=>(hK.lt hg).1);have G:=aQ.out;go_roundw
   case rel=>exact⟨k+1,a8,no+n9,c8,_,rfl,by go_num,by omega,by rw[iW];omega,b3,qh aS,aT⟩
   case measure=>simp[intOf];omega
theorem Y7{ts:List Tx}{l:List Pl.Tm}(h:rdR va ts=some l):TBb 1048576 va.toNat l:=fun t a=>by
 have h1:=AU h;refine⟨(Dk h).len t a,?_⟩;rw[h1.1]at a;obtain⟨s,c,rfl⟩:=ie.1 a;obtain⟨i,b,rfl⟩:=kP c;have h2:=h1.2.2.2.2.1 i b;rw[gqq,gD b,gP]at h2;exact(CU h2).2
end Go.Proofs.YtlbmnokpiilfpaaGreatDoor
