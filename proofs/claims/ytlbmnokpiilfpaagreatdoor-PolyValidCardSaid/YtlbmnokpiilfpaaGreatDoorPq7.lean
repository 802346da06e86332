/- Part Pq7. -/
import Derived.Test.YtlbmnokpiilfpaaGreatDoorPq6
import Derived.Deep.LoopGhost
set_option linter.all false
set_option maxRecDepth 100000
set_option maxHeartbeats 100000000
namespace Go.Proofs.YtlbmnokpiilfpaaGreatDoor
open Tryz Go Go.RowKit
def im:=@List.mem_of_getElem?
def iQ:=@List.append_assoc
def jL:=@List.append_nil
def kj:=@decide_eq_decide
def ko:=@Nat.le_of_lt
def lB:=@List.replicate_succ'
def mo:=@Nat.pow_mul
def lm:=@Nat.lt_trans
def nh:=@List.replicate_zero
variable {p q:Addr} {neg:Bool} {z:Int} {xs ys:List Nat} {cs:List Value} {N X c d k m n off x y:Nat} {a b:Option Addr} {T:TypeId} {u v:Value} {w w':World}
structure IW(w wr:World)(N G:Nat)(aa:Option Addr)(na ca:Nat)(ab:Option Addr)(nb cb X Y:Nat)(xs ys:List Nat):Prop where
 ext:Ext w wr
 own1:Own wr w.heap.size 238 aa na ca (xs.map (BL .u64))
 own2:Own wr w.heap.size 238 ab nb cb (ys.map (BL .u64))
 ne:0<nb->blk aa≠blk ab
 n1:Num 18446744073709551616 xs X
 n2:Num 18446744073709551616 ys Y
 le:Y<=X
 pos:0<X
 gcd:Nat.gcd X Y=G
 bnd:X<18446744073709551616^N
theorem DL(h:Num 18446744073709551616 xs X)(a:X<18446744073709551616^N):xs.length<=N :=
 W.nrm_len (B:=18446744073709551616) (by omega) h.nrm (by rw[h.val];exact a)
theorem RC(h:Num 18446744073709551616 xs X)(hp:0<X):0<xs.length:=by
 rcases gX xs.length with h0|h0
 · have:xs=[]:=gQ h0;have a:=h.val;rw[this]at a;simp only[W.val]at a;omega
 · exact h0
theorem EO(h:Num 18446744073709551616 xs X)(hp:xs.length=0):X=0:=by
 have:xs=[]:=gQ hp;have a:=h.val;rw[this]at a;exact a.symm
theorem Nr(h:Num 18446744073709551616 xs X)(hp:xs.length=1):xs.getD 0 0=X/\X<18446744073709551616/\0<X:=by
 match xs,hp with
 | [u],_ =>
  have a:=h.val;have b:=h.bnd u (by simp);have c:=h.nrm (by simp);simp[W.val]at a c;subst a;exact⟨rfl,b,by omega⟩
theorem Je(hT:AM w)(hx:SlN .u64 w a n c xs)(hy:SlN .u64 w b m d ys)(nx:Num 18446744073709551616 xs x)(ny:Num 18446744073709551616 ys y)(hn:n<=150)(hm:m<=150)(bN:y<=x) :
 Calls prog 204 #[.slice a n c,.slice b m d] w (Hy .u64 18446744073709551616 w (Nat.gcd x y)):=by
 have aD:=gE (Bl hx hy nx ny);have HX:=gE hx.len;have HY:=gE hy.len;have NX:=gE nx;have NY:=gE ny;have aB:x<18446744073709551616^n:=by have:=W.val_lt nx.bnd;rw[nx.val,hx.len]at this;exact this
 have HB:=gE aB;have am:y<=x:=by omega
 have HC:Hid (¬ AZ (x:Int) (y:Int)<0):=gE (by rw[Dw];omega);clear aB nx ny
 go_enter func204,ntmps204
 go_wp2_with fail
 refine aD.out.mono ?_;rintro e w0 ⟨rfl,V⟩;have hc:=HC.out;generalize AZ (x:Int) (y:Int)=cv at *
 have bK:(0:Int)<=cv:=by omega
 have aj:=hx.ext V.ext;have aL:=hy.ext V.ext;have K:=V.ext;clear HC aD V;by_cases E:m=0
 · have ap:y=0:=EO NY.out (by rw[HY.out];exact E);have f:Hid (Nat.gcd x y=x):=by show _=_;rw[ap];exact lU _
   have ba:((m:Int) == 0)=true:=by simp[E]
   clear ap E;go_wp2;go_ret;exact⟨a,n,c,xs,rfl,K,aj,by rw[f.out];exact NX.out⟩
 have ba:((m:Int) == 0)=false:=by simpa using E
 have bu:0<y:=by
  rcases gX y with h|h
  · exfalso;have h1:W.val 18446744073709551616 ys=0:=by rw[NY.out.val,h]
    have h2:=(W.nrm_zero (B:=18446744073709551616) (by omega) NY.out.nrm).1 h1;have h3:=HY.out;rw[h2]at h3;exact E h3.symm
  · exact h
 clear E
 go_wp2_with fail
 refine(CP aj (by omega)).mono ?_;rintro e w1 ⟨a1,c1,rfl,U,a8⟩
 go_wp2_with fail
 refine(CP (aL.ext U) (by omega)).mono ?_;rintro e w2 ⟨a2,c2,rfl,a4,a9⟩;have O:IW w w2 n (Nat.gcd x y) a1 n c1 a2 m c2 x y xs ys:=by
  refine⟨(K.trans U).trans a4,(a8.mono K.size).ext a4,a9.mono (K.trans U).size,fun h0 he => ?_,NX.out,NY.out,am,by omega,rfl,HB.out⟩;obtain⟨g2,rfl,bL,_⟩:=a9.place h0;have:=(a8.lt (k:=g2) (by rw[he];rfl)).2;omega
 have f:=gE O;clear O a8 a9 U a4 aj aL K;go_wp2
 go_loopg [5,6] (x+y) (fun gk av bv wr=>∃ (aa G:Option Addr) (r H i I X Y:Nat) (us Q:List Nat),av = .slice aa r H/\bv = .slice G i I/\r<=150/\i<=r/\X+Y<=gk/\Hid (IW w wr n (Nat.gcd x y) aa r H G i I X Y us Q))
 case atStart =>
  refine⟨a1,a2,n,c1,m,c2,x,y,xs,ys,rfl,rfl,by omega,?_,lrf _,f⟩;have h1:=DL NY.out (gN am HB.out);rw[HY.out]at h1;exact h1
 case round =>
  clear f;obtain⟨aa,G,r,H,i,I,X,Y,us,Q,rfl,rfl,bR,bd,bO,f⟩:=hrel;have HU:Hid (us.length=r):=gE (by have:=f.out.own1.len;simpa using this);have HV:Hid (Q.length=i):=gE (by have:=f.out.own2.len;simpa using this);have b6:=f.out.pos;have Z:=f.out.le;have an:0<r:=by have:=RC f.out.n1 b6;rw[HU.out]at this;exact this
  have N:SlN .u64 wr aa r H us:=f.out.own1.sl;have a0:SlN .u64 wr G i I Q:=f.out.own2.sl;obtain⟨J,rfl,bA,aN⟩:=f.out.own1.place an;by_cases h1:i<=1
  · by_cases h0:i=0
    · have az:Y=0:=EO f.out.n2 (by rw[HV.out];exact h0);have HF:Hid (Num 18446744073709551616 us (Nat.gcd x y)):=by
       have h2:=f.out.gcd;rw[az,lU]at h2;have h3:=f.out.n1;rw[h2]at h3;exact gE h3
      have T:=f.out.ext;subst h0;clear az h1;go_wp2;go_ret;exact⟨_,r,H,us,rfl,T,N,HF.out⟩
    · have h11:i=1:=by omega
      subst h11;obtain⟨k1,k2,k3⟩:=Nr f.out.n2 HV.out;obtain⟨b2,o2,rfl,M⟩:=a0.at (j:=0) (by omega);have g1:=M 0 (by omega);rw[k1,iO]at g1;have HF:Hid (Nat.gcd Y (X%Y)=Nat.gcd x y):=by
       show _=_;rw[<-f.out.gcd,kw X Y,nO Y X,kw]
      have T:=f.out.ext;have b5:=hT.ext T;have b9:Nat.gcd Y (X%Y)<18446744073709551616:=by have:=lK k3 (kL Y (X%Y));omega
      have bh:=fun(l:World) (h:Ext wr l)=>Eo (d:=Y) (N.ext h) f.out.n1.bnd f.out.n1.val k2 k3 (by omega);clear M h1 h0 k1;have aQ:X%Y<18446744073709551616:=by have:=io X k3;omega
      go_wp2
      refine Ab (by kernel_rfl) (fun l=>Ext wr l)
       [he (.slice (some ⟨b2,o2,none⟩) 1 I),
 he (.pointer (some ⟨b2,o2,none⟩)),
 he (.int .u64 (Y:Int)),
 he (.slice (some ⟨J,0,none⟩) r H),
 he (.slice (some ⟨b2,o2,none⟩) 1 I),
 he (.pointer (some ⟨b2,o2,none⟩)),
 he (.int .u64 (Y:Int)),
 hp (fun v l=>v = .int .u64 ((X%Y:Nat):Int)),
 hp (fun v l=>v = .int .u64 ((Nat.gcd Y (X%Y):Nat):Int)),
 hp (fun v l=>∃ a' n' c' zs,v = .slice a' n' c'/\SlN .u64 l a' n' c' zs/\Num 18446744073709551616 zs (Nat.gcd Y (X%Y)))]
       (by kernel_rfl) (fun _ _ e h=>h.trans e) ((Ext.refl wr).drew) ⟨trivial,trivial,trivial,trivial,trivial,trivial,trivial,fun v w w' e h=>h,fun v w w' e h=>h,fun v w w' e ⟨a',n',c',zs,h1,h2,h3⟩=>⟨a',n',c',zs,h1,h2.ext e,h3⟩,trivial⟩ ⟨?o0,?o1,?o2,?o3,?o4,?o5,?o6,?o7,?o8,?o9,trivial⟩ ?fin
      case o0 | o3 | o4=>exact Iw rfl (.inl rfl) (fun _ _ _ h=>h.1)
      case o1 =>
       refine Aj rfl fun F l s o h => ?_;have e0:F (.tmp 62)=(.slice (some ⟨b2,o2,none⟩) 1 I):=h.1;have D:=s.cell g1;go_simp
       try (first | (intros;omega) | exact gI _ (by omega))
      case o2 =>
       refine Aj rfl fun F l s o h => ?_;have e0:F (.tmp 63)=(.pointer (some ⟨b2,o2,none⟩)):=h.1;have D:=s.cell g1;go_simp
      case o5 =>
       refine Aj rfl fun F l s o h => ?_;have e0:F (.tmp 66)=(.slice (some ⟨b2,o2,none⟩) 1 I):=h.1;have D:=s.cell g1;go_simp
       try (first | (intros;omega) | exact gI _ (by omega))
      case o6 =>
       refine Aj rfl fun F l s o h => ?_;have e0:F (.tmp 67)=(.pointer (some ⟨b2,o2,none⟩)):=h.1;have D:=s.cell g1;go_simp
      case o7 =>
       refine Ag rfl fun F l s o aF h => ?_;have e1:F (.tmp 65)=(.slice (some ⟨J,0,none⟩) r H):=h.2.1;have e2:F (.tmp 68)=(.int .u64 (Y:Int)):=h.2.2.1;have D:=s.cell g1;refine⟨243,#[.slice (some ⟨J,0,none⟩) r H,.int .u64 (Y:Int)],by go_simp,(bh l s).mono ?_⟩;rintro e w' ⟨rfl,b3⟩;exact⟨_,rfl,b3.ext,rfl⟩
      case o8 =>
       refine Ag rfl fun F l s o aF h => ?_;have e1:F (.tmp 64)=(.int .u64 (Y:Int)):=h.2.1;obtain⟨v2,e2,rfl⟩:=h.2.2.1;have D:=s.cell g1;refine⟨242,#[.int .u64 (Y:Int),.int .u64 ((X%Y:Nat):Int)],by go_simp,(IV (b5.ext s) k2 aQ).mono ?_⟩;rintro e w' ⟨rfl,rfl⟩;exact⟨_,rfl,Ext.refl _,rfl⟩
      case o9 =>
       refine Ag rfl fun F l s o aF h => ?_;obtain⟨v1,e1,rfl⟩:=h.2.1;have D:=s.cell g1;refine⟨217,#[.int .u64 ((Nat.gcd Y (X%Y):Nat):Int)],by go_simp,(DJ b9).mono ?_⟩;rintro e w' ⟨a',n',c',zs,rfl,aX,bi,bc⟩;exact⟨_,rfl,aX,a',n',c',zs,rfl,bi,bc⟩
      case fin =>
       intro l s;rintro _ rfl;rintro _ rfl;rintro _ ⟨aU,bo,aV,bs,rfl,bq,br⟩;change wpList _ _ _ _ _ _;simp only[lq,lw,lx,lz,Act.put,lj,lk,ly];go_wp2;go_ret;exact⟨aU,bo,aV,bs,rfl,T.trans s,bq,by rw[<-HF.out];exact br⟩
  · have b7:(1:Int)<i:=by omega
    obtain⟨gb,rfl,bD,aO⟩:=f.out.own2.place (by omega);have bS:J≠gb:=by have:=f.out.ne (by omega);simpa[blk]using this
    have T:=f.out.ext
    go_wp2_with fail
    refine(Hm N a0 f.out.n1 f.out.n2 (by omega) Z (nn:=r-2) (by omega)).mono ?_;rintro e w3 ⟨u0,u1,v0,v1,aM,rfl,L,bj,bk,bl,bm,O⟩;have au:=gE O;clear O
    go_upto_region 8 with(refine Aa rfl rfl rfl rfl rfl CW (Arr.new _ _ _) rfl (Fn _ _ _ _ _) ?_;intro w4 ac aG)
    have aw:Ext w3 w4:=((Ext.refl w3).alloc _).grownR aG (lrf _);have g:=L.trans aw;have o1:=f.out.own1.ext g;have o2:=f.out.own2.ext g;have s2:=ac.c 2 rfl;by_cases P:v0=0
    · subst P;have C:0<Y:=by
       rcases gX Y with h|h
       · exfalso;have h2:=(W.nrm_zero (B:=18446744073709551616) (by omega) f.out.n2.nrm).1 (by rw[f.out.n2.val,h]);have h3:=HV.out;rw[h2]at h3;simp at h3;omega
       · exact h
      have aE:=DD (N.ext g) (a0.ext g) f.out.n1 f.out.n2 (by omega) (by omega) C (by omega)
      go_wp2_with fail
      refine aE.mono ?_;rintro e w5 ⟨p1,p2,p3,p4,ar,nr,cr,rs,rfl,A,_,_,ag,ak,_⟩;have bT:nr<=150:=by
       have h1:=DL ak (lm (io X C) (gN Z f.out.bnd));rw[ag.len]at h1;omega
      have bg:nr<=i:=by
       have h1:=W.val_lt f.out.n2.bnd;rw[f.out.n2.val,HV.out]at h1;have h2:=DL ak (lm (io X C) h1);rw[ag.len]at h2;exact h2
      clear aE
      go_wp2_with fail
      refine(CP ag (by omega)).mono ?_;rintro e w6 ⟨a6,c6,rfl,aY,ax⟩;have al:=(g.trans A).trans aY;have a3:Hid (IW w w6 n (Nat.gcd x y) (some ⟨gb,0,none⟩) i I a6 nr c6 Y (X%Y) Q rs):=by
       refine gE ⟨T.trans al,f.out.own2.ext al,ax.mono ((T.trans g).trans A).size,fun h0 he => ?_,f.out.n2,ak,ko (io X C),C,?_,gN Z f.out.bnd⟩
       · obtain⟨g6,rfl,bM,_⟩:=ax.place h0;simp only[blk,jJ,gK]at he;have:=g.size;have:=A.size;omega
       · rw[<-f.out.gcd,kw X Y,nO Y X,kw]
      have bQ:Y+X%Y<X+Y:=by have:=io X C;omega
      go_wp2
      go_roundg (Y+X%Y)
      case rel=>exact⟨_,a6,i,I,nr,c6,Y,X%Y,Q,rs,rfl,rfl,by omega,bg,lrf _,a3⟩
      case measure=>omega
    · have bH:((v0:Int) == 0)=false:=by simpa using P
      have aT:∃ p q,W.Steps X Y u0 u1 v0 v1 aM p q:=by
       rcases au.out with h|h
       · exact absurd h P
       · exact h
      obtain⟨p,q,aJ⟩:=aT;have R:=gE aJ;clear aJ au;have bE:gb<w3.heap.size:=ib aO L.size;have bC:J<w3.heap.size:=ib aN L.size;have bJ:w.heap.size<=w3.heap.size:=(T.trans L).size;have A:=T.trans g;clear N a0 b7 aw aG g L;generalize w3.heap.size=S at *
      go_wp2;clear s2;obtain⟨wo,bn⟩:∃ wo:World,wo=wr:=⟨_,rfl⟩;subst bn
      go_loopw[6] (fun bv l=>∃ (G:Option Addr) (z cc:Nat),bv = .slice G z cc/\i<=z/\z<=r/\Ext w l/\Own l w.heap.size 238 (some ⟨J,0,none⟩) r H (us.map (BL .u64))/\Own l w.heap.size 238 G z cc ((Q ++ List.replicate (z-i) 0).map (BL .u64))/\blk G≠some J/\Arr l S 268 (C4 u0 u1 v0 v1 aM)/\blk G≠some S) (fun bv _=>match bv with | .slice _ k _=>r-k | _=>0)
      case atStart=>exact⟨_,i,I,rfl,lrf _,bd,A,o1,by rw[ju,nh,jL];exact o2,by simp[blk];omega,ac,by simp[blk];omega⟩
      case round =>
       clear o1 o2 ac A;obtain⟨G,z,cc,rfl,bF,bG,a5,o1,o2,ae,t,aC⟩:=hrel;by_cases bP:z<r
       · have hA:=o2.alloc (.cells #[.int .u64 0] 238);have hL:=(AB wr w.heap.size 238 #[.int .u64 0] 1 rfl a5.size (by omega)).sl;have b8:∀ k,blk G=some k->w.heap.size<=k:=fun k hk=>(o2.lt hk).1;have bB:=(o1.lt (k:=J) rfl).2;have bI:=t.lt
         go_wp2_with(refine B5 rfl rfl underlying81 AK rfl rfl hA rfl hL (by simp[Value.oneCell']) (by unfold maxLen;omega) (by omega) (by simp;omega) ?_;intro a7 c7 w7 ay af ad)
         have aZ:Ext w w7:=(a5.alloc _).grown af b8;have bp:=(o1.alloc (.cells #[.int .u64 0] 238)).kept af (Or.inr (fun h=>ae h.symm));have b4:=(t.alloc (.cells #[.int .u64 0] 238)).kept af (fun h=>aC h.symm);have aR:blk a7≠some J:=by
          rcases ad with h|h
          · rw[h];exact ae
          · rw[h];simp;omega
         have aS:blk a7≠some S:=by
          rcases ad with h|h
          · rw[h];exact aC
          · rw[h];simp;omega
         have b1:Own w7 w.heap.size 238 a7 (z+1) c7 ((Q ++ List.replicate (z+1-i) 0).map (BL .u64)):=by
          have e1:z+1-i=z-i+1:=by omega
          rw[e1,lB,<-iQ,iJ];exact ay
         clear ay hA hL ad;go_roundw
         case rel=>exact⟨a7,z+1,c7,rfl,by omega,by omega,aZ,bp,b1,aR,b4,aS⟩
         case measure=>simp;omega
       · have aW:z=r:=by omega
         subst aW;obtain⟨g2,rfl,bw,bx⟩:=o2.place an;have ao:J≠g2:=by intro h;subst h;exact ae rfl
         have vb:W.val 18446744073709551616 (Q ++ List.replicate (z-i) 0)=Y:=by rw[He,f.out.n2.val]
         have bb:W.bnd 18446744073709551616 (Q ++ List.replicate (z-i) 0):=Jy (by omega) f.out.n2.bnd _;have aA:=Mv a5 o1 o2 ao f.out.n1.bnd bb f.out.n1.val vb bj bk bl bm R.out (by omega);have aq:=gE aA;clear aA vb bb;have s0:=t.c 0 rfl;have s1:=t.c 1 rfl;have s2:=t.c 2 rfl;have s3:=t.c 3 rfl;have s4:=t.c 4 rfl
         go_wp2_with fail
         refine aq.out.mono ?_;rintro e w8 ⟨rfl,b0,zs,ts,oz,ot,bz,bt,vz,vt⟩;clear s0 s1 s2 s3 s4 t aq
         go_wp2_with fail
         refine(Bq oz.sl).mono ?_;rintro e w9 ⟨m1,rfl,rfl,aH,ah⟩
         go_wp2_with fail
         refine(Bq ot.sl).mono ?_;rintro e w9 ⟨m2,rfl,rfl,aI,ai⟩;obtain⟨t1,t2⟩:=BE oz.sl aH ah bz vz;obtain⟨t3,t4⟩:=BE ot.sl aI ai bt vt;have o3:=oz.upto aH;have o4:=ot.upto aI;rw[<-ah]at o3;rw[<-ai]at o4;have aK:=R.out.lt;have be:=R.out.le;have bf:p<18446744073709551616^n:=gN (gJ be Z) f.out.bnd;have aP:m2<=m1:=by
          have h1:=W.val_lt t2.bnd;rw[t2.val,t1.len]at h1;have h2:=DL t4 (lm aK h1);rw[t3.len]at h2;exact h2
         have a3:Hid (IW w w8 n (Nat.gcd x y) (some ⟨J,0,none⟩) m1 H (some ⟨g2,0,none⟩) m2 cc p q (W.trim zs) (W.trim ts)) :=
          gE ⟨b0,o3,o4,fun _=>by simpa[blk]using ao,t2,t4,ko aK,by omega,by rw[R.out.gcd,f.out.gcd],bf⟩
         clear ah ai t1 t2 t3 t4 o3 o4 oz ot bz bt vz vt o1 o2;go_wp2
         go_roundg (p+q)
         case rel=>exact⟨_,_,m1,H,m2,cc,p,q,W.trim zs,W.trim ts,rfl,rfl,by omega,aP,lrf _,a3⟩
         case measure=>omega
theorem Jf(hT:AM w)(hx:SlN .u64 w a n c xs)(hy:SlN .u64 w b m d ys)(nx:Num 18446744073709551616 xs x)(ny:Num 18446744073709551616 ys y)(hn:n<=150)(hm:m<=150)(bN:x<y) :
 Calls prog 204 #[.slice a n c,.slice b m d] w (Hy .u64 18446744073709551616 w (Nat.gcd x y)):=by
 have aD:=gE (Bl hx hy nx ny);have HX:=gE hy.len;have HY:=gE hx.len;have NX:=gE ny;have NY:=gE nx;have aB:y<18446744073709551616^m:=by have:=W.val_lt ny.bnd;rw[ny.val,hy.len]at this;exact this
 have HB:=gE aB;have am:x<=y:=by omega
 have HC:Hid (AZ (x:Int) (y:Int)<0):=gE (by rw[Dw];omega);clear aB nx ny
 go_enter func204,ntmps204
 go_wp2_with fail
 refine aD.out.mono ?_;rintro e w0 ⟨rfl,V⟩;have hc:=HC.out;generalize AZ (x:Int) (y:Int)=cv at *
 have bK:cv<0:=by omega
 have aj:=hy.ext V.ext;have aL:=hx.ext V.ext;have K:=V.ext;clear HC aD V;by_cases E:n=0
 · have ap:x=0:=EO NY.out (by rw[HY.out];exact E);have f:Hid (Nat.gcd x y=y):=by show _=_;rw[ap];exact Nat.gcd_zero_left _
   have ba:((n:Int) == 0)=true:=by simp[E]
   clear ap E;go_wp2;go_ret;exact⟨b,m,d,ys,rfl,K,aj,by rw[f.out];exact NX.out⟩
 have ba:((n:Int) == 0)=false:=by simpa using E
 have bu:0<x:=by
  rcases gX x with h|h
  · exfalso;have h1:W.val 18446744073709551616 xs=0:=by rw[NY.out.val,h]
    have h2:=(W.nrm_zero (B:=18446744073709551616) (by omega) NY.out.nrm).1 h1;have h3:=HY.out;rw[h2]at h3;exact E h3.symm
  · exact h
 clear E
 go_wp2_with fail
 refine(CP aj (by omega)).mono ?_;rintro e w1 ⟨a1,c1,rfl,U,a8⟩
 go_wp2_with fail
 refine(CP (aL.ext U) (by omega)).mono ?_;rintro e w2 ⟨a2,c2,rfl,a4,a9⟩;have O:IW w w2 m (Nat.gcd x y) a1 m c1 a2 n c2 y x ys xs:=by
  refine⟨(K.trans U).trans a4,(a8.mono K.size).ext a4,a9.mono (K.trans U).size,fun h0 he => ?_,NX.out,NY.out,am,by omega,kw _ _,HB.out⟩;obtain⟨g2,rfl,bL,_⟩:=a9.place h0;have:=(a8.lt (k:=g2) (by rw[he];rfl)).2;omega
 have f:=gE O;clear O a8 a9 U a4 aj aL K;go_wp2
 go_loopg [5,6] (y+x) (fun gk av bv wr=>∃ (aa G:Option Addr) (r H i I X Y:Nat) (us Q:List Nat),av = .slice aa r H/\bv = .slice G i I/\r<=150/\i<=r/\X+Y<=gk/\Hid (IW w wr m (Nat.gcd x y) aa r H G i I X Y us Q))
 case atStart =>
  refine⟨a1,a2,m,c1,n,c2,y,x,ys,xs,rfl,rfl,by omega,?_,lrf _,f⟩;have h1:=DL NY.out (gN am HB.out);rw[HY.out]at h1;exact h1
 case round =>
  clear f;obtain⟨aa,G,r,H,i,I,X,Y,us,Q,rfl,rfl,bR,bd,bO,f⟩:=hrel;have HU:Hid (us.length=r):=gE (by have:=f.out.own1.len;simpa using this);have HV:Hid (Q.length=i):=gE (by have:=f.out.own2.len;simpa using this);have b6:=f.out.pos;have Z:=f.out.le;have an:0<r:=by have:=RC f.out.n1 b6;rw[HU.out]at this;exact this
  have N:SlN .u64 wr aa r H us:=f.out.own1.sl;have a0:SlN .u64 wr G i I Q:=f.out.own2.sl;obtain⟨J,rfl,bA,aN⟩:=f.out.own1.place an;by_cases h1:i<=1
  · by_cases h0:i=0
    · have az:Y=0:=EO f.out.n2 (by rw[HV.out];exact h0);have HF:Hid (Num 18446744073709551616 us (Nat.gcd x y)):=by
       have h2:=f.out.gcd;rw[az,lU]at h2;have h3:=f.out.n1;rw[h2]at h3;exact gE h3
      have T:=f.out.ext;subst h0;clear az h1;go_wp2;go_ret;exact⟨_,r,H,us,rfl,T,N,HF.out⟩
    · have h11:i=1:=by omega
      subst h11;obtain⟨k1,k2,k3⟩:=Nr f.out.n2 HV.out;obtain⟨b2,o2,rfl,M⟩:=a0.at (j:=0) (by omega);have g1:=M 0 (by omega);rw[k1,iO]at g1;have HF:Hid (Nat.gcd Y (X%Y)=Nat.gcd x y):=by
       show _=_;rw[<-f.out.gcd,kw X Y,nO Y X,kw]
      have T:=f.out.ext;have b5:=hT.ext T;have b9:Nat.gcd Y (X%Y)<18446744073709551616:=by have:=lK k3 (kL Y (X%Y));omega
      have bh:=fun(l:World) (h:Ext wr l)=>Eo (d:=Y) (N.ext h) f.out.n1.bnd f.out.n1.val k2 k3 (by omega);clear M h1 h0 k1;have aQ:X%Y<18446744073709551616:=by have:=io X k3;omega
      go_wp2
      refine Ab (by kernel_rfl) (fun l=>Ext wr l)
       [he (.slice (some ⟨b2,o2,none⟩) 1 I),
 he (.pointer (some ⟨b2,o2,none⟩)),
 he (.int .u64 (Y:Int)),
 he (.slice (some ⟨J,0,none⟩) r H),
 he (.slice (some ⟨b2,o2,none⟩) 1 I),
 he (.pointer (some ⟨b2,o2,none⟩)),
 he (.int .u64 (Y:Int)),
 hp (fun v l=>v = .int .u64 ((X%Y:Nat):Int)),
 hp (fun v l=>v = .int .u64 ((Nat.gcd Y (X%Y):Nat):Int)),
 hp (fun v l=>∃ a' n' c' zs,v = .slice a' n' c'/\SlN .u64 l a' n' c' zs/\Num 18446744073709551616 zs (Nat.gcd Y (X%Y)))]
       (by kernel_rfl) (fun _ _ e h=>h.trans e) ((Ext.refl wr).drew) ⟨trivial,trivial,trivial,trivial,trivial,trivial,trivial,fun v w w' e h=>h,fun v w w' e h=>h,fun v w w' e ⟨a',n',c',zs,h1,h2,h3⟩=>⟨a',n',c',zs,h1,h2.ext e,h3⟩,trivial⟩ ⟨?o0,?o1,?o2,?o3,?o4,?o5,?o6,?o7,?o8,?o9,trivial⟩ ?fin
      case o0 | o3 | o4=>exact Iw rfl (.inl rfl) (fun _ _ _ h=>h.1)
      case o1 =>
       refine Aj rfl fun F l s o h => ?_;have e0:F (.tmp 62)=(.slice (some ⟨b2,o2,none⟩) 1 I):=h.1;have D:=s.cell g1;go_simp
       try (first | (intros;omega) | exact gI _ (by omega))
      case o2 =>
       refine Aj rfl fun F l s o h => ?_;have e0:F (.tmp 63)=(.pointer (some ⟨b2,o2,none⟩)):=h.1;have D:=s.cell g1;go_simp
      case o5 =>
       refine Aj rfl fun F l s o h => ?_;have e0:F (.tmp 66)=(.slice (some ⟨b2,o2,none⟩) 1 I):=h.1;have D:=s.cell g1;go_simp
       try (first | (intros;omega) | exact gI _ (by omega))
      case o6 =>
       refine Aj rfl fun F l s o h => ?_;have e0:F (.tmp 67)=(.pointer (some ⟨b2,o2,none⟩)):=h.1;have D:=s.cell g1;go_simp
      case o7 =>
       refine Ag rfl fun F l s o aF h => ?_;have e1:F (.tmp 65)=(.slice (some ⟨J,0,none⟩) r H):=h.2.1;have e2:F (.tmp 68)=(.int .u64 (Y:Int)):=h.2.2.1;have D:=s.cell g1;refine⟨243,#[.slice (some ⟨J,0,none⟩) r H,.int .u64 (Y:Int)],by go_simp,(bh l s).mono ?_⟩;rintro e w' ⟨rfl,b3⟩;exact⟨_,rfl,b3.ext,rfl⟩
      case o8 =>
       refine Ag rfl fun F l s o aF h => ?_;have e1:F (.tmp 64)=(.int .u64 (Y:Int)):=h.2.1;obtain⟨v2,e2,rfl⟩:=h.2.2.1;have D:=s.cell g1;refine⟨242,#[.int .u64 (Y:Int),.int .u64 ((X%Y:Nat):Int)],by go_simp,(IV (b5.ext s) k2 aQ).mono ?_⟩;rintro e w' ⟨rfl,rfl⟩;exact⟨_,rfl,Ext.refl _,rfl⟩
      case o9 =>
       refine Ag rfl fun F l s o aF h => ?_;obtain⟨v1,e1,rfl⟩:=h.2.1;have D:=s.cell g1;refine⟨217,#[.int .u64 ((Nat.gcd Y (X%Y):Nat):Int)],by go_simp,(DJ b9).mono ?_⟩;rintro e w' ⟨a',n',c',zs,rfl,aX,bi,bc⟩;exact⟨_,rfl,aX,a',n',c',zs,rfl,bi,bc⟩
      case fin =>
       intro l s;rintro _ rfl;rintro _ rfl;rintro _ ⟨aU,bo,aV,bs,rfl,bq,br⟩;change wpList _ _ _ _ _ _;simp only[lq,lw,lx,lz,Act.put,lj,lk,ly];go_wp2;go_ret;exact⟨aU,bo,aV,bs,rfl,T.trans s,bq,by rw[<-HF.out];exact br⟩
  · have b7:(1:Int)<i:=by omega
    obtain⟨gb,rfl,bD,aO⟩:=f.out.own2.place (by omega);have bS:J≠gb:=by have:=f.out.ne (by omega);simpa[blk]using this
    have T:=f.out.ext
    go_wp2_with fail
    refine(Hm N a0 f.out.n1 f.out.n2 (by omega) Z (nn:=r-2) (by omega)).mono ?_;rintro e w3 ⟨u0,u1,v0,v1,aM,rfl,L,bj,bk,bl,bm,O⟩;have au:=gE O;clear O
    go_upto_region 8 with(refine Aa rfl rfl rfl rfl rfl CW (Arr.new _ _ _) rfl (Fn _ _ _ _ _) ?_;intro w4 ac aG)
    have aw:Ext w3 w4:=((Ext.refl w3).alloc _).grownR aG (lrf _);have g:=L.trans aw;have o1:=f.out.own1.ext g;have o2:=f.out.own2.ext g;have s2:=ac.c 2 rfl;by_cases P:v0=0
    · subst P;have C:0<Y:=by
       rcases gX Y with h|h
       · exfalso;have h2:=(W.nrm_zero (B:=18446744073709551616) (by omega) f.out.n2.nrm).1 (by rw[f.out.n2.val,h]);have h3:=HV.out;rw[h2]at h3;simp at h3;omega
       · exact h
      have aE:=DD (N.ext g) (a0.ext g) f.out.n1 f.out.n2 (by omega) (by omega) C (by omega)
      go_wp2_with fail
      refine aE.mono ?_;rintro e w5 ⟨p1,p2,p3,p4,ar,nr,cr,rs,rfl,A,_,_,ag,ak,_⟩;have bT:nr<=150:=by
       have h1:=DL ak (lm (io X C) (gN Z f.out.bnd));rw[ag.len]at h1;omega
      have bg:nr<=i:=by
       have h1:=W.val_lt f.out.n2.bnd;rw[f.out.n2.val,HV.out]at h1;have h2:=DL ak (lm (io X C) h1);rw[ag.len]at h2;exact h2
      clear aE
      go_wp2_with fail
      refine(CP ag (by omega)).mono ?_;rintro e w6 ⟨a6,c6,rfl,aY,ax⟩;have al:=(g.trans A).trans aY;have a3:Hid (IW w w6 m (Nat.gcd x y) (some ⟨gb,0,none⟩) i I a6 nr c6 Y (X%Y) Q rs):=by
       refine gE ⟨T.trans al,f.out.own2.ext al,ax.mono ((T.trans g).trans A).size,fun h0 he => ?_,f.out.n2,ak,ko (io X C),C,?_,gN Z f.out.bnd⟩
       · obtain⟨g6,rfl,bM,_⟩:=ax.place h0;simp only[blk,jJ,gK]at he;have:=g.size;have:=A.size;omega
       · rw[<-f.out.gcd,kw X Y,nO Y X,kw]
      have bQ:Y+X%Y<X+Y:=by have:=io X C;omega
      go_wp2
      go_roundg (Y+X%Y)
      case rel=>exact⟨_,a6,i,I,nr,c6,Y,X%Y,Q,rs,rfl,rfl,by omega,bg,lrf _,a3⟩
      case measure=>omega
    · have bH:((v0:Int) == 0)=false:=by simpa using P
      have aT:∃ p q,W.Steps X Y u0 u1 v0 v1 aM p q:=by
       rcases au.out with h|h
       · exact absurd h P
       · exact h
      obtain⟨p,q,aJ⟩:=aT;have R:=gE aJ;clear aJ au;have bE:gb<w3.heap.size:=ib aO L.size;have bC:J<w3.heap.size:=ib aN L.size;have bJ:w.heap.size<=w3.heap.size:=(T.trans L).size;have A:=T.trans g;clear N a0 b7 aw aG g L;generalize w3.heap.size=S at *
      go_wp2;clear s2;obtain⟨wo,bn⟩:∃ wo:World,wo=wr:=⟨_,rfl⟩;subst bn
      go_loopw[6] (fun bv l=>∃ (G:Option Addr) (z cc:Nat),bv = .slice G z cc/\i<=z/\z<=r/\Ext w l/\Own l w.heap.size 238 (some ⟨J,0,none⟩) r H (us.map (BL .u64))/\Own l w.heap.size 238 G z cc ((Q ++ List.replicate (z-i) 0).map (BL .u64))/\blk G≠some J/\Arr l S 268 (C4 u0 u1 v0 v1 aM)/\blk G≠some S) (fun bv _=>match bv with | .slice _ k _=>r-k | _=>0)
      case atStart=>exact⟨_,i,I,rfl,lrf _,bd,A,o1,by rw[ju,nh,jL];exact o2,by simp[blk];omega,ac,by simp[blk];omega⟩
      case round =>
       clear o1 o2 ac A;obtain⟨G,z,cc,rfl,bF,bG,a5,o1,o2,ae,t,aC⟩:=hrel;by_cases bP:z<r
       · have hA:=o2.alloc (.cells #[.int .u64 0] 238);have hL:=(AB wr w.heap.size 238 #[.int .u64 0] 1 rfl a5.size (by omega)).sl;have b8:∀ k,blk G=some k->w.heap.size<=k:=fun k hk=>(o2.lt hk).1;have bB:=(o1.lt (k:=J) rfl).2;have bI:=t.lt
         go_wp2_with(refine B5 rfl rfl underlying81 AK rfl rfl hA rfl hL (by simp[Value.oneCell']) (by unfold maxLen;omega) (by omega) (by simp;omega) ?_;intro a7 c7 w7 ay af ad)
         have aZ:Ext w w7:=(a5.alloc _).grown af b8;have bp:=(o1.alloc (.cells #[.int .u64 0] 238)).kept af (Or.inr (fun h=>ae h.symm));have b4:=(t.alloc (.cells #[.int .u64 0] 238)).kept af (fun h=>aC h.symm);have aR:blk a7≠some J:=by
          rcases ad with h|h
          · rw[h];exact ae
          · rw[h];simp;omega
         have aS:blk a7≠some S:=by
          rcases ad with h|h
          · rw[h];exact aC
          · rw[h];simp;omega
         have b1:Own w7 w.heap.size 238 a7 (z+1) c7 ((Q ++ List.replicate (z+1-i) 0).map (BL .u64)):=by
          have e1:z+1-i=z-i+1:=by omega
          rw[e1,lB,<-iQ,iJ];exact ay
         clear ay hA hL ad;go_roundw
         case rel=>exact⟨a7,z+1,c7,rfl,by omega,by omega,aZ,bp,b1,aR,b4,aS⟩
         case measure=>simp;omega
       · have aW:z=r:=by omega
         subst aW;obtain⟨g2,rfl,bw,bx⟩:=o2.place an;have ao:J≠g2:=by intro h;subst h;exact ae rfl
         have vb:W.val 18446744073709551616 (Q ++ List.replicate (z-i) 0)=Y:=by rw[He,f.out.n2.val]
         have bb:W.bnd 18446744073709551616 (Q ++ List.replicate (z-i) 0):=Jy (by omega) f.out.n2.bnd _;have aA:=Mv a5 o1 o2 ao f.out.n1.bnd bb f.out.n1.val vb bj bk bl bm R.out (by omega);have aq:=gE aA;clear aA vb bb;have s0:=t.c 0 rfl;have s1:=t.c 1 rfl;have s2:=t.c 2 rfl;have s3:=t.c 3 rfl;have s4:=t.c 4 rfl
         go_wp2_with fail
         refine aq.out.mono ?_;rintro e w8 ⟨rfl,b0,zs,ts,oz,ot,bz,bt,vz,vt⟩;clear s0 s1 s2 s3 s4 t aq
         go_wp2_with fail
         refine(Bq oz.sl).mono ?_;rintro e w9 ⟨m1,rfl,rfl,aH,ah⟩
         go_wp2_with fail
         refine(Bq ot.sl).mono ?_;rintro e w9 ⟨m2,rfl,rfl,aI,ai⟩;obtain⟨t1,t2⟩:=BE oz.sl aH ah bz vz;obtain⟨t3,t4⟩:=BE ot.sl aI ai bt vt;have o3:=oz.upto aH;have o4:=ot.upto aI;rw[<-ah]at o3;rw[<-ai]at o4;have aK:=R.out.lt;have be:=R.out.le;have bf:p<18446744073709551616^m:=gN (gJ be Z) f.out.bnd;have aP:m2<=m1:=by
          have h1:=W.val_lt t2.bnd;rw[t2.val,t1.len]at h1;have h2:=DL t4 (lm aK h1);rw[t3.len]at h2;exact h2
         have a3:Hid (IW w w8 m (Nat.gcd x y) (some ⟨J,0,none⟩) m1 H (some ⟨g2,0,none⟩) m2 cc p q (W.trim zs) (W.trim ts)) :=
          gE ⟨b0,o3,o4,fun _=>by simpa[blk]using ao,t2,t4,ko aK,by omega,by rw[R.out.gcd,f.out.gcd],bf⟩
         clear ah ai t1 t2 t3 t4 o3 o4 oz ot bz bt vz vt o1 o2;go_wp2
         go_roundg (p+q)
         case rel=>exact⟨_,_,m1,H,m2,cc,p,q,W.trim zs,W.trim ts,rfl,rfl,by omega,aP,lrf _,a3⟩
         case measure=>omega
theorem Ns(e:AM w)(i:SlN .u64 w a n c xs)(j:SlN .u64 w b m d ys)(k:Num 18446744073709551616 xs x)(l:Num 18446744073709551616 ys y)(g:n<=150)(f:m<=150) :
 Calls prog 204 #[.slice a n c,.slice b m d] w (Hy .u64 18446744073709551616 w (Nat.gcd x y)):=by
 by_cases h:x<y
 · exact Jf e i j k l g f h
 · exact Je e i j k l g f (by omega)
def Uy(P:Program)(T:TypeId):Bool:=match P.underlying T with
 | none | some (.struct _) | some (.array _ _)=>false
 | _=>true
def Xz(P:Program)(T:TypeId)(k:Nat):Option Nat:=match P.underlying T with
 | some (.struct fs)=>(fs[k]?).bind fun f=>(match (P.info? f.type).map (·.size)with | some (_+1)=>some f.offset | _=>none)
 | _=>none
section
variable {P:Program} {w:World}
theorem Wa(a:Uy P T=true)(c:w.cell? p=some v):(Instr.loadAt T (.pointer (some p))).run P w = .ok v w:=by
 unfold Uy at a;cases h:P.underlying T with
 | none=>rw[h]at a;cases a
 | some d =>
  rw[h]at a;have b:(isAgg T).run P w = .ok false w:=by
   simp only[isAgg,ij,j4 h,gS];cases d <;> first | rfl | cases a
  simp[Instr.loadAt,Instr.sureAddr,loadVar,b,c]
theorem RD{b:Nat}(e:Agg P T cs.length)(f:∀ j v,cs[j]?=some v->w.cell? ⟨b,off+j,none⟩=some v):(Instr.loadAt T (.pointer (some ⟨b,off,none⟩))).run P w = .ok (.agg cs.toArray) w:=by
 obtain⟨d,hu,g,a⟩:=e.parts;have h1:(isAgg T).run P w = .ok true w:=by
  simp only[isAgg,ij,j4 hu,gS];cases d <;> first | rfl | exact absurd g (by simp)
 obtain⟨i,c,l⟩:∃ i,P.info? T=some i/\i.size=cs.length:=by
  cases h:P.info? T with
  | none=>rw[h]at a;cases a
  | some i=>rw[h]at a;exact⟨i,rfl,by simpa using a⟩
 have h2:=run_loadCells_list (P:=P) w ⟨b,off,none⟩ cs (fun j v k=>by
  have:=f j v k;unfold Addr.add;split
  · rename_i h0;rw[h0,iO]at this;exact this
  · exact this)
 simp[Instr.loadAt,Instr.sureAddr,loadVar,h1,sizeOf,typeInfo,c,l,h2]
theorem XA{b:Nat}(h:Xz P T k=some d):(Instr.fieldAt T (.pointer (some ⟨b,off,none⟩)) k).run P w = .ok (.pointer (some ⟨b,off+d,none⟩)) w:=by
 unfold Xz at h;split at h
 · rename_i j hu;cases c:j[k]? with
   | none=>rw[c]at h;cases h
   | some f =>
    rw[c]at h;simp only[kK]at h;split at h
    · rename_i n a;cases h;obtain⟨i,g,l⟩:∃ i,P.info? f.type=some i/\i.size=n+1:=by
       cases h:P.info? f.type with
       | none=>rw[h]at a;cases a
       | some i=>rw[h]at a;exact⟨i,rfl,by simpa using a⟩
      have e:(⟨b,off,none⟩:Addr).add f.offset=⟨b,off+f.offset,none⟩:=by
       unfold Addr.add;split
       · rename_i h0;rw[h0,iO]
       · rfl
      simp[Instr.fieldAt,j4 hu,c,Instr.sureAddr,fieldPlace,sizeOf,typeInfo,g,l,e]
    · cases h
 · cases h
end
section
variable {P:Program} {ops:Array Oper} {hs:List Hd} {a0:Act} {W:World} {i:Nat} {o:Oper}
theorem ol{t:Tmp}(f:Cr hs o=some true:=by rfl)(b:o.op = .load T (.tmp t):=by rfl)(g:∀ a w,Ln ops hs a0 o a w (.tmp t)->a (.tmp t) = .pointer (some p):=by exact fun _ _=>id)(d:Uy P T=true:=by kernel_rfl)(e:W.cell? p=some v:=by assumption):obl P (fun j=>Ext W j) ops hs a0 i o (he v) :=
 BN f fun a w hp c h=>by
  rw[b]at h;simp only[execOp,b,g a w h.1,ij,Wa d (c.cell e),gS,iF]
theorem ol2{t:Tmp}{b:Nat}(k:Cr hs o=some true:=by rfl)(e:o.op = .load T (.tmp t):=by rfl)(l:∀ c w,Ln ops hs a0 o c w (.tmp t)->c (.tmp t) = .pointer (some ⟨b,off,none⟩):=by exact fun _ _=>id)(f:Agg P T 2:=by exact⟨by kernel_rfl,by kernel_rfl⟩)(h0:W.cell? ⟨b,off,none⟩=some u:=by assumption)(h1:W.cell? ⟨b,off+1,none⟩=some v:=by assumption):obl P (fun m=>Ext W m) ops hs a0 i o (he (.agg #[u,v])) :=
 BN k fun c w hp d h=>by
  rw[e]at h
  have g:(Instr.loadAt T (.pointer (some ⟨b,off,none⟩))).run P w = .ok (.agg [u,v].toArray) w:=RD (cs:=[u,v]) f (fun j x a=>by
   match j,a with
   | 0,a=>cases a;exact d.cell h0
   | 1,a=>cases a;exact d.cell h1
   | j+2,a=>simp at a)
  simp only[execOp,e,l c w h.1,ij,g,gS,iF]
theorem ol4{t:Tmp}{b:Nat}{x y:Value}(k:Cr hs o=some true:=by rfl)(e:o.op = .load T (.tmp t):=by rfl)(l:∀ d w,Ln ops hs a0 o d w (.tmp t)->d (.tmp t) = .pointer (some ⟨b,off,none⟩):=by exact fun _ _=>id)(f:Agg P T 4:=by exact⟨by kernel_rfl,by kernel_rfl⟩)(h0:W.cell? ⟨b,off,none⟩=some u:=by assumption)(h1:W.cell? ⟨b,off+1,none⟩=some v:=by assumption)(h2:W.cell? ⟨b,off+2,none⟩=some x:=by assumption)(h3:W.cell? ⟨b,off+3,none⟩=some y:=by assumption):obl P (fun m=>Ext W m) ops hs a0 i o (he (.agg #[u,v,x,y])) :=
 BN k fun d w hp c h=>by
  rw[e]at h
  have g:(Instr.loadAt T (.pointer (some ⟨b,off,none⟩))).run P w = .ok (.agg [u,v,x,y].toArray) w:=RD (cs:=[u,v,x,y]) f (fun j z a=>by
   match j,a with
   | 0,a=>cases a;exact c.cell h0
   | 1,a=>cases a;exact c.cell h1
   | 2,a=>cases a;exact c.cell h2
   | 3,a=>cases a;exact c.cell h3
   | j+4,a=>simp at a)
  simp only[execOp,e,l d w h.1,ij,g,gS,iF]
theorem ofa{t:Tmp}{b:Nat}(g:Cr hs o=some true:=by rfl)(c:o.op = .fieldAddr T (.tmp t) k:=by rfl)(j:∀ a w,Ln ops hs a0 o a w (.tmp t)->a (.tmp t) = .pointer (some ⟨b,off,none⟩):=by exact fun _ _=>id)(e:Xz P T k=some d:=by kernel_rfl)(f:q=⟨b,off+d,none⟩:=by rfl){C:World->Prop}:obl P C ops hs a0 i o (he (.pointer (some q))) :=
 BN g fun a w hp l h=>by
  rw[c]at h;simp only[execOp,c,j a w h.1,ij,XA e,gS,iF,f]
theorem onc{t:Tmp}(c:Cr hs o=some true:=by rfl)(b:o.op = .nilCheck (.tmp t):=by rfl)(d:∀ a w,Ln ops hs a0 o a w (.tmp t)->a (.tmp t) = .pointer (some p):=by exact fun _ _=>id){C:World->Prop}:obl P C ops hs a0 i o (he (.pointer (some p))) :=
 BN c fun a w hp e h=>by
  rw[b]at h;simp only[execOp,b,d a w h.1,iF]
theorem omv{t:Tmp}{c:Value}(d:Cr hs o=some true:=by rfl)(b:o.op = .move (.tmp t):=by rfl)(e:∀ a w,Ln ops hs a0 o a w (.tmp t)->a (.tmp t)=c:=by exact fun _ _=>id){C:World->Prop}:obl P C ops hs a0 i o (he c) :=
 Iw d (.inl b) fun a w _ h=>e a w h.1
end
def P2(b:Nat):Nat:=2^b
theorem KW(b:Nat):0<P2 b:=iC b
theorem Bw(a b:Nat):P2 (a+b)=P2 a*P2 b:=jQ 2 a b
theorem Hq{a b:Nat}(h:a<=b):P2 a<=P2 b:=ic (by omega) h
theorem O6(k:Nat):P2 (64*k)=18446744073709551616^k:=by unfold P2;rw[mo]
theorem BJ{a b:Nat}(c:x<P2 a)(d:y<P2 b):x*y<P2 (a+b):=by
 rw[Bw];exact Nat.mul_lt_mul'' c d
theorem KX{a:Nat}(b:x<P2 a)(c:y<P2 a):x+y<P2 (a+1):=by
 rw[Bw];show x+y<P2 a*2;omega
theorem Af{a b:Nat}(c:x<P2 a)(h:a<=b):x<P2 b:=ib c (Hq h)
theorem Ai:Agg prog 83 2:=⟨by kernel_rfl,by kernel_rfl⟩
theorem qh{p:Prop}(h:p):Hid p:=gE h
def Ac(neg:Bool)(a:Option Addr)(n c:Nat):List Value:=[.bool neg,.slice a n c]
theorem Ae(neg:Bool)(a:Option Addr)(n c:Nat):∀ v∈Ac neg a n c,v.oneCell'=true:=by
 intro v b;simp only[Ac,iE,kC,mU]at b;rcases b with rfl|rfl <;> rfl
def Wd(w:World)(a:Option Addr)(n c:Nat)(x:Nat):Prop:=∃ xs,SlN .u64 w a n c xs/\Num 18446744073709551616 xs x
theorem Wd.ext{w b:World}{a:Option Addr}{n c x:Nat}(h:Wd w a n c x)(e:Ext w b):Wd b a n c x:=by
 obtain⟨d,h1,h2⟩:=h;exact⟨d,h1.ext e,h2⟩
theorem Wd.len{w:World}{a:Option Addr}{n c x:Nat}(h:Wd w a n c x){k:Nat}(b:x<P2 (64*k)):n<=k:=by
 obtain⟨d,h1,h2⟩:=h;rw[O6]at b;have:=DL h2 b;rw[h1.len]at this;exact this
theorem Wd.nil(w:World):Wd w none 0 0 0:=⟨[],SlN.nil _ _,Num.nil _⟩
theorem Wd.zero(h:Wd w a n c x):n=0<->x=0:=by
 obtain⟨b,h1,h2⟩:=h;constructor
 · intro h0;exact EO h2 (by rw[h1.len];exact h0)
 · intro h0;have h3:=(W.nrm_zero (B:=18446744073709551616) (by omega) h2.nrm).1 (by rw[h2.val,h0]);rw[<-h1.len,h3];rfl
theorem Wd.one(h:Wd w a 1 c x):∃ b o,a=some ⟨b,o,none⟩/\w.cell? ⟨b,o,none⟩=some (.int .u64 (x:Int))/\x<18446744073709551616/\0<x:=by
 obtain⟨i,h1,h2⟩:=h;obtain⟨e,f,g⟩:=Nr h2 h1.len;obtain⟨b,o,rfl,d⟩:=h1.at (j:=0) (by omega);have:=d 0 (by omega);rw[e,iO]at this;exact⟨b,o,rfl,this,f,g⟩
theorem Wd.big(h:Wd w a n c x)(e:2<=n):18446744073709551616<=x:=by
 obtain⟨d,h1,h2⟩:=h;have b:d≠[]:=by intro h;have:=h1.len;rw[h]at this;simp at this;omega
 have:=W.nrm_pos (B:=18446744073709551616) (by omega) h2.nrm b;rw[h1.len,h2.val]at this;have h3:18446744073709551616^1<=18446744073709551616^(n-1):=ic (by omega) (by omega);omega
def Lu(w:World)(x:Nat)(e:Ending)(w':World):Prop:=∃ a n c,e = .returned (.slice a n c)/\Ext w w'/\Wd w' a n c x
theorem Hy.wd{e:Ending}(h:Hy .u64 18446744073709551616 w x e w'):Lu w x e w':=by
 obtain⟨a,n,c,b,h1,h2,h3,h4⟩:=h;exact⟨a,n,c,h1,h2,b,h3,h4⟩
theorem WE(j:AM w)(f:Wd w a n c x)(g:Wd w b m d y)(i:x<P2 9600)(e:y<P2 9600) :
 Calls prog 204 #[.slice a n c,.slice b m d] w (Lu w (Nat.gcd x y)):=by
 have h1:=f.len (k:=150) i;have h2:=g.len (k:=150) e;obtain⟨l,h3,h4⟩:=f;obtain⟨o,h5,h6⟩:=g;exact(Ns j h3 h5 h4 h6 h1 h2).mono fun _ _ h=>h.wd
theorem Uz(f:Wd w a n c x)(g:Wd w b m d y)(i:x<P2 9600)(e:y<P2 9600)(j:x<P2 2496\/y<P2 2496) :
 Calls prog 222 #[.slice a n c,.slice b m d] w (Lu w (x*y)):=by
 have h1:=f.len (k:=150) i;have h2:=g.len (k:=150) e;have h0:n<40\/m<40:=by
  rcases j with h|h
  · left;have:=f.len (k:=39) h;omega
  · right;have:=g.len (k:=39) h;omega
 obtain⟨l,h3,h4⟩:=f;obtain⟨o,h5,h6⟩:=g;exact(Hh h3 h5 h4 h6 (by omega) (by omega) h0).mono fun _ _ h=>h.wd
def AF(w:World)(v:Value)(z:Int):Prop:=∃ s a n c,v = .agg (Ac s a n c).toArray/\Hid (decide (z<0)=s)/\Wd w a n c z.natAbs
theorem AF.ext{w b:World}{v:Value}{z:Int}(h:AF w v z)(e:Ext w b):AF b v z:=by
 obtain⟨s,a,n,c,h1,d,h2⟩:=h;exact⟨s,a,n,c,h1,d,h2.ext e⟩
def EP(w:World)(z:Int)(e:Ending)(w':World):Prop:=∃ s a n c,e = .returned (.agg (Ac s a n c).toArray)/\Ext w w'/\Hid (decide (z<0)=s)/\Wd w' a n c z.natAbs
theorem EP.r{e:Ending}(h:EP w z e w'):∃ v,e = .returned v/\Ext w w'/\AF w' v z:=by
 obtain⟨s,a,n,c,h1,h2,h3,h4⟩:=h;exact⟨_,h1,h2,s,a,n,c,rfl,h3,h4⟩
theorem Wd.kept{w f:World}{a:Option Addr}{n c x R:Nat}{t:TypeId}{cs:List Value}(h:Wd w a n c x)(e:Arr w R t cs)(d:∀ v∈cs,∀ i,v ≠ .int .u64 i)(k:w.grownBy f (some R)):Wd f a n c x:=by
 obtain⟨l,h1,h2⟩:=h;refine⟨l,?_,h2⟩;rcases gX n with h0|h0
 · subst h0;exact⟨Sl.len h1,Sl.cap h1,Sl.max h1,fun h=>absurd h (nN _)⟩
 · refine h1.kept k (Or.inr fun he => ?_);obtain⟨b,o,rfl,g⟩:=h1.at (j:=0) h0;simp only[blk,jJ,gK]at he;subst he;have h3:=g 0 h0;have h4:w.cell? ⟨b,o+0,none⟩=cs[o+0]?:=by
    unfold Arr at e;simp[World.cell?,e]
   rw[h4]at h3;exact d _ (im h3) _ rfl
theorem Ax(s:Bool)(a:Option Addr)(n c:Nat):∀ v∈Ac s a n c,∀ i,v ≠ .int .u64 i:=by
 intro v b i;simp only[Ac,iE,kC,mU]at b;rcases b with rfl|rfl <;> simp
theorem XB{S:Nat->Prop}(o:Wd w a n c x)(p:Wd w b m d y)(B:x<P2 9600)(r:y<P2 9600)(E:x<P2 2496\/y<P2 2496)(h1:0<n->∀ g,blk a=some g->S g)(h2:0<m->∀ g,blk b=some g->S g) :
 Calls prog 222 #[.slice a n c,.slice b m d] w fun e q=>∃ f i j,e = .returned (.slice f i j)/\Ext w q/\Wd q f i j (x*y)/\Hg w.heap.size S f i:=by
 have J:=o.len (k:=150) B;have K:=p.len (k:=150) r;have G:=o.zero;have H:=p.zero;have h0:n<40\/m<40:=by
  rcases E with h|h
  · left;have:=o.len (k:=39) h;omega
  · right;have:=p.len (k:=39) h;omega
 obtain⟨L,h3,h4⟩:=o;obtain⟨M,h5,h6⟩:=p;refine(Ec h3 h5 h4 h6 (by omega) (by omega) h0).mono ?_;rintro e q ⟨f,i,j,A,rfl,C,v,z,l⟩;refine⟨f,i,j,rfl,C,⟨A,v,z⟩,fun I g D => ?_⟩;have F:Wd q f i j (x*y):=⟨A,v,z⟩;have hp:¬ x*y=0:=fun h=>by have:=F.zero.2 h;omega
 have s:0<n:=by
  rcases gX n with h|h
  · exact absurd (by rw[G.1 h,jg]) hp
  · exact h
 have t:0<m:=by
  rcases gX m with h|h
  · exact absurd (by rw[H.1 h,kY]) hp
  · exact h
 rcases l g D with h|h|h
 · exact Or.inl h
 · exact Or.inr (h1 s g h)
 · exact Or.inr (h2 t g h)
def Ys(w:World)(a:Option Addr)(n c:Nat)(z:Int)(e:Ending)(w':World):Prop:=∃ s,e = .returned (.agg (Ac s a n c).toArray)/\Ext w w'/\Hid (decide (z<0)=s)/\Wd w' a n c z.natAbs
theorem FV(k:Wd w a n c x){z:Int}(i:z=if neg=true then -(x:Int)else x) :
 Calls prog 203 #[.bool neg,.slice a n c] w (Ys w a n c z):=by
 have g:=k.zero;have m:Hid (z.natAbs=x):=by show _=_;rw[i];split <;> omega
 cases neg with
 | true =>
  have j:Hid (decide (z<0)=decide (0<n)):=by show _=_;rw[i,gY rfl];apply kj.2;omega
  clear g i
  go_enter func203,ntmps203
  go_upto_region 1 with(fail)
  refine AP ?_;intro o b e l
  go_wp2_with(refine Aa (vs:=Ac _ a n c) rfl rfl rfl rfl rfl Ai e rfl (Ae _ _ _ _) ?_;intro p f d)
  refine gF (v := .agg (Ac (decide (0<n)) a n c).toArray) (Ap rfl Ai rfl f) rfl ⟨_,rfl,b.grownR d (lrf _),j,by rw[m.out];exact k.ext (b.grownR d (lrf _))⟩
 | false =>
  have j:Hid (decide (z<0)=false):=by show _=_;rw[i,gT (by simp)];simp
  clear g i
  go_enter func203,ntmps203
  go_upto_region 1 with(fail)
  refine AP ?_;intro o b e l
  go_wp2_with(refine Aa (vs:=Ac _ a n c) rfl rfl rfl rfl rfl Ai e rfl (Ae _ _ _ _) ?_;intro p f d)
  refine gF (v := .agg (Ac false a n c).toArray) (Ap rfl Ai rfl f) rfl ⟨_,rfl,b.grownR d (lrf _),j,by rw[m.out];exact k.ext (b.grownR d (lrf _))⟩
theorem BR(b:Wd w a n c x){z:Int}(d:z=if neg=true then -(x:Int)else x) :
 Calls prog 203 #[.bool neg,.slice a n c] w (EP w z) :=
 (FV b d).mono fun _ _ ⟨s,h1,h2,h3,h4⟩=>⟨s,a,n,c,h1,h2,h3,h4⟩
end Go.Proofs.YtlbmnokpiilfpaaGreatDoor
