/- Part Gs6. -/
import Derived.Test.YthdbingomfdeoaaGreatDoorGs5
import Derived.Deep.LoopGhost
import Derived.WalkKit
set_option linter.all false
set_option maxRecDepth 100000
set_option maxHeartbeats 100000000
namespace Go.Proofs.YthdbingomfdeoaaGreatDoor
open Tryz Go Go.RowKit
def gF:=@Int.natAbs_natCast
def iO:=@List.append_nil
def ia:=@Int.natAbs_mul
def iy:=@Nat.le_of_lt
def j3:=@List.pairwise_cons
def jJ:=@decide_eq_decide
def ju:=@Nat.pow_mul
def kA:=@List.replicate_succ'
def kW:=@List.getElem?_toArray
def kd:=@Int.natAbs_neg
def lG:=@Nat.mul_div_assoc
def lX:=@List.replicate_zero
def mE:=@Int.sign_eq_one_of_pos
def ma:=@Nat.lt_trans
def mc:=@List.eq_nil_iff_forall_not_mem
def md:=@Int.tdiv_one
def mr:=@Bool.eq_iff_iff
def ms:=@Int.sign_eq_neg_one_of_neg
variable {p q:Addr} {neg s:Bool} {y z:Int} {xs ys:List Nat} {l:List Oper} {cs:List Value} {N R X base c cx d g i j k m n nx off x:Nat} {a ax b:Option Addr} {T e t:TypeId} {u v v':Value} {w w' w0 w1 w2 w9:World}
structure QI(w wr:World)(N G:Nat)(aa:Option Addr)(na ca:Nat)(ab:Option Addr)(nb cb X Y:Nat)(xs ys:List Nat):Prop where
 ext:Ext w wr
 own1:Own wr w.heap.size 101 aa na ca (xs.map (B7 .u64))
 own2:Own wr w.heap.size 101 ab nb cb (ys.map (B7 .u64))
 ne:0<nb->blk aa≠blk ab
 n1:Num 18446744073709551616 xs X
 n2:Num 18446744073709551616 ys Y
 le:Y<=X
 pos:0<X
 gcd:Nat.gcd X Y=G
 bnd:X<18446744073709551616^N
theorem H7(h:Num 18446744073709551616 xs X)(a:X<18446744073709551616^N):xs.length<=N :=
 W.nrm_len (B:=18446744073709551616) (by omega) h.nrm (by rw[h.val];exact a)
theorem Vy(h:Num 18446744073709551616 xs X)(hp:0<X):0<xs.length:=by
 rcases fF xs.length with h0|h0
 · have:xs=[]:=fk h0;have a:=h.val;rw[this]at a;simp only[W.val]at a;omega
 · exact h0
theorem KN(h:Num 18446744073709551616 xs X)(hp:xs.length=0):X=0:=by
 have:xs=[]:=fk hp;have a:=h.val;rw[this]at a;exact a.symm
theorem QJ(h:Num 18446744073709551616 xs X)(hp:xs.length=1):xs.getD 0 0=X/\X<18446744073709551616/\0<X:=by
 match xs,hp with
 | [u],_ =>
  have a:=h.val;have b:=h.bnd u (by simp);have c:=h.nrm (by simp);simp[W.val]at a c;subst a;exact⟨rfl,b,by omega⟩
def Wa(w:World)(G0:Nat)(cv:Int)(v0 v1:Value):Prop:=∃ a n c b m d xs ys x y,v0 = .slice a n c/\v1 = .slice b m d/\SlN .u64 w a n c xs/\SlN .u64 w b m d ys/\Num 18446744073709551616 xs x/\Num 18446744073709551616 ys y/\n<=150/\m<=150/\Nat.gcd x y=G0/\(cv<0<->x<y)
theorem M4{y:Nat}(hT:Bk w)(Q:SlN .u64 w a n c xs)(hy:SlN .u64 w b m d ys)(N:Num 18446744073709551616 xs x)(ny:Num 18446744073709551616 ys y)(hn:n<=150)(hm:m<=150) :
 Calls prog 136 #[.slice a n c,.slice b m d] w (Ou .u64 18446744073709551616 w (Nat.gcd x y)):=by
 have ah:=f8 (BN Q hy N ny);obtain⟨F,l⟩:∃ F,Nat.gcd x y=F:=⟨_,rfl⟩;rw[l];have a5:=f8 (H0 (x:=x) (y:=y));obtain⟨cv,aK⟩:∃ cv,Bu (x:Int) (y:Int)=cv:=⟨_,rfl⟩;rw[aK]at ah a5;have HI:Hid (Wa w F cv (.slice a n c) (.slice b m d)):=f8 ⟨a,n,c,b,m,d,xs,ys,x,y,rfl,rfl,Q,hy,N,ny,hn,hm,l,by have:=a5.out;omega⟩;clear aK l Q hy N ny hn hm a5
 go_enter func136,ntmps136
 go_wp2_with fail
 refine ah.out.mono ?_;rintro e w0 ⟨rfl,aF⟩;have t:=aF.ext;clear ah aF
 go_upto_if 13 with(fail)
 go_cut [0,1] from 14 to 71 (fun v0 v1 o=>Wa w F 0 v0 v1/\o=w0)
 case first =>
  obtain⟨a,n,c,b,m,d,xs,ys,x,y,h1,h2,Q,hy,N,ny,hn,hm,l,D⟩:=HI.out;simp only[fd]at h1 h2;obtain⟨rfl,rfl,rfl⟩:=h1;obtain⟨rfl,rfl,rfl⟩:=h2;have aA:=f8 D;have az:=f8 l;clear D l HI;by_cases hc:cv<0
  · go_wp2_with fail
    go_meet
    exact⟨⟨_,_,_,_,_,_,ys,xs,y,x,rfl,rfl,hy,Q,ny,N,hm,hn,by rw[jB];exact az.out,by have:=aA.out.1 hc;omega⟩,rfl⟩
  · go_wp2_with fail
    go_meet
    exact⟨⟨_,_,_,_,_,_,xs,ys,x,y,rfl,rfl,Q,hy,N,ny,hn,hm,az.out,by have:=mt aA.out.2 (by omega);omega⟩,rfl⟩
 case rest =>
  obtain⟨⟨a,n,c,b,m,d,xs,ys,x,y,rfl,rfl,Q,hy,N,ny,hn,hm,l,D⟩,bw⟩:=hcut;subst bw;have ay:=f8 l;have HX:=f8 Q.len;have HY:=f8 hy.len;have NX:=f8 N;have NY:=f8 ny;have aI:x<18446744073709551616^n:=by have:=W.val_lt N.bnd;rw[N.val,Q.len]at this;exact this
  have HB:=f8 aI;have ap:y<=x:=by have:=D;omega
  have am:=Q.ext t;have aS:=hy.ext t;clear aI N ny D l HI;by_cases E:m=0
  · have aw:y=0:=KN NY.out (by rw[HY.out];exact E);have f:Hid (F=x):=by show _=_;rw[<-ay.out,aw];exact kM _
    have bi:((m:Int) == 0)=true:=by simp[E]
    clear aw E;go_wp2;go_ret;exact⟨a,n,c,xs,rfl,t,am,by rw[f.out];exact NX.out⟩
  have bi:((m:Int) == 0)=false:=by simpa using E
  have bF:0<y:=by
   rcases fF y with h|h
   · exfalso;have h1:W.val 18446744073709551616 ys=0:=by rw[NY.out.val,h]
     have h2:=(W.nrm_zero (B:=18446744073709551616) (by omega) NY.out.nrm).1 h1;have h3:=HY.out;rw[h2]at h3;exact E h3.symm
   · exact h
  clear E
  go_wp2_with fail
  refine(ES am (by omega)).mono ?_;rintro e w1 ⟨a1,c1,rfl,Z,ac⟩
  go_wp2_with fail
  refine(ES (aS.ext Z) (by omega)).mono ?_;rintro e w2 ⟨a2,c2,rfl,a8,ad⟩;have L:QI w w2 n (F) a1 n c1 a2 m c2 x y xs ys:=by
   refine⟨(t.trans Z).trans a8,(ac.mono t.size).ext a8,ad.mono (t.trans Z).size,fun h0 he => ?_,NX.out,NY.out,ap,by omega,ay.out,HB.out⟩;obtain⟨g2,rfl,bS,_⟩:=ad.place h0;have:=(ac.lt (k:=g2) (by rw[he];rfl)).2;omega
  have f:=f8 L;clear L ac ad Z a8 am aS t;go_wp2
  go_loopg [5,6] (x+y) (fun gk av bv wr=>∃ (aa G:Option Addr) (s O i U X Y:Nat) (us R:List Nat),av = .slice aa s O/\bv = .slice G i U/\s<=150/\i<=s/\X+Y<=gk/\Hid (QI w wr n (F) aa s O G i U X Y us R))
  case atStart =>
   refine⟨a1,a2,n,c1,m,c2,x,y,xs,ys,rfl,rfl,by omega,?_,lrf _,f⟩;have h1:=H7 NY.out (fI ap HB.out);rw[HY.out]at h1;exact h1
  case round =>
   clear f;obtain⟨aa,G,s,O,i,U,X,Y,us,R,rfl,rfl,bX,bk,bV,f⟩:=hrel;have HU:Hid (us.length=s):=f8 (by have:=f.out.own1.len;simpa using this);have HV:Hid (R.length=i):=f8 (by have:=f.out.own2.len;simpa using this);have be:=f.out.pos;have a0:=f.out.le;have aq:0<s:=by have:=Vy f.out.n1 be;rw[HU.out]at this;exact this
   have K:SlN .u64 wr aa s O us:=f.out.own1.sl;have a3:SlN .u64 wr G i U R:=f.out.own2.sl;obtain⟨P,rfl,bI,aU⟩:=f.out.own1.place aq;by_cases h1:i<=1
   · by_cases h0:i=0
     · have aG:Y=0:=KN f.out.n2 (by rw[HV.out];exact h0);have HF:Hid (Num 18446744073709551616 us (F)):=by
        have h2:=f.out.gcd;rw[aG,kM]at h2;have h3:=f.out.n1;rw[h2]at h3;exact f8 h3
       have V:=f.out.ext;subst h0;clear aG h1;go_wp2;go_ret;exact⟨_,s,O,us,rfl,V,K,HF.out⟩
     · have h11:i=1:=by omega
       subst h11;obtain⟨k1,k2,k3⟩:=QJ f.out.n2 HV.out;obtain⟨b2,o2,rfl,I⟩:=a3.at (j:=0) (by omega);have g1:=I 0 (by omega);rw[k1,gE]at g1;have HF:Hid (Nat.gcd Y (X%Y)=F):=by
        show _=_;rw[<-f.out.gcd,jB X Y,mo Y X,jB]
       have V:=f.out.ext;have bd:=hT.ext V;have bh:Nat.gcd Y (X%Y)<18446744073709551616:=by have:=kL k3 (jK Y (X%Y));omega
       have bo:=fun(o:World) (h:Ext wr o)=>Hz (d:=Y) (K.ext h) f.out.n1.bnd f.out.n1.val k2 k3 (by omega);clear I h1 h0 k1;have aX:X%Y<18446744073709551616:=by have:=gx X k3;omega
       go_wp2
       refine Ad
        [hdS (some ⟨b2,o2,none⟩) 1 U,hdP b2 o2,he (.int .u64 (Y:Int)),hdS (some ⟨P,0,none⟩) s O,hdS (some ⟨b2,o2,none⟩) 1 U,hdP b2 o2,he (.int .u64 (Y:Int)),hp (fun v o=>v = .int .u64 ((X%Y:Nat):Int)),hp (fun v o=>v = .int .u64 ((Nat.gcd Y (X%Y):Nat):Int)),hp (fun v o=>∃ a' n' c' zs,v = .slice a' n' c'/\SlN .u64 o a' n' c' zs/\Num 18446744073709551616 zs (Nat.gcd Y (X%Y)))]
        ⟨fun v w w' e h=>h,fun v w w' e h=>h,fun v w w' e ⟨a',n',c',zs,h1,h2,h3⟩=>⟨a',n',c',zs,h1,h2.ext e,h3⟩,trivial⟩ ⟨?o0,?o1,?o2,?o3,?o4,?o5,?o6,?o7,?o8,?o9,trivial⟩ ?fin
       case o0 | o3 | o4=>exact Ii rfl (.inl rfl) (fun _ _ _ h=>h.1)
       case o1 | o2 | o5 | o6 =>
        refine BB rfl fun ρ o hC J h => ?_
        try have e0:_=_:=h.1
        try have e1:_=_:=h.2.1
        try have e2:_=_:=h.2.2.1
        have bU:=hC.cell g1;go_simp
        try (first | (intros;omega) | exact fO _ (by omega))
       case o7 =>
        refine Ai rfl fun ρ o hC J aM h => ?_;have e1:_=_:=h.2.1;have e2:_=_:=h.2.2.1;refine⟨179,#[.slice (some ⟨P,0,none⟩) s O,.int .u64 (Y:Int)],by go_simp,(bo o hC).mono ?_⟩;rintro e w' ⟨rfl,ba⟩;exact⟨_,rfl,ba.ext,rfl⟩
       case o8 =>
        refine Ai rfl fun ρ o hC J aM h => ?_;have e1:_=_:=h.2.1;obtain⟨v2,e2,rfl⟩:=h.2.2.1;refine⟨178,#[.int .u64 (Y:Int),.int .u64 ((X%Y:Nat):Int)],by go_simp,(OH (bd.ext hC) k2 aX).mono ?_⟩;rintro e w' ⟨rfl,rfl⟩;exact⟨_,rfl,Ext.refl _,rfl⟩
       case o9 =>
        refine Ai rfl fun ρ o hC J aM h => ?_;obtain⟨v1,e1,rfl⟩:=h.2.1;refine⟨177,#[.int .u64 ((Nat.gcd Y (X%Y):Nat):Int)],by go_simp,(Hw bh).mono ?_⟩;rintro e w' ⟨a',n',c',zs,rfl,b5,bp,bj⟩;exact⟨_,rfl,b5,a',n',c',zs,rfl,bp,bj⟩
       case fin =>
        intro o hC;rintro _ rfl;rintro _ rfl;rintro _ ⟨b1,bA,b3,bE,rfl,bC,bD⟩;change wpList _ _ _ _ _ _;simp only[CB];go_wp2;go_ret;exact⟨b1,bA,b3,bE,rfl,V.trans hC,bC,by rw[<-HF.out];exact bD⟩
   · have bf:(1:Int)<i:=by omega
     obtain⟨gb,rfl,bL,aV⟩:=f.out.own2.place (by omega);have bY:P≠gb:=by have:=f.out.ne (by omega);simpa[blk]using this
     have V:=f.out.ext
     go_wp2_with fail
     refine(M3 K a3 f.out.n1 f.out.n2 (by omega) a0 (nn:=s-2) (by omega)).mono ?_;rintro e w3 ⟨u0,u1,v0,v1,aT,rfl,H,bq,br,bs,bu,L⟩;have aB:=f8 L;clear L
     go_upto_region 8 with(refine Aa rfl rfl rfl rfl rfl Db (Arr.new _ _ _) rfl (GD _ _ _ _ _) ?_;intro w4 ae aN)
     have aC:Ext w3 w4:=((Ext.refl w3).alloc _).grownR aN (lrf _);have g:=H.trans aC;have o1:=f.out.own1.ext g;have o2:=f.out.own2.ext g;have s2:=ae.c 2 rfl;by_cases M:v0=0
     · subst M;have C:0<Y:=by
        rcases fF Y with h|h
        · exfalso;have h2:=(W.nrm_zero (B:=18446744073709551616) (by omega) f.out.n2.nrm).1 (by rw[f.out.n2.val,h]);have h3:=HV.out;rw[h2]at h3;simp at h3;omega
        · exact h
       have aL:=E7 (K.ext g) (a3.ext g) f.out.n1 f.out.n2 (by omega) (by omega) C (by omega)
       go_wp2_with fail
       refine aL.mono ?_;rintro e w5 ⟨p1,p2,p3,p4,ar,nr,cr,rs,rfl,A,_,_,aj,an,_⟩;have bZ:nr<=150:=by
        have h1:=H7 an (ma (gx X C) (fI a0 f.out.bnd));rw[aj.len]at h1;omega
       have bn:nr<=i:=by
        have h1:=W.val_lt f.out.n2.bnd;rw[f.out.n2.val,HV.out]at h1;have h2:=H7 an (ma (gx X C) h1);rw[aj.len]at h2;exact h2
       clear aL
       go_wp2_with fail
       refine(ES aj (by omega)).mono ?_;rintro e w6 ⟨a6,c6,rfl,b6,aD⟩;have ao:=(g.trans A).trans b6;have a4:Hid (QI w w6 n (F) (some ⟨gb,0,none⟩) i U a6 nr c6 Y (X%Y) R rs):=by
        refine f8 ⟨V.trans ao,f.out.own2.ext ao,aD.mono ((V.trans g).trans A).size,fun h0 he => ?_,f.out.n2,an,iy (gx X C),C,?_,fI a0 f.out.bnd⟩
        · obtain⟨g6,rfl,bT,_⟩:=aD.place h0;simp only[blk,ic,fc]at he;have:=g.size;have:=A.size;omega
        · rw[<-f.out.gcd,jB X Y,mo Y X,jB]
       have bW:Y+X%Y<X+Y:=by have:=gx X C;omega
       go_wp2
       go_roundg (Y+X%Y)
       case rel=>exact⟨_,a6,i,U,nr,c6,Y,X%Y,R,rs,rfl,rfl,by omega,bn,lrf _,a4⟩
       case measure=>omega
     · have bP:((v0:Int) == 0)=false:=by simpa using M
       have b0:∃ p q,W.Steps X Y u0 u1 v0 v1 aT p q:=by
        rcases aB.out with h|h
        · exact absurd h M
        · exact h
       obtain⟨p,q,aQ⟩:=b0;have T:=f8 aQ;clear aQ aB;have bM:gb<w3.heap.size:=fN aV H.size;have bK:P<w3.heap.size:=fN aU H.size;have bR:w.heap.size<=w3.heap.size:=(V.trans H).size;have A:=V.trans g;clear K a3 bf aC aN g H;generalize w3.heap.size=S at *
       go_wp2;clear s2;obtain⟨wo,bx⟩:∃ wo:World,wo=wr:=⟨_,rfl⟩;subst bx
       go_loopw[6] (fun bv o=>∃ (G:Option Addr) (z cc:Nat),bv = .slice G z cc/\i<=z/\z<=s/\Ext w o/\Own o w.heap.size 101 (some ⟨P,0,none⟩) s O (us.map (B7 .u64))/\Own o w.heap.size 101 G z cc ((R ++ List.replicate (z-i) 0).map (B7 .u64))/\blk G≠some P/\Arr o S 236 (Dc u0 u1 v0 v1 aT)/\blk G≠some S) (fun bv _=>match bv with | .slice _ k _=>s-k | _=>0)
       case atStart=>exact⟨_,i,U,rfl,lrf _,bk,A,o1,by rw[jo,lX,iO];exact o2,by simp[blk];omega,ae,by simp[blk];omega⟩
       case round =>
        clear o1 o2 ae A;obtain⟨G,z,cc,rfl,bN,bO,a9,o1,o2,ag,r,aJ⟩:=hrel;by_cases D:z<s
        · have hA:=o2.alloc (.cells #[.int .u64 0] 101);have hL:=(Au wr w.heap.size 101 #[.int .u64 0] 1 rfl a9.size (by omega)).sl;have bg:∀ k,blk G=some k->w.heap.size<=k:=fun k hk=>(o2.lt hk).1;have bJ:=(o1.lt (k:=P) rfl).2;have bQ:=r.lt
          go_wp2_with(refine BS rfl rfl underlying98 AP rfl rfl hA rfl hL (by simp[Value.oneCell']) (by unfold maxLen;omega) (by omega) (by simp;omega) ?_;intro a7 c7 w7 aE ai af)
          have b7:Ext w w7:=(a9.alloc _).grown ai bg;have bB:=(o1.alloc (.cells #[.int .u64 0] 101)).kept ai (Or.inr (fun h=>ag h.symm));have bc:=(r.alloc (.cells #[.int .u64 0] 101)).kept ai (fun h=>aJ h.symm);have aY:blk a7≠some P:=by
           rcases af with h|h
           · rw[h];exact ag
           · rw[h];simp;omega
          have aZ:blk a7≠some S:=by
           rcases af with h|h
           · rw[h];exact aJ
           · rw[h];simp;omega
          have b9:Own w7 w.heap.size 101 a7 (z+1) c7 ((R ++ List.replicate (z+1-i) 0).map (B7 .u64)):=by
           have e1:z+1-i=z-i+1:=by omega
           rw[e1,kA,<-ge,fY];exact aE
          clear aE hA hL af;go_roundw
          case rel=>exact⟨a7,z+1,c7,rfl,by omega,by omega,b7,bB,b9,aY,bc,aZ⟩
          case measure=>simp;omega
        · have b4:z=s:=by omega
          subst b4;obtain⟨g2,rfl,bG,bH⟩:=o2.place aq;have au:P≠g2:=by intro h;subst h;exact ag rfl
          have vb:W.val 18446744073709551616 (R ++ List.replicate (z-i) 0)=Y:=by rw[JM,f.out.n2.val]
          have bb:W.bnd 18446744073709551616 (R ++ List.replicate (z-i) 0):=MW (by omega) f.out.n2.bnd _;have aH:=Sb a9 o1 o2 au f.out.n1.bnd bb f.out.n1.val vb bq br bs bu T.out (by omega);have ax:=f8 aH;clear aH vb bb;have s0:=r.c 0 rfl;have s1:=r.c 1 rfl;have s2:=r.c 2 rfl;have s3:=r.c 3 rfl;have s4:=r.c 4 rfl
          go_wp2_with fail
          refine ax.out.mono ?_;rintro e w8 ⟨rfl,b8,zs,ts,oz,ot,bz,bt,vz,vt⟩;clear s0 s1 s2 s3 s4 r ax
          go_wp2_with fail
          refine(BM oz.sl).mono ?_;rintro e w9 ⟨m1,rfl,rfl,aO,ak⟩
          go_wp2_with fail
          refine(BM ot.sl).mono ?_;rintro e w9 ⟨m2,rfl,rfl,aP,al⟩;obtain⟨t1,t2⟩:=B8 oz.sl aO ak bz vz;obtain⟨t3,t4⟩:=B8 ot.sl aP al bt vt;have o3:=oz.upto aO;have o4:=ot.upto aP;rw[<-ak]at o3;rw[<-al]at o4;have aR:=T.out.lt;have bl:=T.out.le;have bm:p<18446744073709551616^n:=fI (ft bl a0) f.out.bnd;have aW:m2<=m1:=by
           have h1:=W.val_lt t2.bnd;rw[t2.val,t1.len]at h1;have h2:=H7 t4 (ma aR h1);rw[t3.len]at h2;exact h2
          have a4:Hid (QI w w8 n (F) (some ⟨P,0,none⟩) m1 O (some ⟨g2,0,none⟩) m2 cc p q (W.trim zs) (W.trim ts)) :=
           f8 ⟨b8,o3,o4,fun _=>by simpa[blk]using au,t2,t4,iy aR,by omega,by rw[T.out.gcd,f.out.gcd],bm⟩
          clear ak al t1 t2 t3 t4 o3 o4 oz ot bz bt vz vt o1 o2;go_wp2
          go_roundg (p+q)
          case rel=>exact⟨_,_,m1,O,m2,cc,p,q,W.trim zs,W.trim ts,rfl,rfl,by omega,aW,lrf _,a4⟩
          case measure=>omega
def QL(P:Program)(T:TypeId):Bool:=match P.underlying T with
 | none | some (.struct _) | some (.array _ _)=>false
 | _=>true
def WR(P:Program)(T:TypeId)(k:Nat):Option Nat:=match P.underlying T with
 | some (.struct fs)=>(fs[k]?).bind fun f=>(match (P.info? f.type).map (·.size)with | some (_+1)=>some f.offset | _=>none)
 | _=>none
section
variable {P:Program} {w:World}
theorem QM(a:QL P T=true)(c:w.cell? p=some v):(Instr.loadAt T (.pointer (some p))).run P w = .ok v w:=by
 unfold QL at a;cases h:P.underlying T with
 | none=>rw[h]at a;cases a
 | some d =>
  rw[h]at a;have b:(isAgg T).run P w = .ok false w:=by
   simp only[isAgg,fC,fT h,fe];cases d <;> first | rfl | cases a
  simp[Instr.loadAt,Instr.sureAddr,loadVar,b,c]
theorem QN{b:Nat}(e:Agg P T cs.length)(f:∀ j v,cs[j]?=some v->w.cell? ⟨b,off+j,none⟩=some v):(Instr.loadAt T (.pointer (some ⟨b,off,none⟩))).run P w = .ok (.agg cs.toArray) w:=by
 obtain⟨d,hu,g,a⟩:=e.parts;have h1:(isAgg T).run P w = .ok true w:=by
  simp only[isAgg,fC,fT hu,fe];cases d <;> first | rfl | exact absurd g (by simp)
 obtain⟨i,c,l⟩:∃ i,P.info? T=some i/\i.size=cs.length:=by
  cases h:P.info? T with
  | none=>rw[h]at a;cases a
  | some i=>rw[h]at a;exact⟨i,rfl,by simpa using a⟩
 have h2:=run_loadCells_list (P:=P) w ⟨b,off,none⟩ cs (fun j v k=>by
  have:=f j v k;unfold Addr.add;split
  · rename_i h0;rw[h0,gE]at this;exact this
  · exact this)
 simp[Instr.loadAt,Instr.sureAddr,loadVar,h1,sizeOf,typeInfo,c,l,h2]
theorem WS{b:Nat}(h:WR P T k=some d):(Instr.fieldAt T (.pointer (some ⟨b,off,none⟩)) k).run P w = .ok (.pointer (some ⟨b,off+d,none⟩)) w:=by
 unfold WR at h;split at h
 · rename_i j hu;cases c:j[k]? with
   | none=>rw[c]at h;cases h
   | some f =>
    rw[c]at h;simp only[jt]at h;split at h
    · rename_i n a;cases h;obtain⟨i,g,l⟩:∃ i,P.info? f.type=some i/\i.size=n+1:=by
       cases h:P.info? f.type with
       | none=>rw[h]at a;cases a
       | some i=>rw[h]at a;exact⟨i,rfl,by simpa using a⟩
      have e:(⟨b,off,none⟩:Addr).add f.offset=⟨b,off+f.offset,none⟩:=by
       unfold Addr.add;split
       · rename_i h0;rw[h0,gE]
       · rfl
      simp[Instr.fieldAt,fT hu,c,Instr.sureAddr,fieldPlace,sizeOf,typeInfo,g,l,e]
    · cases h
 · cases h
end
section
variable {P:Program} {ops:Array Oper} {hs:List Hd} {a0:Act} {W:World} {i:Nat} {o:Oper}
theorem ol{t:Tmp}(f:BQ hs o=some true:=by rfl)(b:o.op = .load T (.tmp t):=by rfl)(g:∀ a w,Et ops hs a0 o a w (.tmp t)->a (.tmp t) = .pointer (some p):=by exact fun _ _=>id)(d:QL P T=true:=by kernel_rfl)(e:W.cell? p=some v:=by assumption):obl P (fun j=>Ext W j) ops hs a0 i o (he v) :=
 B4 f fun a w hp c h=>by
  rw[b]at h;simp only[execOp,b,g a w h.1,fC,QM d (c.cell e),fe,fQ]
theorem ol2{t:Tmp}{b:Nat}(k:BQ hs o=some true:=by rfl)(e:o.op = .load T (.tmp t):=by rfl)(l:∀ c w,Et ops hs a0 o c w (.tmp t)->c (.tmp t) = .pointer (some ⟨b,off,none⟩):=by exact fun _ _=>id)(f:Agg P T 2:=by exact⟨by kernel_rfl,by kernel_rfl⟩)(h0:W.cell? ⟨b,off,none⟩=some u:=by assumption)(h1:W.cell? ⟨b,off+1,none⟩=some v:=by assumption):obl P (fun m=>Ext W m) ops hs a0 i o (he (.agg #[u,v])) :=
 B4 k fun c w hp d h=>by
  rw[e]at h
  have g:(Instr.loadAt T (.pointer (some ⟨b,off,none⟩))).run P w = .ok (.agg [u,v].toArray) w:=QN (cs:=[u,v]) f (fun j x a=>by
   match j,a with
   | 0,a=>cases a;exact d.cell h0
   | 1,a=>cases a;exact d.cell h1
   | j+2,a=>simp at a)
  simp only[execOp,e,l c w h.1,fC,g,fe,fQ]
theorem ol4{t:Tmp}{b:Nat}{x y:Value}(k:BQ hs o=some true:=by rfl)(e:o.op = .load T (.tmp t):=by rfl)(l:∀ d w,Et ops hs a0 o d w (.tmp t)->d (.tmp t) = .pointer (some ⟨b,off,none⟩):=by exact fun _ _=>id)(f:Agg P T 4:=by exact⟨by kernel_rfl,by kernel_rfl⟩)(h0:W.cell? ⟨b,off,none⟩=some u:=by assumption)(h1:W.cell? ⟨b,off+1,none⟩=some v:=by assumption)(h2:W.cell? ⟨b,off+2,none⟩=some x:=by assumption)(h3:W.cell? ⟨b,off+3,none⟩=some y:=by assumption):obl P (fun m=>Ext W m) ops hs a0 i o (he (.agg #[u,v,x,y])) :=
 B4 k fun d w hp c h=>by
  rw[e]at h
  have g:(Instr.loadAt T (.pointer (some ⟨b,off,none⟩))).run P w = .ok (.agg [u,v,x,y].toArray) w:=QN (cs:=[u,v,x,y]) f (fun j z a=>by
   match j,a with
   | 0,a=>cases a;exact c.cell h0
   | 1,a=>cases a;exact c.cell h1
   | 2,a=>cases a;exact c.cell h2
   | 3,a=>cases a;exact c.cell h3
   | j+4,a=>simp at a)
  simp only[execOp,e,l d w h.1,fC,g,fe,fQ]
theorem ofa{t:Tmp}{b:Nat}(g:BQ hs o=some true:=by rfl)(c:o.op = .fieldAddr T (.tmp t) k:=by rfl)(j:∀ a w,Et ops hs a0 o a w (.tmp t)->a (.tmp t) = .pointer (some ⟨b,off,none⟩):=by exact fun _ _=>id)(e:WR P T k=some d:=by kernel_rfl)(f:q=⟨b,off+d,none⟩:=by rfl){C:World->Prop}:obl P C ops hs a0 i o (he (.pointer (some q))) :=
 B4 g fun a w hp l h=>by
  rw[c]at h;simp only[execOp,c,j a w h.1,fC,WS e,fe,fQ,f]
theorem onc{t:Tmp}(c:BQ hs o=some true:=by rfl)(b:o.op = .nilCheck (.tmp t):=by rfl)(d:∀ a w,Et ops hs a0 o a w (.tmp t)->a (.tmp t) = .pointer (some p):=by exact fun _ _=>id){C:World->Prop}:obl P C ops hs a0 i o (he (.pointer (some p))) :=
 B4 c fun a w hp e h=>by
  rw[b]at h;simp only[execOp,b,d a w h.1,fQ]
theorem omv{t:Tmp}{c:Value}(d:BQ hs o=some true:=by rfl)(b:o.op = .move (.tmp t):=by rfl)(e:∀ a w,Et ops hs a0 o a w (.tmp t)->a (.tmp t)=c:=by exact fun _ _=>id){C:World->Prop}:obl P C ops hs a0 i o (he c) :=
 Ii d (.inl b) fun a w _ h=>e a w h.1
theorem oas{t:Tmp}{c:Value}(d:BQ hs o=some true:=by rfl)(b:o.op = .assign (.tmp t):=by rfl)(e:∀ a w,Et ops hs a0 o a w (.tmp t)->a (.tmp t)=c:=by exact fun _ _=>id){C:World->Prop}:obl P C ops hs a0 i o (he c) :=
 Ii d (.inr b) fun a w _ h=>e a w h.1
end
def P2(b:Nat):Nat:=2^b
theorem WT(b:Nat):0<P2 b:=gh b
theorem Dy(a b:Nat):P2 (a+b)=P2 a*P2 b:=j9 2 a b
theorem OI{a b:Nat}(h:a<=b):P2 a<=P2 b:=fx (by omega) h
theorem Uq(k:Nat):P2 (64*k)=18446744073709551616^k:=by unfold P2;rw[ju]
theorem CD{y a b:Nat}(c:x<P2 a)(d:y<P2 b):x*y<P2 (a+b):=by
 rw[Dy];exact Nat.mul_lt_mul'' c d
theorem Ur{y a:Nat}(b:x<P2 a)(c:y<P2 a):x+y<P2 (a+1):=by
 rw[Dy];show x+y<P2 a*2;omega
theorem Ak{a b:Nat}(c:x<P2 a)(h:a<=b):x<P2 b:=fN c (OI h)
theorem Am:Agg prog 123 2:=⟨by kernel_rfl,by kernel_rfl⟩
theorem qh{p:Prop}(h:p):Hid p:=f8 h
def Ae(neg:Bool)(a:Option Addr)(n c:Nat):List Value:=[.bool neg,.slice a n c]
theorem Ao(neg:Bool)(a:Option Addr)(n c:Nat):∀ v∈Ae neg a n c,v.oneCell'=true:=by
 intro v b;simp only[Ae,fV,ib,kx]at b;rcases b with rfl|rfl <;> rfl
def Wd(w:World)(a:Option Addr)(n c:Nat)(x:Nat):Prop:=∃ xs,SlN .u64 w a n c xs/\Num 18446744073709551616 xs x
theorem Wd.ext{w b:World}{a:Option Addr}{n c x:Nat}(h:Wd w a n c x)(e:Ext w b):Wd b a n c x:=by
 obtain⟨d,h1,h2⟩:=h;exact⟨d,h1.ext e,h2⟩
theorem Wd.len{w:World}{a:Option Addr}{n c x:Nat}(h:Wd w a n c x){k:Nat}(b:x<P2 (64*k)):n<=k:=by
 obtain⟨d,h1,h2⟩:=h;rw[Uq]at b;have:=H7 h2 b;rw[h1.len]at this;exact this
theorem Wd.nil(w:World):Wd w none 0 0 0:=⟨[],SlN.nil _ _,Num.nil _⟩
theorem Wd.zero(h:Wd w a n c x):n=0<->x=0:=by
 obtain⟨b,h1,h2⟩:=h;constructor
 · intro h0;exact KN h2 (by rw[h1.len];exact h0)
 · intro h0;have h3:=(W.nrm_zero (B:=18446744073709551616) (by omega) h2.nrm).1 (by rw[h2.val,h0]);rw[<-h1.len,h3];rfl
theorem Wd.one(h:Wd w a 1 c x):∃ b o,a=some ⟨b,o,none⟩/\w.cell? ⟨b,o,none⟩=some (.int .u64 (x:Int))/\x<18446744073709551616/\0<x:=by
 obtain⟨i,h1,h2⟩:=h;obtain⟨e,f,g⟩:=QJ h2 h1.len;obtain⟨b,o,rfl,d⟩:=h1.at (j:=0) (by omega);have:=d 0 (by omega);rw[e,gE]at this;exact⟨b,o,rfl,this,f,g⟩
theorem Wd.big(h:Wd w a n c x)(e:2<=n):18446744073709551616<=x:=by
 obtain⟨d,h1,h2⟩:=h;have b:d≠[]:=by intro h;have:=h1.len;rw[h]at this;simp at this;omega
 have:=W.nrm_pos (B:=18446744073709551616) (by omega) h2.nrm b;rw[h1.len,h2.val]at this;have h3:18446744073709551616^1<=18446744073709551616^(n-1):=fx (by omega) (by omega);omega
def OJ(w:World)(x:Nat)(e:Ending)(w':World):Prop:=∃ a n c,e = .returned (.slice a n c)/\Ext w w'/\Wd w' a n c x
theorem Ou.wd{e:Ending}(h:Ou .u64 18446744073709551616 w x e w'):OJ w x e w':=by
 obtain⟨a,n,c,b,h1,h2,h3,h4⟩:=h;exact⟨a,n,c,h1,h2,b,h3,h4⟩
theorem XE{y:Nat}(j:Bk w)(f:Wd w a n c x)(g:Wd w b m d y)(i:x<P2 9600)(e:y<P2 9600) :
 Calls prog 136 #[.slice a n c,.slice b m d] w (OJ w (Nat.gcd x y)):=by
 have h1:=f.len (k:=150) i;have h2:=g.len (k:=150) e;obtain⟨l,h3,h4⟩:=f;obtain⟨o,h5,h6⟩:=g;exact(M4 j h3 h5 h4 h6 h1 h2).mono fun _ _ h=>h.wd
def AQ(w:World)(v:Value)(z:Int):Prop:=∃ s a n c,v = .agg (Ae s a n c).toArray/\Hid (decide (z<0)=s)/\Wd w a n c z.natAbs
theorem AQ.ext{w b:World}{v:Value}{z:Int}(h:AQ w v z)(e:Ext w b):AQ b v z:=by
 obtain⟨s,a,n,c,h1,d,h2⟩:=h;exact⟨s,a,n,c,h1,d,h2.ext e⟩
def IJ(w:World)(z:Int)(e:Ending)(w':World):Prop:=∃ s a n c,e = .returned (.agg (Ae s a n c).toArray)/\Ext w w'/\Hid (decide (z<0)=s)/\Wd w' a n c z.natAbs
theorem IJ.r{e:Ending}(h:IJ w z e w'):∃ v,e = .returned v/\Ext w w'/\AQ w' v z:=by
 obtain⟨s,a,n,c,h1,h2,h3,h4⟩:=h;exact⟨_,h1,h2,s,a,n,c,rfl,h3,h4⟩
theorem Wd.kept{w f:World}{a:Option Addr}{n c x R:Nat}{t:TypeId}{cs:List Value}(h:Wd w a n c x)(e:Arr w R t cs)(d:∀ v∈cs,∀ i,v ≠ .int .u64 i)(k:w.grownBy f (some R)):Wd f a n c x:=by
 obtain⟨l,h1,h2⟩:=h;refine⟨l,?_,h2⟩;rcases fF n with h0|h0
 · subst h0;exact⟨Sl.len h1,Sl.cap h1,Sl.max h1,fun h=>absurd h (lJ _)⟩
 · refine h1.kept k (Or.inr fun he => ?_);obtain⟨b,o,rfl,g⟩:=h1.at (j:=0) h0;simp only[blk,ic,fc]at he;subst he;have h3:=g 0 h0;have h4:w.cell? ⟨b,o+0,none⟩=cs[o+0]?:=by
    unfold Arr at e;simp[World.cell?,e]
   rw[h4]at h3;exact d _ (gS h3) _ rfl
theorem AL(s:Bool)(a:Option Addr)(n c:Nat):∀ v∈Ae s a n c,∀ i,v ≠ .int .u64 i:=by
 intro v b i;simp only[Ae,fV,ib,kx]at b;rcases b with rfl|rfl <;> simp
theorem WU{S:Nat->Prop}{y:Nat}(o:Wd w a n c x)(p:Wd w b m d y)(B:x<P2 9600)(r:y<P2 9600)(E:x<P2 2496\/y<P2 2496)(h1:0<n->∀ g,blk a=some g->S g)(h2:0<m->∀ g,blk b=some g->S g) :
 Calls prog 135 #[.slice a n c,.slice b m d] w fun e q=>∃ f i j,e = .returned (.slice f i j)/\Ext w q/\Wd q f i j (x*y)/\Hv w.heap.size S f i:=by
 have J:=o.len (k:=150) B;have K:=p.len (k:=150) r;have G:=o.zero;have H:=p.zero;have h0:n<40\/m<40:=by
  rcases E with h|h
  · left;have:=o.len (k:=39) h;omega
  · right;have:=p.len (k:=39) h;omega
 obtain⟨L,h3,h4⟩:=o;obtain⟨M,h5,h6⟩:=p;refine(DO h3 h5 h4 h6 (by omega) (by omega) h0).mono ?_;rintro e q ⟨f,i,j,A,rfl,C,v,z,l⟩;refine⟨f,i,j,rfl,C,⟨A,v,z⟩,fun I g D => ?_⟩;have F:Wd q f i j (x*y):=⟨A,v,z⟩;have hp:¬ x*y=0:=fun h=>by have:=F.zero.2 h;omega
 have s:0<n:=by
  rcases fF n with h|h
  · exact absurd (by rw[G.1 h,iE]) hp
  · exact h
 have t:0<m:=by
  rcases fF m with h|h
  · exact absurd (by rw[H.1 h,lr]) hp
  · exact h
 rcases l g D with h|h|h
 · exact Or.inl h
 · exact Or.inr (h1 s g h)
 · exact Or.inr (h2 t g h)
def XF(w:World)(a:Option Addr)(n c:Nat)(z:Int)(e:Ending)(w':World):Prop:=∃ s,e = .returned (.agg (Ae s a n c).toArray)/\Ext w w'/\Hid (decide (z<0)=s)/\Wd w' a n c z.natAbs
theorem FB(k:Wd w a n c x){z:Int}(i:z=if neg=true then -(x:Int)else x) :
 Calls prog 131 #[.bool neg,.slice a n c] w (XF w a n c z):=by
 have g:=k.zero;have m:Hid (z.natAbs=x):=by show _=_;rw[i];split <;> omega
 cases neg with
 | true =>
  have j:Hid (decide (z<0)=decide (0<n)):=by show _=_;rw[i,fG rfl];apply jJ.2;omega
  clear g i
  go_enter func131,ntmps131
  go_upto_region 1 with(fail)
  refine Bv ?_;intro o b e l
  go_wp2_with(refine Aa (vs:=Ae _ a n c) rfl rfl rfl rfl rfl Am e rfl (Ao _ _ _ _) ?_;intro p f d)
  refine fh (v := .agg (Ae (decide (0<n)) a n c).toArray) (At rfl Am rfl f) rfl ⟨_,rfl,b.grownR d (lrf _),j,by rw[m.out];exact k.ext (b.grownR d (lrf _))⟩
 | false =>
  have j:Hid (decide (z<0)=false):=by show _=_;rw[i,fl (by simp)];simp
  clear g i
  go_enter func131,ntmps131
  go_upto_region 1 with(fail)
  refine Bv ?_;intro o b e l
  go_wp2_with(refine Aa (vs:=Ae _ a n c) rfl rfl rfl rfl rfl Am e rfl (Ao _ _ _ _) ?_;intro p f d)
  refine fh (v := .agg (Ae false a n c).toArray) (At rfl Am rfl f) rfl ⟨_,rfl,b.grownR d (lrf _),j,by rw[m.out];exact k.ext (b.grownR d (lrf _))⟩
theorem DP(b:Wd w a n c x){z:Int}(d:z=if neg=true then -(x:Int)else x) :
 Calls prog 131 #[.bool neg,.slice a n c] w (IJ w z) :=
 (FB b d).mono fun _ _ ⟨s,h1,h2,h3,h4⟩=>⟨s,a,n,c,h1,h2,h3,h4⟩
theorem Sc{r:Option Nat}(h:w.grownBy w1 r)(k:w1.grownBy w2 (some g))(d:w.heap.size<=g):w.grownBy w2 r :=
 ⟨k.os.trans h.os,k.tape.trans h.tape,k.output.trans h.output,ft h.size k.size,fun b c a=>by
  rw[k.block b (fN c h.size) (by intro he;simp only[fc]at he;omega),h.block b c a]⟩
structure Tot(w:World)(a:Option Addr)(base:Nat)(wr:World)(a':Option Addr)(n c:Nat)(zs:List Nat):Prop where
 grown:w.grownBy wr (blk a)
 own:Own wr base 101 a' n c (zs.map (B7 .u64))
 src:blk a'=blk a\/∃ g,blk a'=some g/\w.heap.size<=g
 bnd:W.bnd 18446744073709551616 zs
section
variable {w wr w2:World} {a a' a2:Option Addr} {base n c n2 c2:Nat} {zs zs2:List Nat}
theorem Tot.len(h:Tot w a base wr a' n c zs):zs.length=n:=by have:=h.own.len;simpa using this
theorem Tot.step(h:Tot w a base wr a' n c zs)(b:wr.grownBy w2 (blk a'))(j:Own w2 base 101 a2 n2 c2 (zs2.map (B7 .u64)))(k:blk a2=blk a'\/blk a2=some wr.heap.size)(i:W.bnd 18446744073709551616 zs2):Tot w a base w2 a2 n2 c2 zs2:=by
 have d:w.grownBy w2 (blk a):=by
  rcases h.src with e|⟨g,e,f⟩
  · rw[e]at b;exact KG h.grown b
  · rw[e]at b;exact Sc h.grown b f
 refine⟨d,j,?_,i⟩;rcases k with e|e
 · rw[e];exact h.src
 · exact Or.inr ⟨_,e,h.grown.size⟩
theorem Tot.ext(h:Tot w a base wr a' n c zs)(e:Ext wr w2):Tot w a base w2 a' n c zs:=⟨IE h.grown e,h.own.ext e,h.src,h.bnd⟩
theorem Tot.slice(h:Tot w a base wr a' n c zs)(d:SlN .u64 w ax nx cx xs)(b:blk ax≠blk a):SlN .u64 wr ax nx cx xs:=d.kept h.grown (Or.inr b)
theorem Tot.sep(h:Tot w a base wr a' n c zs)(i:SlN .u64 w ax nx cx xs)(h0:0<nx)(d:blk ax≠blk a){g:Nat}(f:blk a'=some g):blk ax≠some g:=by
 rcases h.src with e|⟨j,e,b⟩
 · rw[<-f,e];exact d
 · rw[f]at e;simp only[fc]at e;subst e;exact i.fresh b h0
end
def DX(j:Nat)(o:Oper):Oper:={ o with after:=o.after.push { on:=j,ground := .data } }
theorem Jd(j:Nat)(o:Oper)(d:Operand->Value):execOp d (DX j o)=execOp d o:=by
 obtain⟨e,f,c,g,a,b⟩:=o;cases f <;> rfl
section
variable {P:Program} {Q:Exit->Act->World->Prop}
theorem H8(l:List Oper)(m j:Nat):(l.modify m (DX 0)).toArray[j]?=(l.toArray[j]?).map (fun o=>if m=j then DX 0 o else o):=by
 simp only[kW,List.getElem?_modify];cases l[j]? with
 | none=>rfl
 | some o=>by_cases h:m=j <;> simp[h]
theorem GE{L:Array Bool}(h0:L.getD 0 false=true):j∈Region.ready .any (l.modify m (DX 0)).toArray L<->j∈Region.ready .any l.toArray L:=by
 rw[lY,lY,H8];constructor
 · rintro⟨h1,o,b,a⟩;cases d:l.toArray[j]? with
   | none=>rw[d]at b;cases b
   | some o' =>
    rw[d]at b;simp only[ic,fc]at b;refine⟨h1,o',rfl,fun e he c=>a e ?_ c⟩;rw[<-b];split
    · exact Array.mem_push_of_mem _ he
    · exact he
 · rintro⟨h1,o,b,a⟩;rw[b];refine⟨h1,_,rfl,fun e he c => ?_⟩;split at he
   · rcases Array.mem_push.1 he with he|he
     · exact a e he c
     · rw[he];exact h0
   · exact a e he c
theorem M5(l:List Oper)(m:Nat)(t:Array Value):yielded (l.modify m (DX 0)).toArray t=yielded l.toArray t:=by
 funext g;unfold yielded;rw[H8];cases l.toArray[g]? with
 | none=>rfl
 | some o=>by_cases h:m=g <;> simp[h,DX]
theorem Sd{K:Act->World->Prop}{a:Act}(h:wpOp P (l.modify m (DX 0)).toArray Q i K a w):wpOp P l.toArray Q i K a w:=by
 unfold wpOp at *
 rw[H8]at h;cases c:l.toArray[i]? with
 | none=>rw[c]at h;exact h
 | some o =>
  rw[c]at h;simp only[ic,M5]at h;by_cases b:m=i
  · simp only[fG b]at h;have d:Region.wanted (DX 0 o) (yielded l.toArray a.tmps)=Region.wanted o (yielded l.toArray a.tmps):=rfl;have e:Oper.wp P (DX 0 o) a w K Q=Oper.wp P o a w K Q:=by unfold Oper.wp;rw[Jd];rfl
    have f:Oper.asks P (DX 0 o) a w=Oper.asks P o a w:=by unfold Oper.asks;rw[Jd]
    rw[d,e,f]at h;exact h
  · simp only[fl b]at h;exact h
theorem KO{l:List Oper}{m:Nat}:∀ (f:Nat) (L:Array Bool) (a:Act) (w:World),L.getD 0 false=true->wpAny P .any (l.modify m (DX 0)).toArray Q f L a w->wpAny P .any l.toArray Q f L a w
 | 0,L,a,w,h0,h=>by
  refine⟨?_,h.2⟩;refine mc.2 fun j b => ?_;have:=(GE (m:=m) h0).2 b;rw[h.1]at this;cases this
 | f+1,L,a,w,h0,h=>by
  refine⟨fun g=>h.1 (mc.2 fun j b => ?_),fun i e => ?_⟩
  · have:=(GE h0).1 b;rw[g]at this;cases this
  · exact wpOp_mono (fun c k d=>KO f _ c k (jy h0) d) (Sd (h.2 i ((GE h0).2 e)))
def XG:Op->Bool | .select _ _=>true | _=>false
def QO(ops:Array Oper):Bool :=
 (match ops[0]? with
  | some o=>(match o.op with | .move _=>true | _=>false) && o.guard.isNone && o.after.isEmpty && (List.range ops.size).all (fun j=>j == 0 || (match ops[j]? with | some oj=>oj.after.any (fun e=>Region.binds .any e && e.on == 0) || o.apart ops oj | none=>true))
  | none=>false) && (List.range ops.size).all (fun j=>match ops[j]? with | some o => !XG o.op | none=>true)
theorem Ep{id:Nat}{a:Act}(m:Nat)(J:m≠0)(Z:P.follows .mixedOrders=true)(C:World->Prop)(n:List Hd)
 (L:Cp (l.modify m (DX 0)).toArray (n.map (·.cons)) a.tmps.size=true) (f:QO l.toArray=true)
 (W:∀ c a w d v,Q (.panic c) (Act.put a d v) w->Q (.panic c) a w)
 (E:∀ w p,Ext w p->C w->C p) (V:C w.drew) (O:F9 n)
 (B:K5 P C (l.modify m (DX 0)).toArray n a 0 (l.modify m (DX 0)) n)
 (r:∀ p,C p->DI p (fun U=>wpList P (l.modify m (DX 0)).toArray Q ((l.modify m (DX 0)).drop n.length) U p) (l.modify m (DX 0)) n a):(Code.region id l.toArray true).wp P Q a w:=by
 have h:=GU (P:=P) (Q:=Q) C n L E V O B r;refine mA Z ?_;unfold QO at f;simp only[gY]at f;obtain⟨h1,h2⟩:=f;cases h0:l.toArray[0]? with
 | none=>rw[h0]at h1;cases h1
 | some o =>
  rw[h0]at h1;simp only[gY]at h1;obtain⟨⟨⟨z,I⟩,F⟩,G⟩:=h1;obtain⟨x,R⟩:∃ x,o.op = .move x:=by
   cases M:o.op <;> rw[M]at z <;> first | exact⟨_,rfl⟩ | cases z
  have s:o.guard=none:=by simpa using I
  have q:o.after=#[]:=by simpa using F
  have a0:0<l.toArray.size:=(gA.1 h0).1;have y:(l.modify m (DX 0)).toArray.size=l.toArray.size:=by simp
  rw[y]at h;obtain⟨k,Y⟩:∃ k,l.toArray.size=k+1:=⟨l.toArray.size-1,by omega⟩;rw[Y]at h |-;have hy:Yields P l.toArray o (a.eval x) a:=Or.inl ⟨by simp[Region.wanted,s],fun w=>by simp only[execOp,R];rfl⟩;have hr:0∈Region.ready .any l.toArray (Array.replicate (k+1) false):=by
   rw[lY];refine⟨by simp,o,h0,fun e he => ?_⟩;rw[q]at he;simp at he
  have D:∀ (j:Nat) (o:Oper) S b,l.toArray[j]?=some o->o.op ≠ .select S b:=by
   intro j oj S b t X;have g:j<l.toArray.size:=(gA.1 t).1;have:=iS.1 h2 j (gO.2 g);rw[t]at this;simp[X,XG]at this
  refine wpAny_first (i:=0) (oi:=o) (v:=a.eval x) h0 D (fun c a w=>W c a w _ _) k _ a _ ?_ hr hy ?_
  · intro j oj t K _ A;have g:j<l.toArray.size:=(gA.1 t).1;have:=iS.1 G j (gO.2 g);rw[t]at this;simp only[jW,lZ]at this;rcases this with h|h|h
    · exact absurd h K
    · obtain⟨e,he,H⟩:=Array.any_eq_true'.1 h;simp only[gY,lZ]at H;exact absurd H.2 (A e he H.1)
    · exact h
  · refine KO (m:=m) k _ _ _ (by simp) ?_;have T:(l.modify m (DX 0)).toArray[0]?=some o:=by rw[H8,h0];simp[J]
    have N:0∈Region.ready .any (l.modify m (DX 0)).toArray (Array.replicate (k+1) false):=by
     rw[lY];refine⟨by simp,o,T,fun e he => ?_⟩;rw[q]at he;simp at he
    have h3:=h.2 0 N;unfold wpOp at h3;rw[T]at h3;simp only at h3;rw[fG (by simp[Region.wanted,s])]at h3;rcases h3 with h3|h3
    · simp only[Oper.wp,execOp,R]at h3;exact h3
    · exfalso;have:=h3.1;simp only[Oper.asks,execOp,R]at this;exact absurd (show noRoomEvent∈(#[]:Array Event) from this.1) (by simp)
end
theorem XH{y:Nat}(f:Wd w a n c x)(g:Wd w b m d y)(i:x<P2 9600)(e:y<P2 9600) :
 Calls prog 132 #[.slice a n c,.slice b m d] w (OJ w (x+y)):=by
 have h1:=f.len (k:=150) i;have h2:=g.len (k:=150) e;obtain⟨j,h3,h4⟩:=f;obtain⟨l,h5,h6⟩:=g;exact(MX h3 h5 h4 h6 (by omega) (by omega)).mono fun _ _ h=>h.wd
theorem Wb{y:Nat}(f:Wd w a n c x)(i:Wd w b m d y)(g:x<P2 9600)(e:y<=x) :
 Calls prog 134 #[.slice a n c,.slice b m d] w (OJ w (x-y)):=by
 have h1:=f.len (k:=150) g;obtain⟨j,h3,h4⟩:=f;obtain⟨l,h5,h6⟩:=i;exact(Hx h3 h5 h4 h6 (by omega) e).mono fun _ _ h=>h.wd
theorem XI{y:Nat}(f:Wd w a n c x)(g:Wd w b m d y) :
 Calls prog 133 #[.slice a n c,.slice b m d] w fun e i=>e = .returned (.int .i64 (Bu x y))/\Qt w i:=by
 obtain⟨j,h3,h4⟩:=f;obtain⟨k,h5,h6⟩:=g;exact BN h3 h5 h4 h6
def XJ(w:World)(q r:Nat)(e:Ending)(w':World):Prop:=∃ a n c a' n' c',e = .returned (.tuple #[.slice a n c,.slice a' n' c'])/\Ext w w'/\Wd w' a n c q/\Wd w' a' n' c' r/\Hv w.heap.size (fun _=>False) a n
theorem XK{y:Nat}(l:Wd w a n c x)(o:Wd w b m d y)(r:x<P2 9600)(g:y<P2 9600)(h0:0<y) :
 Calls prog 175 #[.slice a n c,.slice b m d] w (XJ w (x/y) (x%y)):=by
 have h1:=l.len (k:=150) r;have h2:=o.len (k:=150) g;obtain⟨F,h3,h4⟩:=l;obtain⟨G,h5,h6⟩:=o;refine(E7 h3 h5 h4 h6 (by omega) (by omega) h0 (by omega)).mono ?_;rintro e E ⟨p,B,s,i,q,C,t,j,rfl,v,s1,z,D,A,f⟩;exact⟨p,B,s,q,C,t,rfl,v,⟨i,s1,z⟩,⟨j,D,A⟩,f⟩
def OK(w:World)(S:Nat->Prop)(z:Int)(e:Ending)(w':World):Prop:=∃ s a n c,e = .returned (.agg (Ae s a n c).toArray)/\Ext w w'/\Hid (decide (z<0)=s)/\Wd w' a n c z.natAbs/\Hv w.heap.size S a n
theorem OK.plain{S:Nat->Prop}{e:Ending}(h:OK w S z e w'):IJ w z e w':=by
 obtain⟨s,a,n,c,h1,h2,h3,h4,_⟩:=h;exact⟨s,a,n,c,h1,h2,h3,h4⟩
def Us(S:Nat->Prop)(v:Value):Prop:=∀ s a n c,v = .agg (Ae s a n c).toArray->0<n->∀ g,blk a=some g->S g
theorem Us.at{S:Nat->Prop}(h:Us S (.agg (Ae s a n c).toArray)):0<n->∀ g,blk a=some g->S g:=h s a n c rfl
theorem Wc(a:x<18446744073709551616):Calls prog 177 #[.int .u64 x] w (OJ w x):=(Hw a).mono fun _ _ h=>h.wd
theorem KP{S:Nat->Prop}(f:Ext w w1)(g:Arr w1 R t cs)(b:∀ v∈cs,∀ i,v ≠ .int .u64 i)(d:w1.grownBy w9 (some R))(k:w.heap.size<=R)(e:Hid (decide (z<0)=s))(l:Wd w1 a n c z.natAbs)(j:Hv w.heap.size S a n):OK w S z (.returned (.agg (Ae s a n c).toArray)) w9 :=
 ⟨s,a,n,c,rfl,f.grownR d k,e,l.kept g b d,j⟩
theorem Dj(f:Ext w w1)(g:Arr w1 R t cs)(b:∀ v∈cs,∀ i,v ≠ .int .u64 i)(d:w1.grownBy w9 (some R))(j:w.heap.size<=R)(e:Hid (decide (z<0)=s))(k:Wd w1 a n c z.natAbs):IJ w z (.returned (.agg (Ae s a n c).toArray)) w9 :=
 ⟨s,a,n,c,rfl,f.grownR d j,e,k.kept g b d⟩
theorem M6(h:AQ w v z):Calls prog 106 #[v] w (IJ w (-z)):=by
 obtain⟨s,a,n,c,rfl,q,y⟩:=h
 go_enter func106,ntmps106
 go_upto_region 1 with(fail)
 refine PK ?_;intro D d b j p;have B:=b.c 0 rfl;have C:=b.c 1 rfl;have m:=qh (DP (neg := !s) (y.ext d) (z := -z) (by rw[<-q.out];by_cases h:z<0 <;> simp[h] <;> omega));have x:Arr D (w.heap.size+1) 123 (Ae false none 0 0):=j;clear p
 go_wp2_with fail
 refine m.out.mono ?_;rintro e E ⟨s1,r,A,t,rfl,f,i,o⟩;have g:=x.ext f
 go_wp2_with(refine Aa (vs:=Ae s1 r A t) rfl rfl rfl rfl rfl Am g rfl (Ao _ _ _ _) ?_;intro F k l)
 exact fh (At rfl Am rfl k) rfl (Dj (d.trans f) g (AL _ _ _ _) l (by omega) i o)
theorem Av(h:AQ w v z){r:Bool}(f:decide (z=0)=r):Calls prog 91 #[v] w fun e m=>e = .returned (.bool r)/\Ext w m:=by
 obtain⟨s,a,n,c,rfl,o,i⟩:=h;have g:((n:Int) == 0)=r:=by
  have:=i.zero;rw[<-f,mr];simp;omega
 clear f
 go_enter func91,ntmps91
 go_upto_region 1 with(fail)
 refine Bv ?_;intro p d b j;have k:=b.c 0 rfl;have l:=b.c 1 rfl;go_wp2;go_ret;exact⟨rfl,d⟩
theorem Ut(h:AQ w v z){r:Int}(g:z.sign=r):Calls prog 144 #[v] w fun e y=>e = .returned (.int .i64 r)/\Ext w y:=by
 obtain⟨s,a,n,c,rfl,o,x⟩:=h;have f:=x.zero;by_cases h0:z=0
 · have q:n=0:=f.2 (by omega);have i:Hid (r=0):=by show _=_;rw[<-g,h0];rfl
   subst q;clear g h0 f
   go_enter func144,ntmps144
   go_upto_region 1 with(fail)
   refine Bv ?_;intro p d b j;have k:=b.c 0 rfl;have l:=b.c 1 rfl;go_wp2;go_ret;exact⟨by rw[i.out];rfl,d⟩
 · have t:((n:Int) == 0)=false:=by
    have:n≠0:=fun h=>h0 (by have:=f.1 h;omega);simpa using this
   clear f;cases s with
   | true =>
    have m:z<0:=by simpa using o.out
    have i:Hid (r = -1):=by show _=_;rw[<-g,ms m]
    clear g h0 m
    go_enter func144,ntmps144
    go_upto_region 1 with(fail)
    refine Bv ?_;intro p d b j;have k:=b.c 0 rfl;have l:=b.c 1 rfl;go_wp2;go_ret;exact⟨by rw[i.out];rfl,d⟩
   | false =>
    have m:¬ z<0:=by simpa using o.out
    have i:Hid (r=1):=by show _=_;rw[<-g,mE (by omega)]
    clear g h0 m
    go_enter func144,ntmps144
    go_upto_region 1 with(fail)
    refine Bv ?_;intro p d b j;have k:=b.c 0 rfl;have l:=b.c 1 rfl;go_wp2;go_ret;exact⟨by rw[i.out];rfl,d⟩
theorem Dd(h:AQ w v z){r:Bool}(i:decide (z=1)=r):Calls prog 96 #[v] w fun e F=>e = .returned (.bool r)/\Ext w F:=by
 obtain⟨s,a,n,c,rfl,t,q⟩:=h;cases s with
 | true =>
  have m:z<0:=by simpa using t.out
  have p:Hid (r=false):=by show _=_;rw[<-i];simp;omega
  clear i m
  go_enter func96,ntmps96
  go_upto_region 1 with(fail)
  refine Bv ?_;intro B f d g;have j:=d.c 0 rfl;have l:=d.c 1 rfl;go_wp2;go_ret;exact⟨by rw[p.out];rfl,f⟩
 | false =>
  have m:¬ z<0:=by simpa using t.out
  by_cases A:n=1
  · subst A;obtain⟨b,o,rfl,y,G,H⟩:=q.one;have E:((z.natAbs:Int) == 1)=r:=by
     rw[<-i,mr];simp;omega
    clear i m;generalize z.natAbs=x at *
    go_enter func96,ntmps96
    go_upto_region 1 with(fail)
    refine Bv ?_;intro B f d g;have j:=d.c 0 rfl;have l:=d.c 1 rfl;have C:=f.cell y;clear g y;go_wp2;go_ret;exact⟨rfl,f⟩
  · have D:((n:Int) == 1)=false:=by simp;omega
    have p:Hid (r=false):=by
     show _=_;rw[<-i];have h1:z≠1:=by
      intro h1;have h2:=q.len (k:=1) (by rw[h1,Uq];decide);have h3:=q.zero;omega
     simp[h1]
    clear i m A
    go_enter func96,ntmps96
    go_upto_region 1 with(fail)
    refine Bv ?_;intro B f d g;have j:=d.c 0 rfl;have l:=d.c 1 rfl;go_wp2;go_ret;exact⟨by rw[p.out];rfl,f⟩
theorem Vz(h1 : -9223372036854775808<=z)(h2:z<=9223372036854775807):Calls prog 184 #[.int .i64 z] w (IJ w z):=by
 by_cases r:z<0
 · have k:Hid (decide (z<0)=true):=qh (by simpa using r);have s:IntKind.u64.wrap (-IntKind.u64.wrap z)=(z.natAbs:Int):=by rw[gN,gN];omega
   have o:z.natAbs<18446744073709551616:=by omega
   go_enter func184,ntmps184
   go_upto_region 1 with(fail)
   refine Bv ?_;intro q f c j;have n:Arr q w.heap.size 123 (Ae false none 0 0):=c;clear j
   go_wp2_with fail
   refine(Wc o).mono ?_;rintro e t ⟨l,p,m,rfl,a,i⟩;have b:=n.ext a
   go_wp2_with(refine Aa (vs:=Ae true l p m) rfl rfl rfl rfl rfl Am b rfl (Ao _ _ _ _) ?_;intro v d g)
   exact fh (At rfl Am rfl d) rfl (Dj (f.trans a) b (AL _ _ _ _) g (by omega) k i)
 · have k:Hid (decide (z<0)=false):=qh (by simpa using r);have s:IntKind.u64.wrap z=(z.natAbs:Int):=by rw[gN];omega
   have o:z.natAbs<18446744073709551616:=by omega
   go_enter func184,ntmps184
   go_upto_region 1 with(fail)
   refine Bv ?_;intro q f c j;have n:Arr q w.heap.size 123 (Ae false none 0 0):=c;clear j
   go_wp2_with fail
   refine(Wc o).mono ?_;rintro e t ⟨l,p,m,rfl,a,i⟩;have b:=n.ext a
   go_wp2_with(refine Aa (vs:=Ae false l p m) rfl rfl rfl rfl rfl Am b rfl (Ao _ _ _ _) ?_;intro v d g)
   exact fh (At rfl Am rfl d) rfl (Dj (f.trans a) b (AL _ _ _ _) g (by omega) k i)
theorem FV(G:Bk w)(h:AQ w v z)(E:AQ w v' y)(C:z.natAbs<P2 9600)(o:y.natAbs<P2 9600):Calls prog 94 #[v,v'] w (IJ w ((Nat.gcd z.natAbs y.natAbs:Nat):Int)):=by
 obtain⟨s,a,n,c,rfl,Q,I⟩:=h;obtain⟨t,b,m,d,rfl,R,J⟩:=E
 go_enter func94,ntmps94
 go_upto_region 1 with(fail)
 refine IG ?_;intro P f g i p A;have L:=g.c 0 rfl;have M:=g.c 1 rfl;have N:=i.c 0 rfl;have O:=i.c 1 rfl;have F:Arr P (w.heap.size+2) 123 (Ae false none 0 0):=p;have H:=qh (XE (G.ext f) (I.ext f) (J.ext f) C o);have l:Hid (decide (((Nat.gcd z.natAbs y.natAbs:Nat):Int)<0)=false):=qh (by simp);clear A
 go_wp2_with fail
 refine H.out.mono ?_;rintro e S ⟨B,K,D,rfl,j,x⟩;have k:=F.ext j
 go_wp2_with(refine Aa (vs:=Ae false B K D) rfl rfl rfl rfl rfl Am k rfl (Ao _ _ _ _) ?_;intro T q r)
 exact fh (At rfl Am rfl q) rfl (Dj (f.trans j) k (AL _ _ _ _) r (by omega) l x)
theorem WV{t:Bool}(a:decide (z<0)=s)(b:decide (y<0)=t):z*y=if(s != t)=true then -((z.natAbs*y.natAbs:Nat):Int)else((z.natAbs*y.natAbs:Nat):Int):=by
 rw[<-ia];subst a;subst b;by_cases h1:z<0 <;> by_cases h2:y<0 <;> simp[h1,h2]
 · have:=Int.mul_nonneg_of_nonpos_of_nonpos (jY h1) (jY h2);omega
 · have:=Int.mul_nonpos_of_nonpos_of_nonneg (jY h1) (show 0<=y by omega);omega
 · have:=Int.mul_nonpos_of_nonneg_of_nonpos (show 0<=z by omega) (jY h2);omega
 · have:=jQ (show 0<=z by omega) (show 0<=y by omega);omega
theorem Uu{S:Nat->Prop}(h:AQ w v z)(h':AQ w v' y)(bz:z.natAbs<P2 9600)(A:y.natAbs<P2 9600)(H:z.natAbs<P2 2496\/y.natAbs<P2 2496)(E:Us S v)(F:Us S v'):Calls prog 93 #[v,v'] w (OK w S (z*y)):=by
 obtain⟨s,a,n,c,rfl,HS,hx⟩:=h;obtain⟨t,b,m,d,rfl,HT,hy⟩:=h';have V:=E.at
 have W:=F.at
 clear E F
 go_enter func93,ntmps93
 go_upto_region 1 with(fail)
 refine IG ?_;intro w0 l B C N Y;have Z:=B.c 0 rfl;have a0:=B.c 1 rfl;have a3:=C.c 0 rfl;have a4:=C.c 1 rfl;have hR:Arr w0 (w.heap.size+2) 123 (Ae false none 0 0):=N;have G:=fun(g:World) (f:Ext w0 g)=>qh (WU ((hx.ext l).ext f) ((hy.ext l).ext f) bz A H V W);clear Y bz A H;have p:=fun(g:World) (f:Ext w0 g)=>qh (And.intro (f.cell Z) (And.intro (f.cell a0) (And.intro (f.cell a3) (f.cell a4))))
 refine Ad
  [hdP w.heap.size 0,hdB s,hdP (w.heap.size+1) 0,hdB t,hdB (s != t),hdP w.heap.size 1,hdS a n c,hdP (w.heap.size+1) 1,hdS b m d,hp (fun v g=>∃ i j k,v = .slice i j k/\Wd g i j k (z.natAbs*y.natAbs)/\Hv w.heap.size S i j),hp (fun v g=>∃ x i j k,v = .agg (Ae x i j k).toArray/\Hid (decide (z*y<0)=x)/\Wd g i j k (z*y).natAbs/\Hv w.heap.size S i j)]
  ⟨fun v w w' e ⟨i,j,k,h1,h2,h3⟩=>⟨i,j,k,h1,h2.ext e,h3⟩,fun v w w' e ⟨x,i,j,k,h1,h2,h3,h4⟩=>⟨x,i,j,k,h1,h2,h3.ext e,h4⟩,trivial⟩ ⟨?o0,?o1,?o2,?o3,?o4,?o5,?o6,?o7,?o8,?o9,?o10,trivial⟩ ?fin
 case o0 | o2=>exact ofa (d:=0)
 case o1 | o3 | o6 | o8=>exact ol
 case o5 | o7=>exact ofa (d:=1)
 case o4 =>
  refine BB rfl fun ρ g f o h => ?_;have e0:_=_:=h.1;have e1:_=_:=h.2.1;obtain⟨I,J,K,L⟩:=(p g f).out;go_simp;cases s <;> cases t <;> rfl
 case o9 =>
  refine Ai rfl fun ρ g f o R h => ?_;have e1:_=_:=h.2.1;have e2:_=_:=h.2.2.1;obtain⟨I,J,K,L⟩:=(p g f).out;refine⟨135,#[.slice a n c,.slice b m d],by go_simp,((G g f).out).mono ?_⟩;rintro e w' ⟨i,j,k,rfl,q,r,P⟩;exact⟨_,rfl,q,i,j,k,rfl,r,P.of (l.trans f).size (fun _ h=>Or.inr h)⟩
 case o10 =>
  refine Ai rfl fun ρ g f o R h => ?_;have e1:_=_:=h.2.1;obtain⟨v2,e2,a2,n2,c2,rfl,d2,f2⟩:=h.2.2.1;obtain⟨I,J,K,L⟩:=(p g f).out;refine⟨131,#[.bool (s != t),.slice a2 n2 c2],by go_simp,(FB d2 (z:=z*y) (WV HS.out HT.out)).mono ?_⟩;rintro e w' ⟨x,rfl,q,U,r⟩;exact⟨_,rfl,q,x,a2,n2,c2,rfl,U,r,f2⟩
 case fin =>
  intro g f;rintro _ ⟨_,_,_,rfl,_,_⟩;rintro _ ⟨s1,a1,n1,c1,rfl,M,X,Q⟩;change wpList _ _ _ _ _ _;simp only[CB];have D:=hR.ext f
  go_wp2_with(refine Aa (vs:=Ae s1 a1 n1 c1) rfl rfl rfl rfl rfl Am D rfl (Ao _ _ _ _) ?_;intro w9 O T)
  exact fh (At rfl Am rfl O) rfl (KP (l.trans f) D (AL _ _ _ _) T (by omega) M X Q)
theorem DC(h:AQ w v z)(d:AQ w v' y)(c:z.natAbs<P2 9600)(a:y.natAbs<P2 9600)(b:z.natAbs<P2 2496\/y.natAbs<P2 2496):Calls prog 93 #[v,v'] w (IJ w (z*y)) :=
 (Uu (S:=fun _=>True) h d c a b (fun _ _ _ _ _ _ _ _=>trivial) (fun _ _ _ _ _ _ _ _=>trivial)).mono fun _ _ h=>h.plain
structure Kp(S:Nat->Prop)(w w':World):Prop where
 os:w'.os=w.os
 tape:w'.tape=w.tape
 output:w'.output=w.output
 size:w.heap.size<=w'.heap.size
 block:∀ b,b<w.heap.size->¬ S b->w'.heap[b]?=w.heap[b]?
section
variable {S S':Nat->Prop} {w w1 w2:World}
theorem Kp.trans(h:Kp S w w1)(k:Kp S' w1 w2)(d:∀ b,b<w.heap.size->S' b->S b):Kp S w w2 :=
 ⟨k.os.trans h.os,k.tape.trans h.tape,k.output.trans h.output,ft h.size k.size,fun b a c=>by
  rw[k.block b (fN a h.size) (fun x=>c (d b a x)),h.block b a c]⟩
theorem Kp.ext(h0:Ext w0 w)(h:Kp S w w1)(c:∀ b,S b->w0.heap.size<=b):Ext w0 w1 :=
 ⟨h.os.trans h0.os,h.tape.trans h0.tape,h.output.trans h0.output,ft h0.size h.size,fun b a=>by
  rw[h.block b (fN a h0.size) (fun x=>by have:=c b x;omega),h0.block a]⟩
theorem Kp.mono(h:Kp S w w1)(c:∀ b,b<w.heap.size->S b->S' b):Kp S' w w1:=⟨h.os,h.tape,h.output,h.size,fun b a d=>h.block b a (fun x=>d (c b a x))⟩
theorem Kp.cell(h:Kp S w w1){p:Addr}{v:Value}(hp:w.cell? p=some v)(a:¬ S p.block):w1.cell? p=some v:=by
 rw[il (w:=w) (h.block _ (gT w p hp) a),hp]
theorem Kp.arr(h:Kp S w w1)(a:Arr w g t cs)(b:¬ S g):Arr w1 g t cs:=(h.block g a.lt b).trans a
theorem Kp.own(h:Kp S w w1)(l:Own w base e a n c cs)(o:∀ g,blk a=some g->¬ S g):Own w1 base e a n c cs:=by
 obtain⟨h1,h2⟩:=l;refine⟨h1,?_⟩;rcases h2 with h2|⟨g,b,d,j,m,k,r⟩
 · exact Or.inl h2
 · refine Or.inr ⟨g,b,d,j,m,?_,r⟩;have i:g<w.heap.size:=by
    rcases fS g w.heap.size with h|h
    · exact h
    · simp[gQ h]at k
   have f:blk a=some g:=by
    simp only[fd]at j;rw[j.1];rfl
   rw[h.block g i (o g f),k]
theorem Kp.wd(h:Kp S w w1)(j:Wd w a n c x)(f:0<n->∀ g,blk a=some g->¬ S g):Wd w1 a n c x:=by
 obtain⟨k,h1,h2⟩:=j;refine⟨k,?_,h2⟩;refine⟨Sl.len h1,Sl.cap h1,Sl.max h1,fun h0 => ?_⟩;obtain⟨b,o,rfl,d⟩:=Sl.rd h1 h0;exact⟨b,o,rfl,fun i e=>h.cell (d i e) (f h0 b rfl)⟩
end
theorem WW(a:decide (z<0)=s)(b:decide (y<0)=s):z+y=if s=true then -((z.natAbs+y.natAbs:Nat):Int)else((z.natAbs+y.natAbs:Nat):Int):=by
 subst a;by_cases h1:z<0 <;> by_cases h2:y<0 <;> simp[h1,h2]at b |- <;> omega
theorem VA{t:Bool}(c:decide (z<0)=s)(d:decide (y<0)=t)(a:s≠t)(b:y.natAbs<=z.natAbs):z+y=if s=true then -((z.natAbs-y.natAbs:Nat):Int)else((z.natAbs-y.natAbs:Nat):Int):=by
 subst c;subst d;by_cases h1:z<0 <;> by_cases h2:y<0 <;> simp[h1,h2]at a |- <;> omega
theorem VB{t:Bool}(c:decide (z<0)=s)(d:decide (y<0)=t)(a:s≠t)(b:z.natAbs<y.natAbs):z+y=if t=true then -((y.natAbs-z.natAbs:Nat):Int)else((y.natAbs-z.natAbs:Nat):Int):=by
 subst c;subst d;by_cases h1:z<0 <;> by_cases h2:y<0 <;> simp[h1,h2]at a |- <;> omega
theorem Je{y:Nat}:0<=Bu (x:Int) (y:Int)<->y<=x:=by
 unfold Bu;split
 · omega
 · split <;> omega
theorem JN(h:AQ w v z)(h':AQ w v' y)(bz:z.natAbs<P2 9600)(O:y.natAbs<P2 9600):Calls prog 92 #[v,v'] w (IJ w (z+y)):=by
 obtain⟨s,a,n,c,rfl,HS,hx⟩:=h;obtain⟨t,b,m,d,rfl,HT,hy⟩:=h';have ae:=fun(g:World) (f:Ext w g)=>qh (XH (hx.ext f) (hy.ext f) bz O);have ag:=fun(g:World) (f:Ext w g) (x:y.natAbs<=z.natAbs)=>qh (Wb (hx.ext f) (hy.ext f) bz x);have ah:=fun(g:World) (f:Ext w g) (x:z.natAbs<=y.natAbs)=>qh (Wb (hy.ext f) (hx.ext f) O x);have af:=fun(g:World) (f:Ext w g)=>qh (XI (hx.ext f) (hy.ext f));clear bz O
 go_enter func92,ntmps92
 go_upto_region 1 with(fail)
 refine IG ?_;intro w0 L a0 a3 ai al;have a6:=a0.c 0 rfl;have a7:=a0.c 1 rfl;have a8:=a3.c 0 rfl;have a9:=a3.c 1 rfl;have hR:Arr w0 (w.heap.size+2) 123 (Ae false none 0 0):=ai;clear al;by_cases N:s=t
 · subst N;have aj:(s == s)=true:=by simp
   go_wp2;have Q:=fun(g:World) (f:Ext w0 g)=>qh (And.intro (f.cell a6) (And.intro (f.cell a7) (And.intro (f.cell a8) (f.cell a9))))
   refine Ad
    [hdP w.heap.size 0,hdB s,hdP w.heap.size 1,hdS a n c,hdP (w.heap.size+1) 1,hdS b m d,hp (fun v g=>∃ i k j,v = .slice i k j/\Wd g i k j (z.natAbs+y.natAbs)),hp (fun v g=>∃ p i k j,v = .agg (Ae p i k j).toArray/\Hid (decide (z+y<0)=p)/\Wd g i k j (z+y).natAbs)]
    ⟨fun v w K e ⟨i,k,j,h1,h2⟩=>⟨i,k,j,h1,h2.ext e⟩,fun v w K e ⟨p,i,k,j,h1,h2,h3⟩=>⟨p,i,k,j,h1,h2,h3.ext e⟩,trivial⟩ ⟨?o0,?o1,?o2,?o3,?o4,?o5,?o6,?o7,trivial⟩ ?fin
   case o0=>exact ofa (d:=0)
   case o1 | o3 | o5=>exact ol
   case o2 | o4=>exact ofa (d:=1)
   case o6 =>
    refine Ai rfl fun ρ g f r C h => ?_;have Y:_=_:=h.2.1;have Z:_=_:=h.2.2.1;obtain⟨G,H,I,J⟩:=(Q g f).out;refine⟨132,#[.slice a n c,.slice b m d],by go_simp,((ae g (L.trans f)).out).mono ?_⟩;rintro e K ⟨i,k,j,rfl,l,o⟩;exact⟨_,rfl,l,i,k,j,rfl,o⟩
   case o7 =>
    refine Ai rfl fun ρ g f r C h => ?_;have Y:_=_:=h.2.1;obtain⟨v2,Z,U,n2,W,rfl,X⟩:=h.2.2.1;obtain⟨G,H,I,J⟩:=(Q g f).out;refine⟨131,#[.bool s,.slice U n2 W],by go_simp,(DP X (z:=z+y) (WW HS.out HT.out)).mono ?_⟩;rintro e K ⟨p,i,k,j,rfl,l,E,o⟩;exact⟨_,rfl,l,p,i,k,j,rfl,E,o⟩
   case fin =>
    intro g f;rintro _ ⟨_,_,_,rfl,_⟩;rintro _ ⟨s1,T,n1,V,rfl,A,F⟩;change wpList _ _ _ _ _ _;simp only[CB];have q:=hR.ext f
    go_wp2_with(refine Aa (vs:=Ae s1 T n1 V) rfl rfl rfl rfl rfl Am q rfl (Ao _ _ _ _) ?_;intro w9 B D)
    exact fh (At rfl Am rfl B) rfl (Dj (L.trans f) q (AL _ _ _ _) D (by omega) A F)
 · have aj:(s == t)=false:=by simpa using N
   go_wp2_with fail
   refine(af _ L).out.mono ?_;rintro e w1 ⟨rfl,P⟩;have M:=L.trans P.ext;have a4:=hR.ext P.ext;have aa:=P.ext.cell a6;have ab:=P.ext.cell a7;have ac:=P.ext.cell a8;have ad:=P.ext.cell a9;by_cases x:y.natAbs<=z.natAbs
   · have ak:(0:Int)<=Bu (z.natAbs:Int) (y.natAbs:Int):=Je.2 x;generalize Bu (z.natAbs:Int) (y.natAbs:Int)=cv at *
     go_wp2;have R:=fun(g:World) (f:Ext w1 g)=>qh (And.intro (f.cell aa) (And.intro (f.cell ab) (And.intro (f.cell ac) (f.cell ad))))
     refine Ad
      [hdP w.heap.size 0,hdB s,hdP w.heap.size 1,hdS a n c,hdP (w.heap.size+1) 1,hdS b m d,hp (fun v g=>∃ i k j,v = .slice i k j/\Wd g i k j (z.natAbs-y.natAbs)),hp (fun v g=>∃ p i k j,v = .agg (Ae p i k j).toArray/\Hid (decide (z+y<0)=p)/\Wd g i k j (z+y).natAbs)]
      ⟨fun v w K e ⟨i,k,j,h1,h2⟩=>⟨i,k,j,h1,h2.ext e⟩,fun v w K e ⟨p,i,k,j,h1,h2,h3⟩=>⟨p,i,k,j,h1,h2,h3.ext e⟩,trivial⟩ ⟨?o0,?o1,?o2,?o3,?o4,?o5,?o6,?o7,trivial⟩ ?fin
     case o0=>exact ofa (d:=0)
     case o1 | o3 | o5=>exact ol
     case o2 | o4=>exact ofa (d:=1)
     case o6 =>
      refine Ai rfl fun ρ g f r C h => ?_;have Y:_=_:=h.2.1;have Z:_=_:=h.2.2.1;obtain⟨G,H,I,J⟩:=(R g f).out;refine⟨134,#[.slice a n c,.slice b m d],by go_simp,((ag g (M.trans f) x).out).mono ?_⟩;rintro e K ⟨i,k,j,rfl,l,o⟩;exact⟨_,rfl,l,i,k,j,rfl,o⟩
     case o7 =>
      refine Ai rfl fun ρ g f r C h => ?_;have Y:_=_:=h.2.1;obtain⟨v2,Z,U,n2,W,rfl,X⟩:=h.2.2.1;obtain⟨G,H,I,J⟩:=(R g f).out;refine⟨131,#[.bool s,.slice U n2 W],by go_simp,(DP X (z:=z+y) (VA HS.out HT.out N x)).mono ?_⟩;rintro e K ⟨p,i,k,j,rfl,l,E,o⟩;exact⟨_,rfl,l,p,i,k,j,rfl,E,o⟩
     case fin =>
      intro g f;rintro _ ⟨_,_,_,rfl,_⟩;rintro _ ⟨s1,T,n1,V,rfl,A,F⟩;change wpList _ _ _ _ _ _;simp only[CB];have q:=a4.ext f
      go_wp2_with(refine Aa (vs:=Ae s1 T n1 V) rfl rfl rfl rfl rfl Am q rfl (Ao _ _ _ _) ?_;intro w9 B D)
      exact fh (At rfl Am rfl B) rfl (Dj (M.trans f) q (AL _ _ _ _) D (by omega) A F)
   · have ak:Bu (z.natAbs:Int) (y.natAbs:Int)<0:=by have:=mt Je.1 x;omega
     have a5:z.natAbs<y.natAbs:=by omega
     generalize Bu (z.natAbs:Int) (y.natAbs:Int)=cv at *
     go_wp2;have S:=fun(g:World) (f:Ext w1 g)=>qh (And.intro (f.cell aa) (And.intro (f.cell ab) (And.intro (f.cell ac) (f.cell ad))))
     refine Ad
      [hdP (w.heap.size+1) 0,hdB t,hdP (w.heap.size+1) 1,hdS b m d,hdP w.heap.size 1,hdS a n c,hp (fun v g=>∃ i k j,v = .slice i k j/\Wd g i k j (y.natAbs-z.natAbs)),hp (fun v g=>∃ p i k j,v = .agg (Ae p i k j).toArray/\Hid (decide (z+y<0)=p)/\Wd g i k j (z+y).natAbs)]
      ⟨fun v w K e ⟨i,k,j,h1,h2⟩=>⟨i,k,j,h1,h2.ext e⟩,fun v w K e ⟨p,i,k,j,h1,h2,h3⟩=>⟨p,i,k,j,h1,h2,h3.ext e⟩,trivial⟩ ⟨?o0,?o1,?o2,?o3,?o4,?o5,?o6,?o7,trivial⟩ ?fin
     case o0=>exact ofa (d:=0)
     case o1 | o3 | o5=>exact ol
     case o2 | o4=>exact ofa (d:=1)
     case o6 =>
      refine Ai rfl fun ρ g f r C h => ?_;have Y:_=_:=h.2.1;have Z:_=_:=h.2.2.1;obtain⟨G,H,I,J⟩:=(S g f).out;refine⟨134,#[.slice b m d,.slice a n c],by go_simp,((ah g (M.trans f) (iy a5)).out).mono ?_⟩;rintro e K ⟨i,k,j,rfl,l,o⟩;exact⟨_,rfl,l,i,k,j,rfl,o⟩
     case o7 =>
      refine Ai rfl fun ρ g f r C h => ?_;have Y:_=_:=h.2.1;obtain⟨v2,Z,U,n2,W,rfl,X⟩:=h.2.2.1;obtain⟨G,H,I,J⟩:=(S g f).out;refine⟨131,#[.bool t,.slice U n2 W],by go_simp,(DP X (z:=z+y) (VB HS.out HT.out N a5)).mono ?_⟩;rintro e K ⟨p,i,k,j,rfl,l,E,o⟩;exact⟨_,rfl,l,p,i,k,j,rfl,E,o⟩
     case fin =>
      intro g f;rintro _ ⟨_,_,_,rfl,_⟩;rintro _ ⟨s1,T,n1,V,rfl,A,F⟩;change wpList _ _ _ _ _ _;simp only[CB];have q:=a4.ext f
      go_wp2_with(refine Aa (vs:=Ae s1 T n1 V) rfl rfl rfl rfl rfl Am q rfl (Ao _ _ _ _) ?_;intro w9 B D)
      exact fh (At rfl Am rfl B) rfl (Dj (M.trans f) q (AL _ _ _ _) D (by omega) A F)
theorem KQ(w:World)(cs cs':List Value)(t t':TypeId):Arr ((w.alloc (.cells cs.toArray t)).alloc (.cells cs'.toArray t')) w.heap.size t cs:=(Arr.new w t cs).alloc _
theorem KR(w:World)(cs cs':List Value)(t t':TypeId):Arr ((w.alloc (.cells cs.toArray t)).alloc (.cells cs'.toArray t')) (w.heap.size+1) t' cs':=by
 have:=Arr.new (w.alloc (.cells cs.toArray t)) t' cs';simpa using this
theorem XL(w:World)(o a:Obj):Ext w ((w.alloc o).alloc a):=((Ext.refl w).alloc o).alloc a
theorem WX{t:Bool}(c:decide (z<0)=s)(d:decide (y<0)=t):z.tdiv y=if(s != t)=true then -((z.natAbs/y.natAbs:Nat):Int)else((z.natAbs/y.natAbs:Nat):Int):=by
 subst c;subst d;have h0:∀ x:Int,x<0->x = -(x.natAbs:Int):=fun x h=>by omega
 have h1:∀ x:Int,¬ x<0->x=(x.natAbs:Int):=fun x h=>by omega
 by_cases b:z<0 <;> by_cases a:y<0 <;> simp only[b,a,kQ,ll]
 · rw[h0 z b,h0 y a,Int.neg_tdiv_neg,kd,kd,gF,gF];simp
 · rw[h0 z b,h1 y a,Int.neg_tdiv,kd,gF,gF];simp
 · rw[h1 z b,h0 y a,Int.tdiv_neg,kd,gF,gF];simp
 · rw[h1 z b,h1 y a,gF,gF];simp
theorem WY(b:decide (z<0)=s):z.tmod y=if s=true then -((z.natAbs%y.natAbs:Nat):Int)else((z.natAbs%y.natAbs:Nat):Int):=by
 subst b;have c:z.tmod y=z.tmod (y.natAbs:Int):=by
  rcases Int.natAbs_eq y with h|h
  · rw[<-h]
  · rw[h,Int.tmod_neg,kd,gF]
 rw[c];by_cases a:z<0
 · have h0:z = -(z.natAbs:Int):=by omega
   rw[h0,Int.neg_tmod];simp only[kd,gF];rw[<-h0,ji (by omega)];simp[a]
 · have h0:z=(z.natAbs:Int):=by omega
   rw[h0];simp only[gF];rw[ji (by omega),<-h0];simp[a];rw[<-h0]
def Uv(w:World)(z y:Int)(e:Ending)(w':World):Prop:=∃ s a n c s' a' n' c',e = .returned (.tuple #[.agg (Ae s a n c).toArray,.agg (Ae s' a' n' c').toArray])/\Ext w w'/\(Hid (decide (z<0)=s)/\Wd w' a n c z.natAbs)/\(Hid (decide (y<0)=s')/\Wd w' a' n' c' y.natAbs)
def PM(w:World)(z y:Int)(e:Ending)(w':World):Prop:=∃ s a n c s' a' n' c',e = .returned (.tuple #[.agg (Ae s a n c).toArray,.agg (Ae s' a' n' c').toArray])/\Ext w w'/\(Hid (decide (z<0)=s)/\Wd w' a n c z.natAbs)/\(Hid (decide (y<0)=s')/\Wd w' a' n' c' y.natAbs)/\Hv w.heap.size (fun _=>False) a n
theorem PM.plain{e:Ending}(h:PM w z y e w'):Uv w z y e w':=by
 obtain⟨s,a,n,c,g,b,f,d,h1,h2,h3,h4,_⟩:=h;exact⟨s,a,n,c,g,b,f,d,h1,h2,h3,h4⟩
theorem OL(h:AQ w v z)(h':AQ w v' y)(bz:z.natAbs<P2 9600)(J:y.natAbs<P2 9600)(a6:y≠0):Calls prog 137 #[v,v'] w (PM w (z.tdiv y) (z.tmod y)):=by
 obtain⟨s,a,n,c,rfl,HS,hx⟩:=h;obtain⟨t,b,m,d,rfl,HT,hy⟩:=h';have a1:=fun(i:World) (f:Ext w i)=>qh (XK (hx.ext f) (hy.ext f) bz J (by omega));have ac:((m:Int) == 0)=false:=by have:=hy.zero;simp;omega
 clear bz J a6
 go_enter func137,ntmps137
 go_upto_region 1 with(fail)
 refine XC ?_;intro w0 r K L U V a7;have a8:=K.c 0 rfl;have ad:=K.c 1 rfl;have a9:=L.c 0 rfl;have ae:=L.c 1 rfl;have hR:Arr w0 (w.heap.size+2) 123 (Ae false none 0 0):=U;have Z:Arr w0 (w.heap.size+3) 123 (Ae false none 0 0):=V;clear a7
 go_wp2_with fail
 refine(a1 _ r).out.mono ?_;rintro e w1 ⟨G,I,H,ra,rn,rc,rfl,k,hq,hr,O⟩;have P:=O.of r.size (fun _ h=>h.elim) (S':=fun _=>False);have Y:=r.trans k;have aa:=k.cell a8;have ab:=k.cell a9;go_wp2;have p:=fun(i:World) (f:Ext w1 i)=>qh (And.intro (f.cell aa) (f.cell ab))
 refine Ad
  [hdP w.heap.size 0,hdB s,hdP (w.heap.size+1) 0,hdB t,hdB (s != t),hdS G I H,hp (fun v i=>∃ j,v = .agg (Ae j G I H).toArray/\Hid (decide (z.tdiv y<0)=j)/\Wd i G I H (z.tdiv y).natAbs),hdP w.heap.size 0,hdB s,hdS ra rn rc,hp (fun v i=>∃ j D F E,v = .agg (Ae j D F E).toArray/\Hid (decide (z.tmod y<0)=j)/\Wd i D F E (z.tmod y).natAbs)]
  ⟨fun v w w' e ⟨j,h1,h2,h3⟩=>⟨j,h1,h2,h3.ext e⟩,fun v w w' e ⟨j,D,F,E,h1,h2,h3⟩=>⟨j,D,F,E,h1,h2,h3.ext e⟩,trivial⟩ ⟨?o0,?o1,?o2,?o3,?o4,?o5,?o6,?o7,?o8,?o9,?o10,trivial⟩ ?fin
 case o0 | o2 | o7=>exact ofa (d:=0)
 case o1 | o3 | o8=>exact ol
 case o5 | o9=>exact omv
 case o4 =>
  refine BB rfl fun ρ i f o h => ?_;have e0:_=_:=h.1;have e1:_=_:=h.2.1;obtain⟨Q,R⟩:=(p i f).out;go_simp;cases s <;> cases t <;> rfl
 case o6 =>
  refine Ai rfl fun ρ i f o a3 h => ?_;have e1:_=_:=h.2.1;have e2:_=_:=h.2.2.1;obtain⟨Q,R⟩:=(p i f).out;refine⟨131,#[.bool (s != t),.slice G I H],by go_simp,(FB (hq.ext f) (z:=z.tdiv y) (WX HS.out HT.out)).mono ?_⟩;rintro e w' ⟨j,rfl,q,C,B⟩;exact⟨_,rfl,q,j,rfl,C,B⟩
 case o10 =>
  refine Ai rfl fun ρ i f o a3 h => ?_;have e1:_=_:=h.2.1;have e2:_=_:=h.2.2.1;obtain⟨Q,R⟩:=(p i f).out;refine⟨131,#[.bool s,.slice ra rn rc],by go_simp,(DP (hr.ext f) (z:=z.tmod y) (WY HS.out)).mono ?_⟩;rintro e w' ⟨j,D,F,E,rfl,q,C,B⟩;exact⟨_,rfl,q,j,D,F,E,rfl,C,B⟩
 case fin =>
  intro i f;rintro _ ⟨s1,rfl,S,a4⟩;rintro _ ⟨s2,a2,n2,c2,rfl,T,a5⟩;change wpList _ _ _ _ _ _;simp only[CB];have x:=(hR.ext k).ext f;have a0:=(Z.ext k).ext f
  go_wp2_with(first
   | (refine Aa (vs:=Ae s1 G I H) rfl rfl rfl rfl rfl Am x rfl (Ao _ _ _ _) ?_;intro w9 W l;have A:=a0.kept l (by simp))
   | (refine Aa (vs:=Ae s2 a2 n2 c2) rfl rfl rfl rfl rfl Am A rfl (Ao _ _ _ _) ?_;intro af M g))
  have N:=W.kept g (by simp);have X:=((Y.trans f).grownR l (by omega)).grownR g (by omega);exact fh (PL rfl Am Am rfl rfl N M) rfl ⟨s1,G,I,H,s2,a2,n2,c2,rfl,X,⟨S,(a4.kept x (AL _ _ _ _) l).kept A (AL _ _ _ _) g⟩,⟨T,(a5.kept x (AL _ _ _ _) l).kept A (AL _ _ _ _) g⟩,P⟩
theorem Uw{S:Nat->Prop}(h:AQ w v z)(O:AQ w v' y)(bz:z.natAbs<P2 9600)(p:y.natAbs<P2 9600)(K:y≠0)(hS:Us S v):Calls prog 95 #[v,v'] w (OK w S (z.tdiv y)):=by
 have W:=fun(wx:World) (L:Ext w wx)=>qh (OL (h.ext L) (O.ext L) bz p K);have V:=fun(wx:World) (L:Ext w wx)=>qh (Dd (r:=decide (y=1)) (O.ext L) rfl);clear bz p;obtain⟨s,a,n,c,rfl,HS,hx⟩:=h;obtain⟨t,b,m,d,rfl,HT,hy⟩:=O
 go_enter func95,ntmps95
 go_upto_region 1 with(fail)
 refine IG ?_;intro w0 B q x P Z;have a0:=q.c 0 rfl;have a3:=q.c 1 rfl;have a4:=x.c 0 rfl;have a5:=x.c 1 rfl;have hR:Arr w0 (w.heap.size+2) 123 (Ae false none 0 0):=P;clear Z K
 go_wp2_with fail
 refine(V _ B).out.mono ?_;rintro e w1 ⟨rfl,f⟩;have i:=B.trans f;have a6:=f.cell a0;have a7:=f.cell a3;have a8:=f.cell a4;have a9:=f.cell a5;have l:=hR.ext f;by_cases h1:y=1
 · have G:decide (y=1)=true:=by simpa using h1
   have HV:Hid (z.tdiv y=z):=by show _=_;rw[h1,md]
   rw[G];clear G h1
   go_wp2_with(refine Aa (vs:=Ae s a n c) rfl rfl rfl rfl rfl Am l rfl (Ao _ _ _ _) ?_;intro w9 j o)
   refine fh (At rfl Am rfl j) rfl ?_;rw[HV.out];exact KP i l (AL _ _ _ _) o (by omega) HS (hx.ext i) (fun h0 g hg=>Or.inr (hS.at h0 g hg))
 · have G:decide (y=1)=false:=by simpa using h1
   rw[G];clear G h1
   go_wp2_with fail
   refine(W _ i).out.mono ?_;rintro e M ⟨s1,a1,n1,c1,s2,a2,n2,c2,rfl,C,⟨N,X⟩,_,J⟩;have D:=l.ext C;have aa:=D.lt;clear a6 a7 a8 a9;have F:=KQ M (Ae false none 0 0) (Ae false none 0 0) 123 123;have T:=KR M (Ae false none 0 0) (Ae false none 0 0) 123 123;have R:=XL M (.cells (Ae false none 0 0).toArray 123) (.cells (Ae false none 0 0).toArray 123)
   go_upto_region 4 with(first
    | (refine Aa (vs:=Ae s1 a1 n1 c1) rfl rfl rfl rfl rfl Am F rfl (Ao _ _ _ _) ?_;intro w3 Q H;have U:=T.kept H (by simp);clear F)
    | (refine Aa (vs:=Ae s2 a2 n2 c2) rfl rfl rfl rfl rfl Am U rfl (Ao _ _ _ _) ?_;intro w4 ab I))
   have k:Ext M w4:=((R.grownR H (lrf _)).grownR I (by omega));have A:=Q.kept I (by simp);have E:=D.ext k;have Y:=X.ext k;have q0:=A.c 0 rfl;have q1:=A.c 1 rfl
   go_wp2_with(refine Aa (vs:=Ae s1 a1 n1 c1) rfl rfl rfl rfl rfl Am E rfl (Ao _ _ _ _) ?_;intro w9 j o)
   exact fh (At rfl Am rfl j) rfl (KP ((i.trans C).trans k) E (AL _ _ _ _) o (by omega) N Y (J.of i.size (fun _ h=>h.elim)))
theorem FW(h:AQ w v z)(d:AQ w v' y)(c:z.natAbs<P2 9600)(a:y.natAbs<P2 9600)(b:y≠0):Calls prog 95 #[v,v'] w (IJ w (z.tdiv y)) :=
 (Uw (S:=fun _=>True) h d c a b (fun _ _ _ _ _ _ _ _=>trivial)).mono fun _ _ h=>h.plain
end Go.Proofs.YthdbingomfdeoaaGreatDoor
namespace Go.Proofs.YthdbingomfdeoaaGreatDoor.Pl
variable {x y:Int} {b c e:List Int} {d n:Nat} {a q:Rat}
abbrev Tm:=List Int×Rat
def coef:List Tm->List Int->Rat
 | [],_=>0
 | t :: r,e=>(if t.1=e then t.2 else 0)+coef r e
def lin(F:List Int->Rat):List Tm->Rat
 | []=>0
 | t :: r=>t.2*F t.1+lin F r
theorem coef_app(a b:List Tm)(e:List Int):coef (a ++ b) e=coef a e+coef b e:=by
 induction a with
 | nil=>simp[coef];grind
 | cons t r ih=>simp only[jh,coef,ih];grind
theorem lin_app(F:List Int->Rat)(a b:List Tm):lin F (a ++ b)=lin F a+lin F b:=by
 induction a with
 | nil=>simp[lin];grind
 | cons t r ih=>simp only[jh,lin,ih];grind
theorem coef_perm{a b:List Tm}(h:a.Perm b)(e:List Int):coef a e=coef b e:=by
 induction h with
 | nil=>rfl
 | cons t _ ih=>simp only[coef,ih]
 | swap s t l=>simp only[coef];grind
 | trans _ _ h1 h2=>rw[h1,h2]
theorem coef_lin(l:List Tm)(e:List Int):coef l e=lin (fun m=>if m=e then 1 else 0) l:=by
 induction l with
 | nil=>rfl
 | cons t r ih =>
  simp only[coef,lin,ih];by_cases h:t.1=e <;> simp[h]
theorem OM(l:List Tm)(m e:List Int):coef (l.filter (fun t=>decide (t.1≠m))) e=if e=m then 0 else coef l e:=by
 induction l with
 | nil=>simp[coef]
 | cons t r ih =>
  by_cases h:t.1=m
  · rw[List.filter_cons_of_neg (by simp[h]),ih];by_cases he:e=m
    · simp[he]
    · simp only[fl he,coef];rw[fl (by rw[h];exact fun x=>he x.symm)]
      grind
  · rw[List.filter_cons_of_pos (by simp[h])];simp only[coef,ih];by_cases he:e=m
    · subst he;simp[h];grind
    · simp[he]
theorem PN(F:List Int->Rat)(l:List Tm)(m:List Int):lin F l=coef l m*F m+lin F (l.filter (fun t=>decide (t.1≠m))):=by
 induction l with
 | nil=>simp[coef,lin];grind
 | cons t r ih =>
  by_cases h:t.1=m
  · rw[List.filter_cons_of_neg (by simp[h])];simp only[coef,lin,h];rw[ih]
    grind
  · rw[List.filter_cons_of_pos (by simp[h])];simp only[coef,lin,fl h];rw[ih]
    grind
theorem ON(F:List Int->Rat):∀ (n:Nat) (l:List Tm),l.length<=n->(∀ e,coef l e=0)->lin F l=0
 | 0,l,h,_=>by
  have:l=[]:=fk (by omega);subst this;rfl
 | n+1,[],_,_=>rfl
 | n+1,t :: r,h,hz=>by
  rw[PN F (t :: r) t.1,hz t.1];have h1:((t :: r).filter (fun s=>decide (s.1≠t.1))).length<=n:=by
   rw[List.filter_cons_of_neg (by simp)];have:=List.length_filter_le (fun s:Tm=>decide (s.1≠t.1)) r;simp at h;omega
  rw[ON F n _ h1 (fun e=>by
   rw[OM,hz e]
   split <;> rfl)]
  grind
def scl(c:Rat)(l:List Tm):List Tm:=l.map (fun t=>(t.1,c*t.2))
theorem Ux(c:Rat)(l:List Tm)(e:List Int):coef (scl c l) e=c*coef l e:=by
 induction l with
 | nil=>simp[scl,coef]
 | cons t r ih =>
  have:scl c (t :: r)=(t.1,c*t.2) :: scl c r:=rfl;rw[this];simp only[coef,ih];by_cases h:t.1=e <;> simp[h] <;> grind
theorem VC(F:List Int->Rat)(c:Rat)(l:List Tm):lin F (scl c l)=c*lin F l:=by
 induction l with
 | nil=>simp[scl,lin]
 | cons t r ih =>
  have:scl c (t :: r)=(t.1,c*t.2) :: scl c r:=rfl;rw[this];simp only[lin,ih]
  grind
theorem lin_ext{F:List Int->Rat}{a b:List Tm}(h:∀ e,coef a e=coef b e):lin F a=lin F b:=by
 have h1:=ON F _ (a ++ scl (-1) b) (lrf _) (fun e=>by rw[coef_app,Ux,h e];grind);rw[lin_app,VC]at h1
 grind
def cmpI(x y:Int):Int:=if x<y then -1 else if y<x then 1 else 0
theorem cmpI_zero:cmpI x y=0<->x=y:=by unfold cmpI;split <;> (try split) <;> omega
theorem cmpI_pos:0<cmpI x y<->y<x:=by unfold cmpI;split <;> (try split) <;> omega
theorem OO:cmpI y x = -cmpI x y:=by unfold cmpI;split <;> (try split) <;> omega
def ordR:List Int->List Int->Int
 | x :: r,y :: s=>if x=y then ordR r s else cmpI y x
 | _,_=>0
def ordE(a b:List Int):Int:=if a.sum=b.sum then ordR a.reverse b.reverse else cmpI a.sum b.sum
theorem L9:∀ a:List Int,ordR a a=0
 | []=>rfl
 | x :: r=>by simp[ordR,L9 r]
theorem QP:∀ {a b:List Int},a.length=b.length->ordR a b=0->a=b
 | [],[],_,_=>rfl
 | x :: r,y :: s,hl,h=>by
  by_cases e:x=y
  · simp only[ordR,fG e]at h;rw[e,QP (by simpa using hl) h]
  · simp only[ordR,fl e]at h;exact absurd (cmpI_zero.1 h).symm e
theorem Ma:∀ (a b:List Int),ordR b a = -ordR a b
 | [],[]=>by simp[ordR]
 | [],_ :: _=>by simp[ordR]
 | _ :: _,[]=>by simp[ordR]
 | x :: r,y :: s=>by
  by_cases e:x=y
  · simp only[ordR,fG e,fG e.symm];exact Ma r s
  · simp only[ordR,fl e,fl (fun h:y=x=>e h.symm)];exact OO
theorem KS:∀ {a b c:List Int},0<ordR a b->0<ordR b c->0<ordR a c
 | x :: r,y :: s,z :: t,h1,h2=>by
  by_cases e1:x=y
  · subst e1;by_cases e2:x=z
    · subst e2;simp only[ordR,ke]at h1 h2 |-;exact KS h1 h2
    · simp only[ordR,fl e2]at h2 |-;exact h2
  · simp only[ordR,fl e1]at h1;by_cases e2:y=z
    · subst e2;simp only[ordR,fl e1];exact h1
    · simp only[ordR,fl e2]at h2;have g1:=cmpI_pos.1 h1;have d:=cmpI_pos.1 h2;simp only[ordR,fl (show ¬ x=z by omega)];exact cmpI_pos.2 (by omega)
 | [],_,_,h1,_=>by simp[ordR]at h1
 | _ :: _,[],_,h1,_=>by simp[ordR]at h1
 | _ :: _,_ :: _,[],_,h2=>by simp[ordR]at h2
theorem ordE_self(a:List Int):ordE a a=0:=by simp[ordE,L9]
theorem ordE_eq{a:List Int}(c:a.length=b.length)(h:ordE a b=0):a=b:=by
 unfold ordE at h;split at h
 · exact List.reverse_inj.1 (QP (by simpa using c) h)
 · rename_i d;exact absurd (cmpI_zero.1 h) d
theorem ordE_anti(a b:List Int):ordE b a = -ordE a b:=by
 unfold ordE;by_cases h:a.sum=b.sum
 · rw[fG h,fG h.symm];exact Ma _ _
 · rw[fl h,fl (fun x=>h x.symm)];exact OO
theorem ordE_trans{a:List Int}(h1:0<ordE a b)(h2:0<ordE b c):0<ordE a c:=by
 unfold ordE at *
 by_cases e:a.sum=b.sum
 · rw[fG e]at h1;by_cases d:b.sum=c.sum
   · rw[fG d]at h2;rw[fG (e.trans d)];exact KS h1 h2
   · rw[fl d]at h2;rw[fl (fun h=>d (e.symm.trans h)),e];exact h2
 · rw[fl e]at h1;have f:=cmpI_pos.1 h1;by_cases d:b.sum=c.sum
   · rw[fl (fun h=>e (h.trans d.symm)),<-d];exact h1
   · rw[fl d]at h2;have g:=cmpI_pos.1 h2;rw[fl (by omega)];exact cmpI_pos.2 (by omega)
structure Canon(n:Nat)(l:List Tm):Prop where
 len:∀ t∈l,t.1.length=n
 nz:∀ t∈l,t.2≠0
 desc:l.Pairwise (fun s t=>0<ordE s.1 t.1)
theorem Canon.nil(n:Nat):Canon n []:=⟨by simp,by simp,List.Pairwise.nil⟩
theorem Canon.tail{t:Tm}{r:List Tm}(h:Canon n (t :: r)):Canon n r :=
 ⟨fun s a=>h.len s (by simp[a]),fun s a=>h.nz s (by simp[a]),(j3.1 h.desc).2⟩
theorem coef_absent{l:List Tm}(h:∀ t∈l,t.1≠e):coef l e=0:=by
 induction l with
 | nil=>rfl
 | cons t r ih =>
  simp only[coef,fl (h t (by simp)),ih (fun s a=>h s (by simp[a]))]
  grind
theorem coef_present{l:List Tm}(h:coef l e≠0):∃ t∈l,t.1=e:=by
 refine fR fun a=>h (coef_absent fun t b he=>a ⟨t,b,he⟩)
theorem Canon.head{t:Tm}{r:List Tm}(h:Canon n (t :: r)):coef (t :: r) t.1=t.2:=by
 have:coef r t.1=0:=coef_absent fun s a he=>by
  have:=(j3.1 h.desc).1 s a;rw[he,ordE_self]at this;omega
 simp only[coef,ke,this]
 grind
theorem Canon.above{t:Tm}{r:List Tm}(h:Canon n (t :: r)){e:List Int}(he:coef (t :: r) e≠0):e=t.1\/0<ordE t.1 e:=by
 obtain⟨s,a,rfl⟩:=coef_present he;rcases fV.1 a with rfl|a
 · exact Or.inl rfl
 · exact Or.inr ((j3.1 h.desc).1 s a)
theorem canon_ext{n:Nat}:∀ {a b:List Tm},Canon n a->Canon n b->(∀ e,coef a e=coef b e)->a=b
 | [],[],_,_,_=>rfl
 | [],t :: r,_,hb,e=>by
  have h1:=hb.head;rw[<-e]at h1;exact absurd h1.symm (hb.nz t (by simp))
 | t :: r,[],ha,_,e=>by
  have h1:=ha.head;rw[e]at h1;exact absurd h1.symm (ha.nz t (by simp))
 | s :: a,t :: b,ha,hb,e=>by
  have h1:=ha.head;have h2:=hb.head;have i:coef (t :: b) s.1≠0:=by rw[<-e,h1];exact ha.nz s (by simp)
  have j:coef (s :: a) t.1≠0:=by rw[e,h2];exact hb.nz t (by simp)
  have f:s.1=t.1:=by
   rcases hb.above i with h|h
   · exact h
   · rcases ha.above j with d | d
     · exact d.symm
     · have:=ordE_anti s.1 t.1;omega
  have g:s.2=t.2:=by rw[<-h1,<-h2,e,f]
  have c:s=t:=Prod.ext f g;subst c
  rw[canon_ext ha.tail hb.tail (fun x=>by
   have:=e x;simp only[coef]at this
   grind)]
theorem rat_mul_parts(a b:Rat):(a*b).num=a.num.tdiv (a.num.natAbs.gcd b.den:Nat)*b.num.tdiv (b.num.natAbs.gcd a.den:Nat)/\(a*b).den=a.den/(b.num.natAbs.gcd a.den)*(b.den/(a.num.natAbs.gcd b.den)):=by
 have h:a*b=Rat.mul a b:=rfl;rw[h,Rat.mul];simp only[Int.divExact_eq_tdiv,Nat.divExact_eq_div,and_self]
theorem rat_mul_whole(a b:Rat)(c:a.den=1)(d:b.den=1):(a*b).num=a.num*b.num/\(a*b).den=1:=by
 have:=rat_mul_parts a b;rw[c,d]at this;simpa using this
theorem rat_add_parts(a b:Rat) :
 (a+b).num=(a.num*((b.den/a.den.gcd b.den:Nat):Int)+b.num*((a.den/a.den.gcd b.den:Nat):Int)).tdiv (((a.num*((b.den/a.den.gcd b.den:Nat):Int)+b.num*((a.den/a.den.gcd b.den:Nat):Int)).natAbs.gcd (a.den.gcd b.den):Nat):Int) /\
 (a+b).den=(a.den/a.den.gcd b.den)*(b.den/((a.num*((b.den/a.den.gcd b.den:Nat):Int)+b.num*((a.den/a.den.gcd b.den:Nat):Int)).natAbs.gcd (a.den.gcd b.den))):=by
 have h:a+b=Rat.add a b:=rfl
 have c:∀ N:Nat,(a.den/a.den.gcd b.den)*(b.den/(N.gcd (a.den.gcd b.den)))=(a.den/a.den.gcd b.den)*b.den/(N.gcd (a.den.gcd b.den)):=fun N =>
  (lG _ (jz (jb _ _) (jb _ _))).symm
 rw[c,h,Rat.add];simp only;split
 · rename_i d;simp[d]
 · rw[Rat.maybeNormalize_eq];exact⟨Int.divExact_eq_tdiv (Int.ofNat_dvd_left.2 (jK _ _)),rfl⟩
theorem rat_eq_mk{n:Int}(a:d≠0)(b:n.natAbs.Coprime d)(h:q=mkRat n d):q.num=n/\q.den=d:=by
 rw[h,Rat.num_mkRat,Rat.den_mkRat,fl a,fl a];have h1:d.gcd n.natAbs=1:=by rw[jB];exact b
 simp[h1]
theorem rat_num_den_zero:q.num=0<->q=0:=Rat.num_eq_zero
theorem rat_frac{n:Int}(a:d≠0):(mkRat n d).num=n.tdiv (n.natAbs.gcd d:Nat)/\(mkRat n d).den=d/(n.natAbs.gcd d):=by
 rw[Rat.num_mkRat,Rat.den_mkRat,fl a,fl a,jB];refine⟨?_,rfl⟩;have h:((n.natAbs.gcd d:Nat):Int)∣n:=by
  have:=jK n.natAbs d;exact Int.ofNat_dvd_left.2 this
 exact(Int.tdiv_eq_ediv_of_dvd h).symm
theorem rat_inv_pos(h:0<a.num):(a⁻¹).num=a.den/\(a⁻¹).den=a.num.natAbs:=by
 have h1:a⁻¹=Rat.inv a:=rfl;rw[h1,Rat.inv];rw[dif_neg (by omega),dif_pos h];exact⟨rfl,rfl⟩
theorem rat_inv_neg(h:a.num<0):(a⁻¹).num = -(a.den:Int)/\(a⁻¹).den=a.num.natAbs:=by
 have h1:a⁻¹=Rat.inv a:=rfl;rw[h1,Rat.inv];rw[dif_pos h];exact⟨rfl,rfl⟩
theorem rat_inv_zero:(0:Rat)⁻¹=0:=by simp
def Se(m:List Int):Rat->List Tm->Rat
 | c,[]=>c
 | c,t :: r=>if m=t.1 then Se m (c+t.2) r else c
def PQ(m:List Int):List Tm->List Tm
 | []=>[]
 | t :: r=>if m=t.1 then PQ m r else t :: r
theorem Jf(m:List Int):∀ l:List Tm,(PQ m l).length<=l.length
 | []=>lrf _
 | t :: r=>by
  unfold PQ;split
  · have:=Jf m r;simp;omega
  · exact lrf _
def grp(l:List Tm):List Tm :=
 match l with
 | []=>[]
 | t :: r=>(if Se t.1 t.2 r=0 then []else [(t.1,Se t.1 t.2 r)]) ++ grp (PQ t.1 r)
termination_by l.length
decreasing_by
 have:=Jf t.1 r;simp;omega
theorem VD:grp []=[]:=by rw[grp]
def desc(l:List Tm):Prop:=l.Pairwise (fun s t=>0<=ordE s.1 t.1)
theorem canon_of_sorted{l:List Tm}(c:∀ t∈l,t.1.length=n)(f:∀ t∈l,t.2≠0)(g:desc l)(i:(l.map (·.1)).Nodup):Canon n l:=by
 refine⟨c,f,?_⟩
 induction l with
 | nil=>exact List.Pairwise.nil
 | cons t r ih =>
  have a:=j3.1 g;have b:=gG.1 i;refine j3.2 ⟨fun s d => ?_,ih (fun x e=>c x (by simp[e])) (fun x e=>f x (by simp[e])) a.2 b.2⟩;have h1:=a.1 s d
  have h2:ordE t.1 s.1≠0:=fun h0=>b.1 (by
   show t.1∈_;rw[ordE_eq (by rw[c t (by simp),c s (by simp[d])]) h0]
   exact gJ d)
  omega
end Go.Proofs.YthdbingomfdeoaaGreatDoor.Pl
