/- Part Pq28. -/
import Derived.Test.YtlbmnokpiilfpaaGreatDoorPq27
import Derived.Test.YtlbmnokpiilfpaaGreatDoorPq17

set_option linter.all false
set_option maxRecDepth 100000
set_option maxHeartbeats 100000000
namespace Go.Proofs.YtlbmnokpiilfpaaGreatDoor
open Tryz Go Go.RowKit
def lZ:=@Option.some.inj
def oB:=@List.take_succ_cons
def oc:=@Rat.add_zero
variable {N b0 n:Nat}
theorem VO(h:2<=n):n/2<n/\n-n/2<n/\n/2<=n:=by omega
theorem Nf(hN:N<=12):∀ (n:Nat) {a:Option Addr} {c:Nat} {l:List Pl.Tm} {w:World},TSl w b0 a n c l->TB N l->b0<=w.heap.size->n<=100000 ->
 Calls prog 153 #[.slice a n c] w (Yl w b0 l):=by
 intro n
 induction n using Nat.strongRecOn with
 | ind n ih =>
 intro a c l w h hb hw hn;by_cases h2:n<2
 · have aG:(n:Int)<2:=by omega
   have aX:=h.len;have hd:Pl.desc l:=by
    match l,aX with
    | [],_=>exact List.Pairwise.nil
    | [x],_=>exact List.pairwise_singleton _ _
    | x :: y :: r,hl=>simp at hl;omega
   clear ih hb hw
   go_enter func153,ntmps153
   go_wp2;go_ret;exact⟨a,n,c,l,rfl,Ext.refl w,h,mN _,hd⟩
 · have aG:¬ (n:Int)<2:=by omega
   obtain⟨am,an,aa⟩:=VO (n:=n) (by omega);have aS:=h.le;obtain⟨q,hq⟩:∃ q,n/2=q:=⟨_,rfl⟩;have aY:(n:Int).tdiv 2=(q:Int):=by rw[j3 (by omega),<-hq];rfl
   rw[hq]at am an aa;have aN:q<=c:=by omega
   have H1:=h.to aa;have H2:=h.fr aa;have B1:TB N (l.take q):=fun t ht=>hb t (kU ht);have B2:TB N (l.drop q):=fun t ht=>hb t (mh ht);have aO:=qh (fun(f:World) (b:Ext w f)=>ih q am (H1.ext b) B1 (gJ hw b.size) (by omega));have aP:=qh (fun(f:World) (b:Ext w f)=>ih (n-q) an (H2.ext b) B2 (gJ hw b.size) (by omega));have aB:Hid (l.take q ++ l.drop q=l):=qh (jN q l);have aT:=qh hb;have aL:(l.take q).length=q:=H1.len;have aM:(l.drop q).length=n-q:=H2.len;generalize l.take q=u1 at *
   generalize l.drop q=u2 at *
   clear ih hq am an H1 H2 h hb
   go_enter func153,ntmps153
   go_upto_region 3 with(fail)
   refine Ab (by kernel_rfl) (fun f=>Ext w f)
    [he (.slice a n c),
 he (.slice a n c),
 he (.int .i64 n),
 he (.int .i64 (q:Int)),
 he (.slice a q c),
 hp (fun v f=>∃ a' n' c' Y,v = .slice a' n' c'/\TSl f b0 a' n' c' Y/\Y.Perm u1/\Pl.desc Y),
 he (.slice a n c),
 he (.slice a n c),
 he (.int .i64 n),
 he (.int .i64 (q:Int)),
 he (.slice (if c=q then a else a.map (fun x=>x.add (q*5))) (n-q) (c-q)),
 hp (fun v f=>∃ a' n' c' Y,v = .slice a' n' c'/\TSl f b0 a' n' c' Y/\Y.Perm u2/\Pl.desc Y)]
    (by kernel_rfl) (fun _ _ e h=>h.trans e) ((Ext.refl w).drew) ⟨trivial,trivial,trivial,trivial,trivial,fun v w w' e ⟨a',n',c',Y,h1,h2,h3⟩=>⟨a',n',c',Y,h1,h2.ext e,h3⟩,trivial,trivial,trivial,trivial,trivial,fun v w w' e ⟨a',n',c',Y,h1,h2,h3⟩=>⟨a',n',c',Y,h1,h2.ext e,h3⟩,trivial⟩ ⟨?o0,?o1,?o2,?o3,?o4,?o5,?o6,?o7,?o8,?o9,?o10,?o11,trivial⟩ ?fin
   case o0 | o1 | o6 | o7=>exact omv
   case o2 =>
    refine Aj rfl fun z f b m h => ?_;have e0:z (.tmp 13)=(.slice a n c):=h.1;go_simp
   case o3 =>
    refine Aj rfl fun z f b m h => ?_;have e0:z (.tmp 14)=(.int .i64 n):=h.1;go_simp
    try (first | (intros;omega) | exact gI _ (by omega))
   case o4 =>
    exact Lr rfl rfl underlying42 B8 (fun _ _ _ h=>⟨h.1,h.2.1⟩) aN
   case o5 =>
    refine Ag rfl fun z f b m aH h => ?_;have e1:z (.tmp 16)=(.slice a q c):=h.2.1;refine⟨153,#[.slice a q c],by go_simp,(aO.out f b).mono ?_⟩;rintro e w' ⟨a',n',c',Y,rfl,ag,av,ar,aj⟩;exact⟨_,rfl,ag,a',n',c',Y,rfl,av,ar,aj⟩
   case o8 =>
    refine Aj rfl fun z f b m h => ?_;have e0:z (.tmp 19)=(.slice a n c):=h.1;go_simp
   case o9 =>
    refine Aj rfl fun z f b m h => ?_;have e0:z (.tmp 20)=(.int .i64 n):=h.1;go_simp
    try (first | (intros;omega) | exact gI _ (by omega))
   case o10 =>
    exact Ja rfl rfl underlying42 B8 (fun _ _ _ h=>⟨h.1,h.2.1⟩) aa
   case o11 =>
    refine Ag rfl fun z f b m aH h => ?_;have e1:z (.tmp 22)=(.slice (if c=q then a else a.map (fun x=>x.add (q*5))) (n-q) (c-q)):=h.2.1;refine⟨153,#[.slice (if c=q then a else a.map (fun x=>x.add (q*5))) (n-q) (c-q)],by go_simp,(aP.out f b).mono ?_⟩;rintro e w' ⟨a',n',c',Y,rfl,ag,av,ar,aj⟩;exact⟨_,rfl,ag,a',n',c',Y,rfl,av,ar,aj⟩
   case fin =>
    intro f b;rintro _ ⟨a1,Z,c1,l1,rfl,t1,p1,P⟩;rintro _ ⟨a2,J,c2,l2,rfl,t2,p2,Q⟩;change wpList _ _ _ _ _ _;simp only[lq,lw,lx,lz,Act.put,lj,lk,ly];have a4:=b;have a8:=B1.perm p1;have a9:=B2.perm p2;have b4:Z+J<=100000:=by
     have e1:Z=q:=by rw[<-t1.len,p1.length_eq,aL]
     have e2:J=n-q:=by rw[<-t2.len,p2.length_eq,aM]
     omega
    have HP:Hid (∀ o:List Pl.Tm,o.Perm (l1 ++ l2)->o.Perm l):=qh (fun o ho=>by rw[<-aB.out];exact ho.trans (p1.append p2));have aC:Hid (Pl.MS N l1 l2 [] 0 0):=qh (Pl.MS.start P Q (fun t ht=>(a8 t ht).1) (fun t ht=>(a9 t ht).1));clear aL aM p1 p2 P Q B1 B2 aO aP aY aN aS h2 aG aB aT;generalize aZ:f=w3 at *
    clear aZ b;generalize (if c=q then a else a.map (fun x=>x.add (q * 5)))=b1 at *
    go_wp2
    go_loopw[5,6,7] (fun ov iv kv wr=>∃ (ao:Option Addr) (no co:Nat) (lo:List Pl.Tm) (i k:Nat),ov = .slice ao no co/\iv = .int .i64 i/\kv = .int .i64 k/\i<=Z/\k<=J/\no<=i+k/\Ext w3 wr/\Hid (TO wr b0 w3.heap.size ao no co lo)/\Hid (Pl.MS N l1 l2 lo i k)) (fun _ iv kv _=>Z+J-(intOf iv+intOf kv).toNat)
    case atStart=>exact⟨none,0,0,[],0,0,rfl,rfl,rfl,gO _,gO _,gO _,Ext.refl _,qh (TO.nil _ _ _),aC⟩
    case round =>
     clear aC;obtain⟨ao,no,co,lo,i,k,rfl,rfl,rfl,b2,b3,b5,hE,HO,HM⟩:=hrel;by_cases hi:i<Z
     · have aW:(i:Int)<Z:=by omega
       by_cases G:k<J
       · have ay:((k:Int) == (J:Int))=false:=by simp;omega
         have aJ:(k:Int)<J:=by omega
         obtain⟨H,K,aQ,s1,x1,m1,P,y1,g1,h1,p,aw,M,rfl,a5,D,ae,ap,ak,a0⟩:=(t1.ext hE).row hi;have ab:N=aw:=by have h1:=a0.1.len;have h2:=(a8.get (i:=i) (by rw[t1.len];exact hi)).1;omega
         subst ab;have aE:wr.cell? ⟨H,K+i*5+4,none⟩=some (.slice p N M):=by have:=a5.cl hi (j:=4) (by omega);rw[D]at this;exact this
         obtain⟨I,L,aR,s2,x2,m2,Q,y2,g2,h2,s,ax,O,rfl,a6,E,af,aq,al,a3⟩:=(t2.ext hE).row G;have ac:N=ax:=by have h1:=a3.1.len;have h2:=(a9.get (i:=k) (by rw[t2.len];exact G)).1;omega
         subst ac;have aF:wr.cell? ⟨I,L+k*5+4,none⟩=some (.slice s N O):=by have:=a6.cl G (j:=4) (by omega);rw[E]at this;exact this
         have az:=qh (fun(wy:World) (b:Ext wr wy)=>FN (a0.1.ext b) (a3.1.ext b) hN (a8.get (i:=i) (by rw[t1.len];exact hi)).2 (a9.get (i:=k) (by rw[t2.len];exact G)).2);obtain⟨r,hr⟩:∃ r,Pl.ordE (l1.getD i tz).1 (l2.getD k tz).1=r:=⟨_,rfl⟩;have HR:=qh hr;rw[hr]at az;clear hr;obtain⟨bb,ai⟩:∃ bb,decide (0<=r)=bb:=⟨_,rfl⟩
         go_upto_region 7 with(fail)
         have F:=fun(f:World) (b:Ext wr f)=>qh (And.intro (b.cell aE) (b.cell aF))
         refine Ab (by kernel_rfl) (fun f=>Ext wr f)
          [he (.int .i64 (k:Int)),
 he (.slice (some ⟨I,L,none⟩) J c2),
 he (.int .i64 J),
 he (.bool false),
 he (.bool false),
 he (.int .i64 (i:Int)),
 he (.slice (some ⟨H,K,none⟩) Z c1),
 he (.int .i64 Z),
 he (.bool true),
 he (.bool true),
 he (.slice (some ⟨H,K,none⟩) Z c1),
 he (.int .i64 (i:Int)),
 he (.pointer (some ⟨H,(K+i*5),none⟩)),
 he (.pointer (some ⟨H,((K+i*5)+4),none⟩)),
 he (.slice p N M),
 he (.slice (some ⟨I,L,none⟩) J c2),
 he (.int .i64 (k:Int)),
 he (.pointer (some ⟨I,(L+k*5),none⟩)),
 he (.pointer (some ⟨I,((L+k*5)+4),none⟩)),
 he (.slice s N O),
 hp (fun v f=>v = .int .i64 r),
 he (.bool bb),
 he (.bool bb),
 he (.bool bb)]
          (by kernel_rfl) (fun _ _ e h=>h.trans e) ((Ext.refl wr).drew) ⟨trivial,trivial,trivial,trivial,trivial,trivial,trivial,trivial,trivial,trivial,trivial,trivial,trivial,trivial,trivial,trivial,trivial,trivial,trivial,trivial,fun v w w' e h=>h,trivial,trivial,trivial,trivial⟩ ⟨?o0,?o1,?o2,?o3,?o4,?o5,?o6,?o7,?o8,?o9,?o10,?o11,?o12,?o13,?o14,?o15,?o16,?o17,?o18,?o19,?o20,?o21,?o22,?o23,trivial⟩ ?fin
         case o0 | o1 | o4 | o5 | o6 | o9 | o10 | o11 | o15 | o16=>exact omv
         case o13 | o18=>exact ofa (d:=4)
         case o14 | o19=>exact ol
         case o2 =>
          refine Aj rfl fun z f b m h => ?_;have e0:z (.tmp 35)=(.slice (some ⟨I,L,none⟩) J c2):=h.1;obtain⟨kx,ky⟩:=(F f b).out;go_simp
         case o3 =>
          refine Aj rfl fun z f b m h => ?_;have e0:z (.tmp 34)=(.int .i64 (k:Int)):=h.1;have e1:z (.tmp 36)=(.int .i64 J):=h.2.1;obtain⟨kx,ky⟩:=(F f b).out;go_simp
          try (first | (intros;omega) | exact gI _ (by omega))
         case o7 =>
          refine Aj rfl fun z f b m h => ?_;have e0:z (.tmp 40)=(.slice (some ⟨H,K,none⟩) Z c1):=h.1;obtain⟨kx,ky⟩:=(F f b).out;go_simp
         case o8 =>
          refine Aj rfl fun z f b m h => ?_;have e0:z (.tmp 39)=(.int .i64 (i:Int)):=h.1;have e1:z (.tmp 41)=(.int .i64 Z):=h.2.1;obtain⟨kx,ky⟩:=(F f b).out;go_simp
          try (first | (intros;omega) | exact gI _ (by omega))
         case o12 =>
          refine Aj rfl fun z f b m h => ?_;have e0:z (.tmp 44)=(.slice (some ⟨H,K,none⟩) Z c1):=h.1;have e1:z (.tmp 45)=(.int .i64 (i:Int)):=h.2.1;obtain⟨kx,ky⟩:=(F f b).out;go_simp
          try (first | (intros;omega) | exact gI _ (by omega))
         case o17 =>
          refine Aj rfl fun z f b m h => ?_;have e0:z (.tmp 49)=(.slice (some ⟨I,L,none⟩) J c2):=h.1;have e1:z (.tmp 50)=(.int .i64 (k:Int)):=h.2.1;obtain⟨kx,ky⟩:=(F f b).out;go_simp
          try (first | (intros;omega) | exact gI _ (by omega))
         case o20 =>
          refine Ag rfl fun z f b m aH h => ?_;have e1:z (.tmp 48)=(.slice p N M):=h.2.1;have e2:z (.tmp 53)=(.slice s N O):=h.2.2.1;obtain⟨kx,ky⟩:=(F f b).out;refine⟨154,#[.slice p N M,.slice s N O],by go_simp,(az.out f b).mono ?_⟩;rintro e w' ⟨rfl,aV⟩;exact⟨_,rfl,aV.ext,rfl⟩
         case o21 =>
          refine Aj rfl fun z f b m h => ?_;obtain⟨v0,e0,rfl⟩:=h.1;obtain⟨kx,ky⟩:=(F f b).out;go_simp
          try exact ai
         case o22 =>
          refine Aj rfl fun z f b m h => ?_;have e0:z (.tmp 43)=(.bool true):=h.1;have e1:z (.tmp 55)=(.bool bb):=h.2.1;obtain⟨kx,ky⟩:=(F f b).out;go_simp
         case o23 =>
          refine Aj rfl fun z f b m h => ?_;have e0:z (.tmp 38)=(.bool false):=h.1;have e2:z (.tmp 56)=(.bool bb):=h.2.2.1;obtain⟨kx,ky⟩:=(F f b).out;go_simp
         case fin =>
          intro f b;rintro _ rfl;change wpList _ _ _ _ _ _;simp only[lq,lw,lx,lz,Act.put,lj,lk,ly];have aA:=qh ai;clear ai;cases bb;rotate_left
          · obtain⟨ad,hK,U,T⟩:=HO.out;have B:=hK.ext ((b).alloc (.cells (tL s1 x1 m1 P y1 g1 h1 p N M).toArray 103));have hL:=BT (k:=5) (Arr.new f 103 (tL s1 x1 m1 P y1 g1 h1 p N M)) rfl;have W:=a5.ext (b);have g:=(Ext.refl f).alloc (.cells (tL s1 x1 m1 P y1 g1 h1 p N M).toArray 103);have A:=hE.trans (b);have au:=A.size;have X:(tL s1 x1 m1 P y1 g1 h1 p N M).toArray=#[.bool s1,.slice x1 m1 P,.bool false,.slice y1 g1 h1,.slice p N M]:=rfl
            go_wp2_with(first
             | (refine Bg rfl rfl Rq rfl W hi ?_;rw[D,X])
             | (refine Dn rfl rfl underlying42 B8 rfl B rfl hL (by intro r hr u hu;rw[gL.1 hr]at hu;exact FM u hu) (by unfold maxLen;omega) (by omega) (by simp;omega) ?_;intro a7 c7 w7 V C ah))
            have R:=TO.grow B U (fun j hj=>(T j hj).ext ((b).trans g)) (⟨s1,x1,m1,P,y1,g1,h1,p,N,M,rfl,ae,ap.ext ((b).trans g),ak.ext ((b).trans g),a0.ext ((b).trans g)⟩:TC _ b0 _ (l1.getD i tz)) (gJ hw a4.size) V C;have S:Ext w3 w7:=(A.trans g).grown C (fun k G=>(hK.lt G).1);go_roundw
            case rel=>exact⟨a7,no+1,c7,lo ++ [l1.getD i tz],i+1,k,rfl,by go_num,by go_num,by omega,by omega,by omega,S,qh R,qh (HM.out.left (getD_some (by rw[t1.len];exact hi)) (fun y hy=>by rw[getD_some (by rw[t2.len];exact G)]at hy;rw[<-lZ hy,HR.out];exact kE aA.out))⟩
            case measure=>simp[intOf];omega
          · obtain⟨ad,hK,U,T⟩:=HO.out;have B:=hK.ext ((b).alloc (.cells (tL s2 x2 m2 Q y2 g2 h2 s N O).toArray 103));have hL:=BT (k:=5) (Arr.new f 103 (tL s2 x2 m2 Q y2 g2 h2 s N O)) rfl;have W:=a6.ext (b);have g:=(Ext.refl f).alloc (.cells (tL s2 x2 m2 Q y2 g2 h2 s N O).toArray 103);have A:=hE.trans (b);have au:=A.size;have X:(tL s2 x2 m2 Q y2 g2 h2 s N O).toArray=#[.bool s2,.slice x2 m2 Q,.bool false,.slice y2 g2 h2,.slice s N O]:=rfl
            go_wp2_with(first
             | (refine Bg rfl rfl Rq rfl W G ?_;rw[E,X])
             | (refine Dn rfl rfl underlying42 B8 rfl B rfl hL (by intro r hr u hu;rw[gL.1 hr]at hu;exact FM u hu) (by unfold maxLen;omega) (by omega) (by simp;omega) ?_;intro a7 c7 w7 V C ah))
            have R:=TO.grow B U (fun j hj=>(T j hj).ext ((b).trans g)) (⟨s2,x2,m2,Q,y2,g2,h2,s,N,O,rfl,af,aq.ext ((b).trans g),al.ext ((b).trans g),a3.ext ((b).trans g)⟩:TC _ b0 _ (l2.getD k tz)) (gJ hw a4.size) V C;have S:Ext w3 w7:=(A.trans g).grown C (fun k G=>(hK.lt G).1);go_roundw
            case rel=>exact⟨a7,no+1,c7,lo ++ [l2.getD k tz],i,k+1,rfl,by go_num,by go_num,by omega,by omega,by omega,S,qh R,qh (HM.out.right (getD_some (by rw[t2.len];exact G)) (fun x hx=>by rw[getD_some (by rw[t1.len];exact hi)]at hx;rw[<-lZ hx,Pl.ordE_anti,HR.out];have:=of_decide_eq_false aA.out;omega))⟩
            case measure=>simp[intOf];omega
       · have ay:((k:Int) == (J:Int))=true:=by simp;omega
         obtain⟨H,K,aQ,s1,x1,m1,P,y1,g1,h1,p,aw,M,rfl,a5,D,ae,ap,ak,a0⟩:=(t1.ext hE).row hi;have ab:N=aw:=by have h1:=a0.1.len;have h2:=(a8.get (i:=i) (by rw[t1.len];exact hi)).1;omega
         subst ab;have aE:wr.cell? ⟨H,K+i*5+4,none⟩=some (.slice p N M):=by have:=a5.cl hi (j:=4) (by omega);rw[D]at this;exact this
         go_upto_region 7 with(fail)
         go_quiet (fail)
         have b:Ext wr (wr.drewN nq):=(Qt.drewN (Qt.refl wr) nq).ext;generalize wr.drewN nq=f at *
         obtain⟨ad,hK,U,T⟩:=HO.out;have B:=hK.ext ((b).alloc (.cells (tL s1 x1 m1 P y1 g1 h1 p N M).toArray 103));have hL:=BT (k:=5) (Arr.new f 103 (tL s1 x1 m1 P y1 g1 h1 p N M)) rfl;have W:=a5.ext (b);have g:=(Ext.refl f).alloc (.cells (tL s1 x1 m1 P y1 g1 h1 p N M).toArray 103);have A:=hE.trans (b);have au:=A.size;have X:(tL s1 x1 m1 P y1 g1 h1 p N M).toArray=#[.bool s1,.slice x1 m1 P,.bool false,.slice y1 g1 h1,.slice p N M]:=rfl
         go_wp2_with(first
          | (refine Bg rfl rfl Rq rfl W hi ?_;rw[D,X])
          | (refine Dn rfl rfl underlying42 B8 rfl B rfl hL (by intro r hr u hu;rw[gL.1 hr]at hu;exact FM u hu) (by unfold maxLen;omega) (by omega) (by simp;omega) ?_;intro a7 c7 w7 V C ah))
         have R:=TO.grow B U (fun j hj=>(T j hj).ext ((b).trans g)) (⟨s1,x1,m1,P,y1,g1,h1,p,N,M,rfl,ae,ap.ext ((b).trans g),ak.ext ((b).trans g),a0.ext ((b).trans g)⟩:TC _ b0 _ (l1.getD i tz)) (gJ hw a4.size) V C;have S:Ext w3 w7:=(A.trans g).grown C (fun k G=>(hK.lt G).1);go_roundw
         case rel=>exact⟨a7,no+1,c7,lo ++ [l1.getD i tz],i+1,k,rfl,by go_num,by go_num,by omega,by omega,by omega,S,qh R,qh (HM.out.left (getD_some (by rw[t1.len];exact hi)) (fun y hy=>by rw[ig (by rw[t2.len];omega)]at hy;cases hy))⟩
         case measure=>simp[intOf];omega
     · have aW:¬ (i:Int)<Z:=by omega
       by_cases G:k<J
       · have ay:((k:Int) == (J:Int))=false:=by simp;omega
         have aJ:(k:Int)<J:=by omega
         obtain⟨I,L,aR,s2,x2,m2,Q,y2,g2,h2,s,ax,O,rfl,a6,E,af,aq,al,a3⟩:=(t2.ext hE).row G;have ac:N=ax:=by have h1:=a3.1.len;have h2:=(a9.get (i:=k) (by rw[t2.len];exact G)).1;omega
         subst ac;have aF:wr.cell? ⟨I,L+k*5+4,none⟩=some (.slice s N O):=by have:=a6.cl G (j:=4) (by omega);rw[E]at this;exact this
         go_upto_region 7 with(fail)
         go_quiet (fail)
         have b:Ext wr (wr.drewN nq):=(Qt.drewN (Qt.refl wr) nq).ext;generalize wr.drewN nq=f at *
         obtain⟨ad,hK,U,T⟩:=HO.out;have B:=hK.ext ((b).alloc (.cells (tL s2 x2 m2 Q y2 g2 h2 s N O).toArray 103));have hL:=BT (k:=5) (Arr.new f 103 (tL s2 x2 m2 Q y2 g2 h2 s N O)) rfl;have W:=a6.ext (b);have g:=(Ext.refl f).alloc (.cells (tL s2 x2 m2 Q y2 g2 h2 s N O).toArray 103);have A:=hE.trans (b);have au:=A.size;have X:(tL s2 x2 m2 Q y2 g2 h2 s N O).toArray=#[.bool s2,.slice x2 m2 Q,.bool false,.slice y2 g2 h2,.slice s N O]:=rfl
         go_wp2_with(first
          | (refine Bg rfl rfl Rq rfl W G ?_;rw[E,X])
          | (refine Dn rfl rfl underlying42 B8 rfl B rfl hL (by intro r hr u hu;rw[gL.1 hr]at hu;exact FM u hu) (by unfold maxLen;omega) (by omega) (by simp;omega) ?_;intro a7 c7 w7 V C ah))
         have R:=TO.grow B U (fun j hj=>(T j hj).ext ((b).trans g)) (⟨s2,x2,m2,Q,y2,g2,h2,s,N,O,rfl,af,aq.ext ((b).trans g),al.ext ((b).trans g),a3.ext ((b).trans g)⟩:TC _ b0 _ (l2.getD k tz)) (gJ hw a4.size) V C;have S:Ext w3 w7:=(A.trans g).grown C (fun k G=>(hK.lt G).1);go_roundw
         case rel=>exact⟨a7,no+1,c7,lo ++ [l2.getD k tz],i,k+1,rfl,by go_num,by go_num,by omega,by omega,by omega,S,qh R,qh (HM.out.right (getD_some (by rw[t2.len];exact G)) (fun x hx=>by rw[ig (by rw[t1.len];omega)]at hx;cases hx))⟩
         case measure=>simp[intOf];omega
       · have aJ:¬ (k:Int)<J:=by omega
         have aI:i=Z:=by omega
         have aK:k=J:=by omega
         have aD:=HM.out;rw[aI,aK,<-t1.len,<-t2.len]at aD;have aU:=HO.out.sl;clear aI aK;go_wp2;go_ret;exact⟨ao,no,co,lo,rfl,a4.trans hE,aU,HP.out lo aD.done,HM.out.d⟩
end Go.Proofs.YtlbmnokpiilfpaaGreatDoor
namespace Go.Proofs.YtlbmnokpiilfpaaGreatDoor.Pl
variable {b i k n:Nat} {c:Rat}
def SubOK(l:List Tm):Prop:=∀ a s,(a ++ s).Perm l->∀ e,RB 1000000 (coef a e)
theorem SubOK.perm{l b:List Tm}(h:SubOK l)(p:b.Perm l):SubOK b:=fun a s hp e=>h a s (hp.trans p) e
theorem SubOK.one{l:List Tm}(h:SubOK l){t:Tm}(d:t∈l):RB 1000000 t.2:=by
 obtain⟨b,c,rfl⟩:=List.append_of_mem d;have:=h [t] (b ++ c) (by simpa using(List.perm_middle (a:=t) (l₁:=b) (l₂:=c)).symm) t.1;simp only[coef,li]at this
 rwa[oc]at this
theorem SubOK.of_rb{l:List Tm}(d:1<=b)(h:∀ t∈l,RB b t.2)(g:l.length*(b+1)+1<=1000000):SubOK l:=by
 intro a s hp e;have f:∀ t∈a,t∈l:=fun t c=>hp.subset (List.mem_append_left _ c);have h1:=RB.coef d e (l:=a) (fun t c=>h t (f t c));refine h1.mono ?_;have h2:a.length<=l.length:=by have:=hp.length_eq;simp at this;omega
 have h3:a.length*(b+1)<=l.length*(b+1):=gH _ h2;omega
structure SS(s out:List Tm)(i:Nat):Prop where
 le:i<=s.length
 eq:grp s=out ++ grp (s.drop i)
theorem SS.start(s:List Tm):SS s [] 0:=⟨gO _,by simp⟩
theorem SS.done{s out:List Tm}(h:SS s out s.length):out=grp s:=by
 have:=h.eq;rw[List.drop_length,EW,jL]at this;exact this.symm
structure SI(s:List Tm)(i k:Nat)(x:Tm)(c:Rat):Prop where
 hx:s[i]?=some x
 ik:i<k
 le:k<=s.length
 hc:H7 x.1 x.2 (s.drop (i+1))=H7 x.1 c (s.drop k)
 hr:DH x.1 (s.drop (i+1))=DH x.1 (s.drop k)
 hv:c=coef ((s.drop i).take (k-i)) x.1
theorem SI.start{s:List Tm}{x:Tm}(h:s[i]?=some x):SI s i (i+1) x x.2:=by
 have a:i<s.length:=(iZ.1 h).1;have b:s[i]=x:=(iZ.1 h).2;refine⟨h,by omega,by omega,rfl,rfl,?_⟩;rw[iU a,b,show i+1-i=1 by omega];simp only[oB,jw,coef,li];rw[oc]
theorem SI.step{s:List Tm}{x:Tm}(h:SI s i k x c){y:Tm}(d:s[k]?=some y)(he:x.1=y.1):SI s i (k+1) x (c+y.2):=by
 have f:k<s.length:=(iZ.1 d).1;have a:s[k]=y:=(iZ.1 d).2;have b:s.drop k=y :: s.drop (k+1):=by rw[iU f,a]
 have e:=h.ik;refine⟨h.hx,by omega,by omega,?_,?_,?_⟩
 · rw[h.hc,b];simp only[H7,gY he]
 · rw[h.hr,b];simp only[DH,gY he]
 · have h1:(s.drop i).take (k+1-i)=(s.drop i).take (k-i) ++ [y]:=by
    have h2:k-i<(s.drop i).length:=by rw[kN];omega
    rw[show k+1-i=k-i+1 by omega,gM h2];congr 2;rw[List.getElem_drop];have:i+(k-i)=k:=by omega
    simp only[this];exact a
   rw[h1,coef_app,<-h.hv];simp only[coef,gY he.symm];rw[oc]
theorem SI.rb{s:List Tm}{x:Tm}(h:SI s i k x c)(b:SubOK s):RB 1000000 c:=by
 rw[h.hv];refine b _ (s.take i ++ s.drop k) ?_ _;have e:s=s.take i ++ ((s.drop i).take (k-i) ++ s.drop k):=by
  have a:s.drop k=(s.drop i).drop (k-i):=by rw[oy];congr 1;have:=h.ik;omega
  rw[a,jN,jN]
 have p:((s.drop i).take (k-i) ++ (s.take i ++ s.drop k)).Perm (s.take i ++ ((s.drop i).take (k-i) ++ s.drop k)):=by
  rw[<-iQ,<-iQ];exact List.perm_append_comm.append_right _
 exact p.trans (List.Perm.of_eq e.symm)
theorem SI.stop{s out:List Tm}{x:Tm}(h:SI s i k x c)(g:SS s out i)(l:∀ y,s[k]?=some y->x.1≠y.1):SS s (if c=0 then out else out ++ [(x.1,c)]) k:=by
 have e:i<s.length:=(iZ.1 h.hx).1;have j:s[i]=x:=(iZ.1 h.hx).2;have h1:H7 x.1 c (s.drop k)=c/\DH x.1 (s.drop k)=s.drop k:=by
  by_cases b:k<s.length
  · have d:s.drop k=s[k] :: s.drop (k+1):=iU b;have f:=l s[k] (gD b);rw[d];simp only[H7,DH,gT f];exact⟨trivial,trivial⟩
  · rw[iX (by omega)];exact⟨rfl,rfl⟩
 refine⟨h.le,?_⟩;rw[g.eq,iU e,j,GK,h.hc,h.hr,h1.1,h1.2];by_cases a:c=0
 · simp only[gY a,jo]
 · simp only[gT a,iQ]
theorem grp_sum{l s:List Tm}(b:∀ t∈l,t.1.length=n)(hp:s.Perm l)(a:desc s):Canon n (grp s)/\∀ e,coef (grp s) e=coef l e :=
 ⟨LL _ s (lrf _) (fun t c=>b t (hp.subset c)) a,fun e=>(NS _ s (lrf _) e).trans (coef_perm hp e)⟩
end Go.Proofs.YtlbmnokpiilfpaaGreatDoor.Pl
namespace Go.Proofs.YtlbmnokpiilfpaaGreatDoor
open Tryz Go Go.RowKit
variable {y z:Int} {p q:Rat} {v v':Value} {w:World}
theorem KG(h:ZR w v z)(h':ZR w v' y)(bz:z.natAbs<P2 3200000)(aj:y.natAbs<P2 3200000)(b2:0<y){q:Rat}(hq:q=mkRat z y.natAbs):Calls prog 151 #[v,v'] w (OL w q):=by
 have aH:y.natAbs≠0:=by omega
 have ba:0<Int.gcd z y:=mr _ (by omega);have HP:=qh (Pl.rat_frac (n:=z) aH);rw[<-hq]at HP;have aZ:(Int.gcd z y)<=y.natAbs:=oQ _ (by omega);have e1:z.tdiv ((Int.gcd z y:Nat):Int)=q.num:=HP.out.1.symm;have e2:y.tdiv ((Int.gcd z y:Nat):Int)=(q.den:Int):=by
  rw[HP.out.2];have b3:y=(y.natAbs:Int):=by omega
  rw[b3,il];rfl
 have C:(q.den:Int).natAbs<P2 3200000:=by
  have:=HP.out.2;have h2:=iI y.natAbs (Nat.gcd z.natAbs y.natAbs);omega
 have H0:=h;have ah:=h';obtain⟨s,a,n,c,rfl,HS,hx⟩:=h;obtain⟨t,b,m,d,rfl,HT,hy⟩:=h';have ht:t=false:=by have:=HT.out;rw[<-this];exact gR (by omega)
 subst ht;have ar:=qh (fun(wx:World) (hC:Ext w wx)=>VN (H0.ext hC) (ah.ext hC) bz aj);have ap:=qh (fun(wx:World) (vg:Value) (hg:ZR wx vg (Int.gcd z y:Nat))=>KE hg (by rw[il];omega));have P:=qh (fun(wx:World) (hC:Ext w wx) (vg:Value) (hg:ZR wx vg (Int.gcd z y:Nat))=>KD (H0.ext hC) hg bz (by omega));have Q:=qh (fun(wx:World) (hC:Ext w wx) (vg:Value) (hg:ZR wx vg (Int.gcd z y:Nat))=>KD (ah.ext hC) hg aj (by omega));rw[e1]at P;rw[e2]at Q;have E1:=qh e1;have E2:=qh e2;have BD:=qh C
 have au:Int.gcd z y=1->z=q.num/\y=(q.den:Int):=by
  intro h1;rw[h1]at e1 e2;simp at e1 e2;exact⟨e1,e2⟩
 have HK:=qh au;clear e1 e2 C au HP hq aH aZ H0 ah E1 E2 bz aj b2;generalize Int.gcd z y=g at *
 go_enter func151,ntmps151
 go_upto_region 1 with(fail)
 refine CO ?_;intro w0 ay a8 a9 ax aP;have ab:=a8.c 0 rfl;have ac:=a8.c 1 rfl;have a6:=a9.c 0 rfl;have a7:=a9.c 1 rfl;have hR:Arr w0 (w.heap.size+2) 99 (Al false none 0 0 false none 0 0):=ax;have O:Arr w0 w.heap.size 97 (Ac s a n c):=a8;have N:Arr w0 (w.heap.size+1) 97 (Ac false b m d):=a9;have aM:w.heap.size+2<w0.heap.size:=by rw[aP];omega
 clear aP a8 a9 ax
 go_wp2_with fail
 refine(ar.out _ ay).mono ?_;rintro e w1 ⟨sg,ag,ng,cg,rfl,ak,ai,aN⟩
 go_upto_region 4 with(refine Aa (vs:=Ac sg ag ng cg) rfl rfl rfl rfl rfl A6 (Arr.new _ _ _) rfl (Ae _ _ _ _) ?_;intro w2 hG aG)
 have al:Ext w1 w2:=((Ext.refl w1).alloc _).grownR aG (lrf _);have B:=ak.trans al;have aY:=ay.trans B;have bb:w.heap.size+2<w1.heap.size:=ib aM ak.size;have ae:Mg w2 ag ng cg ((g:Nat):Int).natAbs:=aN.ext al;have q0:=hG.c 0 rfl;have q1:=hG.c 1 rfl;have N2:=O.ext B;have D2:=N.ext B;have R2:=hR.ext B;clear O N hR ab ac a6 a7 aG ar ak al B aN aM;generalize w1.heap.size=G at *
 go_wp2_with fail
 refine(ap.out _ _ ⟨sg,ag,ng,cg,rfl,ai,ae⟩).mono ?_;rintro e w3 ⟨kk,rfl,J,bc,-,aa⟩;have o:=aY.trans J;have N3:=N2.ext J;have D3:=D2.ext J;have R3:=R2.ext J;have an:=J.cell q0;have ao:=J.cell q1;have af:=ae.ext J;have ab:=N3.c 0 rfl;have ac:=N3.c 1 rfl;have a6:=D3.c 0 rfl;have a7:=D3.c 1 rfl;clear N2 D2 R2 q0 q1 ae ap hG;by_cases aF:1<g
 · have aT:(1:Int)<kk:=by have:=aa.2 (by simpa using aF);omega
   clear aa HK
   go_wp2_with fail
   refine(P.out _ o _ ⟨sg,ag,ng,cg,rfl,ai,af⟩).mono ?_;rintro e w4 ⟨s1,a1,n1,c1,_,_,_,_,rfl,p,⟨E,l⟩,_⟩;have N4:=N3.ext p;clear ab ac;have aU:=p.cell a6;have aW:=p.cell a7;have aR:=p.cell an;have aS:=p.cell ao
   go_upto_region 6 with(refine Aa (vs:=Ac s1 a1 n1 c1) rfl rfl rfl rfl rfl A6 N4 rfl (Ae _ _ _ _) ?_;intro w5 N5 D)
   have az:=(o.trans p).grownR D (by omega);have D5:=(D3.ext p).kept D (by simp);have R5:=(R3.ext p).kept D (by simp);have av:=l.keptA N4 (by decide) D;have aw:=(af.ext p).keptA N4 (by decide) D;have aV:=D5.c 0 rfl;have aX:=D5.c 1 rfl;have b8:=D.cell (a:=⟨G,0,none⟩) aR (by simp;omega);have b9:=D.cell (a:=⟨G,1,none⟩) aS (by simp;omega);clear a6 a7 an ao aU aW aR aS N3 D3 R3 af P D N4 l
   go_wp2_with fail
   refine(Q.out _ az _ ⟨sg,ag,ng,cg,rfl,ai,aw⟩).mono ?_;rintro e w6 ⟨S,a3,n3,c3,_,_,_,_,rfl,a2,⟨F,A⟩,_⟩;have D6:=D5.ext a2;clear aV aX b8 b9
   go_upto_region 7 with(refine Aa (vs:=Ac S a3 n3 c3) rfl rfl rfl rfl rfl A6 D6 rfl (Ae _ _ _ _) ?_;intro wt N R)
   have aA:=(az.trans a2).grownR R (by omega);have O:=(N5.ext a2).kept R (by simp);have hR:=(R5.ext a2).kept R (by simp);have l:=(av.ext a2).keptA D6 (by decide) R;have A:=A.keptA D6 (by decide) R;clear N5 R5 D5 D6 R Q aw av;have C:=qh (KE (v := .agg (Ac S a3 n3 c3).toArray) ⟨S,a3,n3,c3,rfl,F,A⟩ BD.out);clear BD;have T:=O.c 0 rfl;have V:=O.c 1 rfl;have X:=N.c 0 rfl;have Z:=N.c 1 rfl
   go_wp2_with fail
   refine C.out.mono ?_;rintro e w7 ⟨kd,rfl,f,b1,r,-⟩;have a4:=O.ext f;have I:=N.ext f;have L:=hR.ext f;have U:=f.cell T;have W:=f.cell V;have Y:=f.cell X;have ad:=f.cell Z;clear T V X Z O N hR C;by_cases x:kd=1
   · have k:q.den=1:=by have:=r.1 x;omega
     have HQ:=qh (CG k);subst x;clear r k
     go_upto_region 9 with(refine Aa (vs:=Ac false none 0 0) rfl rfl rfl rfl rfl A6 I rfl (Ae _ _ _ _) ?_;intro w8 a0 j)
     have a5:=a4.kept j (by simp);have i:=L.kept j (by simp);have b4:=a5.c 0 rfl;have b5:=a5.c 1 rfl;have b6:=a0.c 0 rfl;have b7:=a0.c 1 rfl;have K:=(aA.trans f).grownR j (by omega);have am:=(l.ext f).keptA I (by decide) j;clear U W Y ad a4 I L j
     go_wp2_with(refine Aa (vs:=Al s1 a1 n1 c1 false none 0 0) rfl rfl rfl rfl rfl By i rfl (Aq _ _ _ _ _ _ _ _) ?_;intro w9 H M)
     exact gF (Ap rfl By rfl H) rfl (Fj K i (by decide) M (by omega) E am (by rw[HQ.out];exact Mg.nil _))
   · have k:q.den≠1:=fun h=>x (r.2 (by omega));have HQ:=qh (Bi k);have b0:((kd:Int) == 1)=false:=by simp;omega
     have HF:Hid (S=false):=qh (by have:=F.out;rw[<-this];exact gR (by omega));clear r k x;have i:=L;have K:=aA.trans f
     go_wp2_with(refine Aa (vs:=Al s1 a1 n1 c1 S a3 n3 c3) rfl rfl rfl rfl rfl By i rfl (Aq _ _ _ _ _ _ _ _) ?_;intro w9 H M)
     refine gF (Ap rfl By rfl H) rfl ?_;rw[HF.out];exact Fj K i (by decide) M (by omega) E (l.ext f) (by rw[HQ.out];exact A.ext f)
 · have aq:g=1:=by omega
   obtain⟨aQ,aO⟩:=HK.out aq;have aT:¬ (1:Int)<kk:=by have:=mt aa.1 (by simp;omega);omega
   have O:=N3;have N:=D3;have hR:=R3;have E:=HS;have F:=HT;have l:=hx.ext o;have A:=hy.ext o;rw[aQ]at E l;rw[aO]at F A;clear N3 D3 R3 ab ac a6 a7 an ao aa HK P Q aF aq aQ aO hx hy HS HT;obtain⟨s1,aK⟩:∃ s1,s1=s:=⟨_,rfl⟩;obtain⟨S,aL⟩:∃ S,S=false:=⟨_,rfl⟩;obtain⟨a1,aB⟩:∃ a1,a1=a:=⟨_,rfl⟩;obtain⟨n1,aI⟩:∃ n1,n1=n:=⟨_,rfl⟩;obtain⟨c1,aD⟩:∃ c1,c1=c:=⟨_,rfl⟩;obtain⟨a3,aC⟩:∃ a3,a3=b:=⟨_,rfl⟩;obtain⟨n3,aJ⟩:∃ n3,n3=m:=⟨_,rfl⟩;obtain⟨c3,aE⟩:∃ c3,c3=d:=⟨_,rfl⟩;rw[<-aK]at E O;rw[<-aB,<-aI,<-aD]at l O;rw[<-aL]at F N
   rw[<-aC,<-aJ,<-aE]at A N;clear aK aL aB aI aD aC aJ aE;have C:=qh (KE (v := .agg (Ac S a3 n3 c3).toArray) ⟨S,a3,n3,c3,rfl,F,A⟩ BD.out);clear BD;have T:=O.c 0 rfl;have V:=O.c 1 rfl;have X:=N.c 0 rfl;have Z:=N.c 1 rfl
   go_wp2_with fail
   refine C.out.mono ?_;rintro e w7 ⟨kd,rfl,f,b1,r,-⟩;have a4:=O.ext f;have I:=N.ext f;have L:=hR.ext f;have U:=f.cell T;have W:=f.cell V;have Y:=f.cell X;have ad:=f.cell Z;clear T V X Z O N hR C;by_cases x:kd=1
   · have k:q.den=1:=by have:=r.1 x;omega
     have HQ:=qh (CG k);subst x;clear r k
     go_upto_region 9 with(refine Aa (vs:=Ac false none 0 0) rfl rfl rfl rfl rfl A6 I rfl (Ae _ _ _ _) ?_;intro w8 a0 j)
     have a5:=a4.kept j (by simp);have i:=L.kept j (by simp);have b4:=a5.c 0 rfl;have b5:=a5.c 1 rfl;have b6:=a0.c 0 rfl;have b7:=a0.c 1 rfl;have K:=(o.trans f).grownR j (by omega);have am:=(l.ext f).keptA I (by decide) j;clear U W Y ad a4 I L j
     go_wp2_with(refine Aa (vs:=Al s1 a1 n1 c1 false none 0 0) rfl rfl rfl rfl rfl By i rfl (Aq _ _ _ _ _ _ _ _) ?_;intro w9 H M)
     exact gF (Ap rfl By rfl H) rfl (Fj K i (by decide) M (by omega) E am (by rw[HQ.out];exact Mg.nil _))
   · have k:q.den≠1:=fun h=>x (r.2 (by omega));have HQ:=qh (Bi k);have b0:((kd:Int) == 1)=false:=by simp;omega
     have HF:Hid (S=false):=qh (by have:=F.out;rw[<-this];exact gR (by omega));clear r k x;have i:=L;have K:=o.trans f
     go_wp2_with(refine Aa (vs:=Al s1 a1 n1 c1 S a3 n3 c3) rfl rfl rfl rfl rfl By i rfl (Aq _ _ _ _ _ _ _ _) ?_;intro w9 H M)
     refine gF (Ap rfl By rfl H) rfl ?_;rw[HF.out];exact Fj K i (by decide) M (by omega) E (l.ext f) (by rw[HQ.out];exact A.ext f)
theorem Qb(h:p.den=1)(b:q.den=1):p*q=((p.num*q.num:Int):Rat):=by
 have a:=Pl.rat_mul_whole p q h b;exact Rat.ext a.1 a.2
theorem Qc(h:p.den=1)(c:q.den=1):p+q=((p.num+q.num:Int):Rat):=by
 have a:p=(p.num:Rat):=Rat.ext rfl h;have b:q=(q.num:Rat):=Rat.ext rfl c;rw[mZ,<-a,<-b]
theorem KH(h:QV w v p)(h':QV w v' q)(bp:Pl.RB 1000000 p)(bq:Pl.RB 1000000 q):Calls prog 167 #[v,v'] w (OL w (p*q)):=by
 have h0:=h;have a6:=h';obtain⟨s,a,n,c,b,m,d,rfl,HS,hx,hy⟩:=h;obtain⟨l,i,k,j,b',U,d',rfl,a5,I,J⟩:=h';by_cases hw:p.den=1/\q.den=1
 · obtain⟨h1,h2⟩:=hw;have ai:m=0:=hy.zero.2 (CG h1);have ab:U=0:=J.zero.2 (CG h2);have HV:Hid (p*q=((p.num*q.num:Int):Rat)):=qh (Qb h1 h2);have am:=qh (fun(f:World) (g:Ext w f)=>Gb (v := .agg #[.bool s,.slice a n c]) (v' := .agg #[.bool l,.slice i k j]) ⟨s,a,n,c,rfl,HS,hx.ext g⟩ ⟨l,i,k,j,rfl,a5,I.ext g⟩ (Af bp.1 (by omega)) (Af bq.1 (by omega)));subst ai ab;clear h1 h2 bp bq hx hy I J
   go_enter func167,ntmps167
   go_upto_region 1 with(fail)
   refine CO ?_;intro w0 B o r Y a3;have p0:=o.c 0 rfl;have p1:=o.c 1 rfl;have p2:=o.c 2 rfl;have p3:=o.c 3 rfl;have q0:=r.c 0 rfl;have q1:=r.c 1 rfl;have q2:=r.c 2 rfl;have q3:=r.c 3 rfl;have hR:Arr w0 (w.heap.size+2) 99 (Al false none 0 0 false none 0 0):=Y;clear a3
   go_wp2_with fail
   refine(am.out _ B).mono ?_;rintro e w1 ⟨s1,F,S,G,rfl,a7,ac,ao⟩;have E:=hR.ext a7;have aJ:(Ac s1 F S G).toArray=#[.bool s1,.slice F S G]:=rfl
   go_wp2_with(refine Aa (vs:=Al s1 F S G false none 0 0) rfl rfl rfl rfl rfl By E rfl (Aq _ _ _ _ _ _ _ _) ?_;intro w9 Z a0)
   refine gF (Ap rfl By rfl Z) rfl ?_;rw[HV.out];exact KF (B.trans a7) E (by decide) a0 (by omega) ac ao
 · have H0:=h0;have a4:=a6;have an:((m:Int) == 0)=true/\((U:Int) == 0)=false\/((m:Int) == 0)=false:=by
    rcases gX m with h1|h1
    · refine Or.inl ⟨by simp[h1],?_⟩;have h4:U≠0:=fun h2=>hw ⟨?_,?_⟩
      · simpa using h4
      · exact ia fun h3=>p.den_nz (by have:=hy.zero.1 h1;rw[Bi h3]at this;exact this)
      · exact ia fun h3=>q.den_nz (by have:=J.zero.1 h2;rw[Bi h3]at this;exact this)
    · exact Or.inr (by simp;omega)
   have ae:=qh (fun(f:World) (g:Ext w f)=>Jv (H0.ext g));have af:=qh (fun(f:World) (g:Ext w f)=>Jv (a4.ext g));have W:((p.den:Int)).natAbs<P2 1000000:=by rw[il];exact bp.2
   have X:((q.den:Int)).natAbs<P2 1000000:=by rw[il];exact bq.2
   have up:=fun {x:Nat} (h:x<P2 1000000)=>Af (b:=3200000) h (by omega);have mb:=fun {x y:Int} (h:x.natAbs<P2 1000000) (h':y.natAbs<P2 1000000)=>(show(x*y).natAbs<P2 (1000000+1000000) by rw[jC];exact BJ h h');have aa:0<(p.den:Int)*(q.den:Int):=Int.mul_pos (by have:=p.den_pos;omega) (by have:=q.den_pos;omega);have a8:((p.den:Int)*(q.den:Int)).natAbs=p.den*q.den:=by rw[jC,il,il]
   have aj:=qh (fun(f:World) (g:Ext w f)=>Gb (v := .agg #[.bool s,.slice a n c]) (v' := .agg #[.bool l,.slice i k j]) ⟨s,a,n,c,rfl,HS,hx.ext g⟩ ⟨l,i,k,j,rfl,a5,I.ext g⟩ (up bp.1) (up bq.1));have ak:=qh (fun(f:World) (x y:Value) (h1:ZR f x (p.den:Int)) (h2:ZR f y (q.den:Int))=>Gb h1 h2 (up W) (up X));have ag:=qh (fun(f:World) (x y:Value) (h1:ZR f x (p.num*q.num)) (h2:ZR f y ((p.den:Int)*(q.den:Int)))=>KG h1 h2 (Af (mb bp.1 bq.1) (by omega)) (Af (mb W X) (by omega)) aa (q:=p*q) (by rw[a8];exact Rat.mul_def' p q))
   clear hx hy I J hw H0 a4 h0 a6 bp bq W X up mb aa a8
   go_enter func167,ntmps167
   go_upto_region 1 with(fail)
   refine CO ?_;intro w0 B o r Y a3;have p0:=o.c 0 rfl;have p1:=o.c 1 rfl;have p2:=o.c 2 rfl;have p3:=o.c 3 rfl;have q0:=r.c 0 rfl;have q1:=r.c 1 rfl;have q2:=r.c 2 rfl;have q3:=r.c 3 rfl;have hR:Arr w0 (w.heap.size+2) 99 (Al false none 0 0 false none 0 0):=Y;clear a3;rcases an with⟨al,aK⟩|al
   all_goals
    go_upto_region 3 with(fail)
    have D:=fun(f:World) (g:Ext w0 f)=>qh (And.intro (g.cell p0) (And.intro (g.cell p1) (And.intro (g.cell p2) (And.intro (g.cell p3) (And.intro (g.cell q0) (And.intro (g.cell q1) (And.intro (g.cell q2) (g.cell q3))))))))
    refine Ab (by kernel_rfl) (fun f=>Ext w0 f)
     [he (.pointer (some ⟨w.heap.size,0,none⟩)),
 he (.agg #[.bool s,.slice a n c]),
 he (.pointer (some ⟨(w.heap.size+1),0,none⟩)),
 he (.agg #[.bool l,.slice i k j]),
 hp (fun v f=>ZR f v (p.num*q.num)),
 he (.agg #[.bool s,.slice a n c,.bool false,.slice b m d]),
 hp (fun v f=>ZR f v ((p.den:Int))),
 he (.agg #[.bool l,.slice i k j,.bool false,.slice b' U d']),
 hp (fun v f=>ZR f v ((q.den:Int))),
 hp (fun v f=>ZR f v ((p.den:Int)*(q.den:Int))),
 hp (fun v f=>QV f v (p*q))]
     (by kernel_rfl) (fun _ _ e h=>h.trans e) ((Ext.refl w0).drew) ⟨trivial,trivial,trivial,trivial,fun v w T e h=>ZR.ext h e,trivial,fun v w T e h=>ZR.ext h e,trivial,fun v w T e h=>ZR.ext h e,fun v w T e h=>ZR.ext h e,fun v w T e h=>QV.ext h e,trivial⟩ ⟨?o0,?o1,?o2,?o3,?o4,?o5,?o6,?o7,?o8,?o9,?o10,trivial⟩ ?fin
    case o0 | o2=>exact ofa (d:=0)
    case o1 | o3=>exact ol2
    case o5 | o7=>exact ol4
    case o4 =>
     refine Ag rfl fun V f g C H h => ?_;have e1:V (.tmp 24)=(.agg #[.bool s,.slice a n c]):=h.2.1;have e2:V (.tmp 26)=(.agg #[.bool l,.slice i k j]):=h.2.2.1;obtain⟨K,L,M,N,O,P,Q,R⟩:=(D f g).out;refine⟨184,#[.agg #[.bool s,.slice a n c],.agg #[.bool l,.slice i k j]],by go_simp,(aj.out f (B.trans g)).mono ?_⟩;rintro e T ⟨l,i,k,j,rfl,t,A,z⟩;exact⟨_,rfl,t,l,i,k,j,rfl,A,z⟩
    case o6 =>
     refine Ag rfl fun V f g C H h => ?_;have e1:V (.tmp 28)=(.agg #[.bool s,.slice a n c,.bool false,.slice b m d]):=h.2.1;obtain⟨K,L,M,N,O,P,Q,R⟩:=(D f g).out;refine⟨185,#[.agg #[.bool s,.slice a n c,.bool false,.slice b m d]],by go_simp,(ae.out f (B.trans g)).mono ?_⟩;rintro e T ⟨l,i,k,j,rfl,t,A,z⟩;exact⟨_,rfl,t,l,i,k,j,rfl,A,z⟩
    case o8 =>
     refine Ag rfl fun V f g C H h => ?_;have e1:V (.tmp 30)=(.agg #[.bool l,.slice i k j,.bool false,.slice b' U d']):=h.2.1;obtain⟨K,L,M,N,O,P,Q,R⟩:=(D f g).out;refine⟨185,#[.agg #[.bool l,.slice i k j,.bool false,.slice b' U d']],by go_simp,(af.out f (B.trans g)).mono ?_⟩;rintro e T ⟨l,i,k,j,rfl,t,A,z⟩;exact⟨_,rfl,t,l,i,k,j,rfl,A,z⟩
    case o9 =>
     refine Ag rfl fun V f g C H h => ?_;obtain⟨v1,e1,s1,F,S,G,rfl,i1,j1⟩:=h.2.1;obtain⟨v2,e2,s2,a2,n2,c2,rfl,i2,j2⟩:=h.2.2.1;obtain⟨K,L,M,N,O,P,Q,R⟩:=(D f g).out;refine⟨184,#[.agg (Ac s1 F S G).toArray,.agg (Ac s2 a2 n2 c2).toArray],by go_simp,(ak.out f _ _ ⟨s1,F,S,G,rfl,i1,j1⟩ ⟨s2,a2,n2,c2,rfl,i2,j2⟩).mono ?_⟩;rintro e T ⟨l,i,k,j,rfl,t,A,z⟩;exact⟨_,rfl,t,l,i,k,j,rfl,A,z⟩
    case o10 =>
     refine Ag rfl fun V f g C H h => ?_;obtain⟨v1,e1,s1,F,S,G,rfl,i1,j1⟩:=h.2.1;obtain⟨v2,e2,s2,a2,n2,c2,rfl,i2,j2⟩:=h.2.2.1;obtain⟨K,L,M,N,O,P,Q,R⟩:=(D f g).out;refine⟨151,#[.agg (Ac s1 F S G).toArray,.agg (Ac s2 a2 n2 c2).toArray],by go_simp,(ag.out f _ _ ⟨s1,F,S,G,rfl,i1,j1⟩ ⟨s2,a2,n2,c2,rfl,i2,j2⟩).mono ?_⟩;rintro e T ⟨l,i,k,j,b',U,d',rfl,t,A,z,ah⟩;exact⟨_,rfl,t,l,i,k,j,b',U,d',rfl,A,z,ah⟩
    case fin =>
     intro f g;rintro _ ⟨aP,aB,aL,aF,rfl,ar,ax⟩;rintro _ ⟨aQ,aC,aM,aG,rfl,au,ay⟩;rintro _ ⟨aR,aD,aN,aH,rfl,av,az⟩;rintro _ ⟨aS,aE,aO,aI,rfl,aw,aA⟩;rintro _ ⟨s9,a9,n9,c9,b9,m9,d9,rfl,ad,ap,aq⟩;change wpList _ _ _ _ _ _;simp only[lq,lw,lx,lz,Act.put,lj,lk,ly];have E:=hR.ext g
     go_wp2_with(refine Aa (vs:=Al s9 a9 n9 c9 false b9 m9 d9) rfl rfl rfl rfl rfl By E rfl (Aq _ _ _ _ _ _ _ _) ?_;intro w9 Z a0)
     exact gF (Ap rfl By rfl Z) rfl (Fj (B.trans g) E (by decide) a0 (by omega) ad ap aq)
theorem Ud(h:QV w v p)(h':QV w v' q)(bp:Pl.RB 1000000 p)(bq:Pl.RB 1000000 q):Calls prog 155 #[v,v'] w (OL w (p+q)):=by
 have h0:=h;have ab:=h';obtain⟨s,a,n,c,b,m,d,rfl,HS,hx,hy⟩:=h;obtain⟨t,l,r,o,b',Z,d',rfl,aa,a0,a3⟩:=h';by_cases hw:p.den=1/\q.den=1
 · obtain⟨h1,h2⟩:=hw;have an:m=0:=hy.zero.2 (CG h1);have ah:Z=0:=a3.zero.2 (CG h2);have HV:Hid (p+q=((p.num+q.num:Int):Rat)):=qh (Qc h1 h2);have au:=qh (fun(f:World) (g:Ext w f)=>Rp (v := .agg #[.bool s,.slice a n c]) (v' := .agg #[.bool t,.slice l r o]) ⟨s,a,n,c,rfl,HS,hx.ext g⟩ ⟨t,l,r,o,rfl,aa,a0.ext g⟩ (Af bp.1 (by omega)) (Af bq.1 (by omega)));subst an ah;clear h1 h2 bp bq hx hy a0 a3
   go_enter func155,ntmps155
   go_upto_region 1 with(fail)
   refine CO ?_;intro w0 A C D a4 a7;have p0:=C.c 0 rfl;have p1:=C.c 1 rfl;have p2:=C.c 2 rfl;have p3:=C.c 3 rfl;have q0:=D.c 0 rfl;have q1:=D.c 1 rfl;have q2:=D.c 2 rfl;have q3:=D.c 3 rfl;have hR:Arr w0 (w.heap.size+2) 99 (Al false none 0 0 false none 0 0):=a4;clear a7
   go_wp2_with fail
   refine(au.out _ A).mono ?_;rintro e w1 ⟨s1,V,X,W,rfl,ac,ai,aw⟩;have Y:=hR.ext ac;have b5:(Ac s1 V X W).toArray=#[.bool s1,.slice V X W]:=rfl
   go_wp2_with(refine Aa (vs:=Al s1 V X W false none 0 0) rfl rfl rfl rfl rfl By Y rfl (Aq _ _ _ _ _ _ _ _) ?_;intro w9 a5 a6)
   refine gF (Ap rfl By rfl a5) rfl ?_;rw[HV.out];exact KF (A.trans ac) Y (by decide) a6 (by omega) ai aw
 · have H0:=h0;have a8:=ab;have av:((m:Int) == 0)=true/\((Z:Int) == 0)=false\/((m:Int) == 0)=false:=by
    rcases gX m with h1|h1
    · refine Or.inl ⟨by simp[h1],?_⟩;have h4:Z≠0:=fun h2=>hw ⟨?_,?_⟩
      · simpa using h4
      · exact ia fun h3=>p.den_nz (by have:=hy.zero.1 h1;rw[Bi h3]at this;exact this)
      · exact ia fun h3=>q.den_nz (by have:=a3.zero.1 h2;rw[Bi h3]at this;exact this)
    · exact Or.inr (by simp;omega)
   have af:=qh (fun(f:World) (g:Ext w f)=>Jv (H0.ext g));have ag:=qh (fun(f:World) (g:Ext w f)=>Jv (a8.ext g));have T:((p.den:Int)).natAbs<P2 1000000:=by rw[il];exact bp.2
   have U:((q.den:Int)).natAbs<P2 1000000:=by rw[il];exact bq.2
   have up:=fun {x:Nat} (h:x<P2 1000000)=>Af (b:=3200000) h (by omega);have mb:=fun {x y:Int} (h:x.natAbs<P2 1000000) (h':y.natAbs<P2 1000000)=>(show(x*y).natAbs<P2 (1000000+1000000) by rw[jC];exact BJ h h');have ae:0<(p.den:Int)*(q.den:Int):=Int.mul_pos (by have:=p.den_pos;omega) (by have:=q.den_pos;omega);have ad:((p.den:Int)*(q.den:Int)).natAbs=p.den*q.den:=by rw[jC,il,il]
   have ao:=qh (fun(f:World) (g:Ext w f) (x:Value) (h1:ZR f x (q.den:Int))=>Gb (v := .agg #[.bool s,.slice a n c]) ⟨s,a,n,c,rfl,HS,hx.ext g⟩ h1 (up bp.1) (up U));have aq:=qh (fun(f:World) (g:Ext w f) (x:Value) (h1:ZR f x (p.den:Int))=>Gb (v := .agg #[.bool t,.slice l r o]) ⟨t,l,r,o,rfl,aa,a0.ext g⟩ h1 (up bq.1) (up T));have ap:=qh (fun(f:World) (x y:Value) (h1:ZR f x (p.den:Int)) (h2:ZR f y (q.den:Int))=>Gb h1 h2 (up T) (up U))
   have ak:=qh (fun(f:World) (x y:Value) (h1:ZR f x (p.num*(q.den:Int))) (h2:ZR f y (q.num*(p.den:Int)))=>Rp h1 h2 (Af (mb bp.1 U) (by omega)) (Af (mb bq.1 T) (by omega)));have al:=qh (fun(f:World) (x y:Value) (h1:ZR f x (p.num*(q.den:Int)+q.num*(p.den:Int))) (h2:ZR f y ((p.den:Int)*(q.den:Int)))=>KG h1 h2 (Af (gN (mK _ _) (KX (mb bp.1 U) (mb bq.1 T))) (by omega)) (Af (mb T U) (by omega)) ae (q:=p+q) (by rw[ad];exact Rat.add_def' p q));clear hx hy a0 a3 hw H0 a8 h0 ab bp bq T U up mb ae ad
   go_enter func155,ntmps155
   go_upto_region 1 with(fail)
   refine CO ?_;intro w0 A C D a4 a7;have p0:=C.c 0 rfl;have p1:=C.c 1 rfl;have p2:=C.c 2 rfl;have p3:=C.c 3 rfl;have q0:=D.c 0 rfl;have q1:=D.c 1 rfl;have q2:=D.c 2 rfl;have q3:=D.c 3 rfl;have hR:Arr w0 (w.heap.size+2) 99 (Al false none 0 0 false none 0 0):=a4;clear a7;rcases av with⟨ar,b6⟩|ar
   all_goals
    go_upto_region 3 with(fail)
    have B:=fun(f:World) (g:Ext w0 f)=>qh (And.intro (g.cell p0) (And.intro (g.cell p1) (And.intro (g.cell p2) (And.intro (g.cell p3) (And.intro (g.cell q0) (And.intro (g.cell q1) (And.intro (g.cell q2) (g.cell q3))))))))
    refine Ab (by kernel_rfl) (fun f=>Ext w0 f)
     [he (.pointer (some ⟨w.heap.size,0,none⟩)),
 he (.agg #[.bool s,.slice a n c]),
 he (.agg #[.bool t,.slice l r o,.bool false,.slice b' Z d']),
 hp (fun v f=>ZR f v ((q.den:Int))),
 hp (fun v f=>ZR f v (p.num*(q.den:Int))),
 he (.pointer (some ⟨(w.heap.size+1),0,none⟩)),
 he (.agg #[.bool t,.slice l r o]),
 he (.agg #[.bool s,.slice a n c,.bool false,.slice b m d]),
 hp (fun v f=>ZR f v ((p.den:Int))),
 hp (fun v f=>ZR f v (q.num*(p.den:Int))),
 hp (fun v f=>ZR f v (p.num*(q.den:Int)+q.num*(p.den:Int))),
 he (.agg #[.bool s,.slice a n c,.bool false,.slice b m d]),
 hp (fun v f=>ZR f v ((p.den:Int))),
 he (.agg #[.bool t,.slice l r o,.bool false,.slice b' Z d']),
 hp (fun v f=>ZR f v ((q.den:Int))),
 hp (fun v f=>ZR f v ((p.den:Int)*(q.den:Int))),
 hp (fun v f=>QV f v (p+q))]
     (by kernel_rfl) (fun _ _ e h=>h.trans e) ((Ext.refl w0).drew) ⟨trivial,trivial,trivial,fun v w N e h=>ZR.ext h e,fun v w N e h=>ZR.ext h e,trivial,trivial,trivial,fun v w N e h=>ZR.ext h e,fun v w N e h=>ZR.ext h e,fun v w N e h=>ZR.ext h e,trivial,fun v w N e h=>ZR.ext h e,trivial,fun v w N e h=>ZR.ext h e,fun v w N e h=>ZR.ext h e,fun v w N e h=>QV.ext h e,trivial⟩ ⟨?o0,?o1,?o2,?o3,?o4,?o5,?o6,?o7,?o8,?o9,?o10,?o11,?o12,?o13,?o14,?o15,?o16,trivial⟩ ?fin
    case o0 | o5=>exact ofa (d:=0)
    case o1 | o6=>exact ol2
    case o2 | o7 | o11 | o13=>exact ol4
    case o3 =>
     refine Ag rfl fun S f g z E h => ?_;have e1:S (.tmp 25)=(.agg #[.bool t,.slice l r o,.bool false,.slice b' Z d']):=h.2.1;obtain⟨F,G,H,I,J,K,L,M⟩:=(B f g).out;refine⟨185,#[.agg #[.bool t,.slice l r o,.bool false,.slice b' Z d']],by go_simp,(ag.out f (A.trans g)).mono ?_⟩;rintro e N ⟨t,l,r,o,rfl,i,k,j⟩;exact⟨_,rfl,i,t,l,r,o,rfl,k,j⟩
    case o4 =>
     refine Ag rfl fun S f g z E h => ?_;have e1:S (.tmp 24)=(.agg #[.bool s,.slice a n c]):=h.2.1;obtain⟨v2,e2,R,O,Q,P,rfl,i2,j2⟩:=h.2.2.1;obtain⟨F,G,H,I,J,K,L,M⟩:=(B f g).out;refine⟨184,#[.agg #[.bool s,.slice a n c],.agg (Ac R O Q P).toArray],by go_simp,(ao.out f (A.trans g) _ ⟨R,O,Q,P,rfl,i2,j2⟩).mono ?_⟩;rintro e N ⟨t,l,r,o,rfl,i,k,j⟩;exact⟨_,rfl,i,t,l,r,o,rfl,k,j⟩
    case o8 =>
     refine Ag rfl fun S f g z E h => ?_;have e1:S (.tmp 30)=(.agg #[.bool s,.slice a n c,.bool false,.slice b m d]):=h.2.1;obtain⟨F,G,H,I,J,K,L,M⟩:=(B f g).out;refine⟨185,#[.agg #[.bool s,.slice a n c,.bool false,.slice b m d]],by go_simp,(af.out f (A.trans g)).mono ?_⟩;rintro e N ⟨t,l,r,o,rfl,i,k,j⟩;exact⟨_,rfl,i,t,l,r,o,rfl,k,j⟩
    case o9 =>
     refine Ag rfl fun S f g z E h => ?_;have e1:S (.tmp 29)=(.agg #[.bool t,.slice l r o]):=h.2.1;obtain⟨v2,e2,R,O,Q,P,rfl,i2,j2⟩:=h.2.2.1;obtain⟨F,G,H,I,J,K,L,M⟩:=(B f g).out;refine⟨184,#[.agg #[.bool t,.slice l r o],.agg (Ac R O Q P).toArray],by go_simp,(aq.out f (A.trans g) _ ⟨R,O,Q,P,rfl,i2,j2⟩).mono ?_⟩;rintro e N ⟨t,l,r,o,rfl,i,k,j⟩;exact⟨_,rfl,i,t,l,r,o,rfl,k,j⟩
    case o10 =>
     refine Ag rfl fun S f g z E h => ?_;obtain⟨v1,e1,s1,V,X,W,rfl,i1,j1⟩:=h.2.1;obtain⟨v2,e2,R,O,Q,P,rfl,i2,j2⟩:=h.2.2.1;obtain⟨F,G,H,I,J,K,L,M⟩:=(B f g).out;refine⟨216,#[.agg (Ac s1 V X W).toArray,.agg (Ac R O Q P).toArray],by go_simp,(ak.out f _ _ ⟨s1,V,X,W,rfl,i1,j1⟩ ⟨R,O,Q,P,rfl,i2,j2⟩).mono ?_⟩;rintro e N ⟨t,l,r,o,rfl,i,k,j⟩;exact⟨_,rfl,i,t,l,r,o,rfl,k,j⟩
    case o12 =>
     refine Ag rfl fun S f g z E h => ?_;have e1:S (.tmp 34)=(.agg #[.bool s,.slice a n c,.bool false,.slice b m d]):=h.2.1;obtain⟨F,G,H,I,J,K,L,M⟩:=(B f g).out;refine⟨185,#[.agg #[.bool s,.slice a n c,.bool false,.slice b m d]],by go_simp,(af.out f (A.trans g)).mono ?_⟩;rintro e N ⟨t,l,r,o,rfl,i,k,j⟩;exact⟨_,rfl,i,t,l,r,o,rfl,k,j⟩
    case o14 =>
     refine Ag rfl fun S f g z E h => ?_;have e1:S (.tmp 36)=(.agg #[.bool t,.slice l r o,.bool false,.slice b' Z d']):=h.2.1;obtain⟨F,G,H,I,J,K,L,M⟩:=(B f g).out;refine⟨185,#[.agg #[.bool t,.slice l r o,.bool false,.slice b' Z d']],by go_simp,(ag.out f (A.trans g)).mono ?_⟩;rintro e N ⟨t,l,r,o,rfl,i,k,j⟩;exact⟨_,rfl,i,t,l,r,o,rfl,k,j⟩
    case o15 =>
     refine Ag rfl fun S f g z E h => ?_;obtain⟨v1,e1,s1,V,X,W,rfl,i1,j1⟩:=h.2.1;obtain⟨v2,e2,R,O,Q,P,rfl,i2,j2⟩:=h.2.2.1;obtain⟨F,G,H,I,J,K,L,M⟩:=(B f g).out;refine⟨184,#[.agg (Ac s1 V X W).toArray,.agg (Ac R O Q P).toArray],by go_simp,(ap.out f _ _ ⟨s1,V,X,W,rfl,i1,j1⟩ ⟨R,O,Q,P,rfl,i2,j2⟩).mono ?_⟩;rintro e N ⟨t,l,r,o,rfl,i,k,j⟩;exact⟨_,rfl,i,t,l,r,o,rfl,k,j⟩
    case o16 =>
     refine Ag rfl fun S f g z E h => ?_;obtain⟨v1,e1,s1,V,X,W,rfl,i1,j1⟩:=h.2.1;obtain⟨v2,e2,R,O,Q,P,rfl,i2,j2⟩:=h.2.2.1;obtain⟨F,G,H,I,J,K,L,M⟩:=(B f g).out;refine⟨151,#[.agg (Ac s1 V X W).toArray,.agg (Ac R O Q P).toArray],by go_simp,(al.out f _ _ ⟨s1,V,X,W,rfl,i1,j1⟩ ⟨R,O,Q,P,rfl,i2,j2⟩).mono ?_⟩;rintro e N ⟨t,l,r,o,b',Z,d',rfl,i,k,j,am⟩;exact⟨_,rfl,i,t,l,r,o,b',Z,d',rfl,k,j,am⟩
    case fin =>
     intro f g;rintro _ ⟨bg,aP,b7,aX,rfl,az,aH⟩;rintro _ ⟨bh,aQ,b8,aY,rfl,aA,aI⟩;rintro _ ⟨bi,aR,ba,aZ,rfl,aB,aJ⟩;rintro _ ⟨bj,aS,bb,b0,rfl,aC,aK⟩;rintro _ ⟨bk,aT,bc,b1,rfl,aD,aL⟩;rintro _ ⟨bl,aU,bd,b2,rfl,aE,aM⟩;rintro _ ⟨bm,aV,be,b3,rfl,aF,aN⟩;rintro _ ⟨bn,aW,bf,b4,rfl,aG,aO⟩;rintro _ ⟨s9,a9,n9,c9,b9,m9,d9,rfl,aj,ax,ay⟩;change wpList _ _ _ _ _ _;simp only[lq,lw,lx,lz,Act.put,lj,lk,ly];have Y:=hR.ext g
     go_wp2_with(refine Aa (vs:=Al s9 a9 n9 c9 false b9 m9 d9) rfl rfl rfl rfl rfl By Y rfl (Aq _ _ _ _ _ _ _ _) ?_;intro w9 a5 a6)
     exact gF (Ap rfl By rfl a5) rfl (Fj (A.trans g) Y (by decide) a6 (by omega) aj ax ay)
end Go.Proofs.YtlbmnokpiilfpaaGreatDoor
