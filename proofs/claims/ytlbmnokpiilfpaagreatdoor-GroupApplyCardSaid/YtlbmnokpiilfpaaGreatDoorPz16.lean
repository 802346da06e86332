/- Part Pz16. -/
import Derived.Test.YtlbmnokpiilfpaaGreatDoorPz15
import Derived.Deep.CutBlock
import Derived.Deep.LoopGhost
set_option linter.all false
set_option maxRecDepth 100000
set_option maxHeartbeats 100000000
namespace Go.Proofs.YtlbmnokpiilfpaaGreatDoor
open Tryz Go Go.RowKit
def tZ:=@Option.some.inj
variable {N b0 n:Nat}
theorem VO(h:2<=n):n/2<n/\n-n/2<n/\n/2<=n:=by omega
theorem Nf(hN:N<=12):∀ (n:Nat) {a:Option Addr} {c:Nat} {l:List Pl.Tm} {w:World},TSl w b0 a n c l->TB N l->b0<=w.heap.size->n<=100000 ->
 Calls prog 153 #[.slice a n c] w (Yl w b0 l):=by
 intro n
 induction n using Nat.strongRecOn with
 | ind n ih =>
 intro a c l w h hb hw hn;by_cases h2:n<2
 · have bg:(n:Int)<2:=by omega
   have bL:=h.len;have hd:Pl.desc l:=by
    match l,bL with
    | [],_=>exact List.Pairwise.nil
    | [x],_=>exact xj _ _
    | x :: y :: r,hl=>simp at hl;omega
   clear ih hb hw
   go_enter func153,ntmps153
   go_wp2;go_ret;exact⟨a,n,c,l,rfl,Ext.refl w,h,List.Perm.refl _,hd⟩
 · have bg:¬ (n:Int)<2:=by omega
   obtain⟨ar,av,aa⟩:=VO (n:=n) (by omega);have bv:=h.le;obtain⟨q,hq⟩:∃ q,n/2=q:=⟨_,rfl⟩;have bN:(n:Int).tdiv 2=(q:Int):=by rw[qI (by omega),<-hq];rfl
   rw[hq]at ar av aa;have bo:q<=c:=by omega
   have H1:=h.to aa;have H2:=h.fr aa;have B1:TB N (l.take q):=fun t ht=>hb t (rF ht);have B2:TB N (l.drop q):=fun t ht=>hb t (tC ht);have bp:=qh (fun(f:World) (b:Ext w f)=>ih q ar (H1.ext b) B1 (pD hw b.size) (by omega));have bq:=qh (fun(f:World) (b:Ext w f)=>ih (n-q) av (H2.ext b) B2 (pD hw b.size) (by omega));have b8:Hid (l.take q ++ l.drop q=l):=qh (rB q l);have bx:=qh hb;have bm:(l.take q).length=q:=H1.len;have bn:(l.drop q).length=n-q:=H2.len;generalize l.take q=u1 at *
   generalize l.drop q=u2 at *
   clear ih hq ar av H1 H2 h hb
   go_enter func153,ntmps153
   go_upto_region 3 with(fail)
   refine B0
    [hdS a n c,hdS a n c,hdI n,hdI q,hdS a q c,hp (fun v f=>∃ Y n' Z V,v = .slice Y n' Z/\TSl f b0 Y n' Z V/\V.Perm u1/\Pl.desc V),hdS a n c,hdS a n c,hdI n,hdI q,hdS (if c=q then a else a.map (fun x=>x.add (q*5))) (n-q) (c-q),hp (fun v f=>∃ Y n' Z V,v = .slice Y n' Z/\TSl f b0 Y n' Z V/\V.Perm u2/\Pl.desc V)]
    ⟨fun v w w' e ⟨Y,n',Z,V,h1,h2,h3⟩=>⟨Y,n',Z,V,h1,h2.ext e,h3⟩,fun v w w' e ⟨Y,n',Z,V,h1,h2,h3⟩=>⟨Y,n',Z,V,h1,h2.ext e,h3⟩,trivial⟩ ⟨?o0,?o1,?o2,?o3,?o4,?o5,?o6,?o7,?o8,?o9,?o10,?o11,trivial⟩ ?fin
   case o0 | o1 | o6 | o7=>exact omv
   case o2 | o3 | o8 | o9 =>
    refine Aj rfl fun ρ f b m h => ?_
    try have e0:_=_:=h.1
    try have e1:_=_:=h.2.1
    try have e2:_=_:=h.2.2.1
    go_simp
    try (first | (intros;omega) | exact pq _ (by omega))
   case o4 =>
    exact Lr rfl rfl underlying42 B8 (fun _ _ _ h=>⟨h.1,h.2.1⟩) bo
   case o5 =>
    refine Ag rfl fun ρ f b m bi h => ?_;have e1:_=_:=h.2.1;refine⟨153,#[.slice a q c],by go_simp,(bp.out f b).mono ?_⟩;rintro e w' ⟨Y,n',Z,V,rfl,ai,b2,aA,al⟩;exact⟨_,rfl,ai,Y,n',Z,V,rfl,b2,aA,al⟩
   case o10 =>
    exact Ja rfl rfl underlying42 B8 (fun _ _ _ h=>⟨h.1,h.2.1⟩) aa
   case o11 =>
    refine Ag rfl fun ρ f b m bi h => ?_;have e1:_=_:=h.2.1;refine⟨153,#[.slice (if c=q then a else a.map (fun x=>x.add (q*5))) (n-q) (c-q)],by go_simp,(bq.out f b).mono ?_⟩;rintro e w' ⟨Y,n',Z,V,rfl,ai,b2,aA,al⟩;exact⟨_,rfl,ai,Y,n',Z,V,rfl,b2,aA,al⟩
   case fin =>
    intro f b;rintro _ ⟨a1,n1,c1,l1,rfl,t1,p1,I⟩;rintro _ ⟨a2,K,c2,l2,rfl,t2,p2,J⟩;change wpList _ _ _ _ _ _;simp only[Ci];have a4:=b;have a8:=B1.perm p1;have a9:=B2.perm p2;have c4:n1+K<=100000:=by
     have e1:n1=q:=by rw[<-t1.len,p1.length_eq,bm]
     have e2:K=n-q:=by rw[<-t2.len,p2.length_eq,bn]
     omega
    have HP:Hid (∀ o:List Pl.Tm,o.Perm (l1 ++ l2)->o.Perm l):=qh (fun o ho=>by rw[<-b8.out];exact ho.trans (p1.append p2));have b9:Hid (Pl.MS N l1 l2 [] 0 0):=qh (Pl.MS.start I J (fun t ht=>(a8 t ht).1) (fun t ht=>(a9 t ht).1));clear bm bn p1 p2 I J B1 B2 bp bq bN bo bv h2 bg b8 bx;generalize bR:f=w3 at *
    clear bR b;generalize (if c=q then a else a.map (fun x=>x.add (q * 5)))=bW at *
    go_wp2
    go_loopw[5,6,7] (fun ov iv kv wr=>∃ (ao:Option Addr) (no co:Nat) (lo:List Pl.Tm) (i k:Nat),ov = .slice ao no co/\iv = .int .i64 i/\kv = .int .i64 k/\i<=n1/\k<=K/\no<=i+k/\Ext w3 wr/\Hid (TO wr b0 w3.heap.size ao no co lo)/\Hid (Pl.MS N l1 l2 lo i k)) (fun _ iv kv _=>n1+K-(intOf iv+intOf kv).toNat)
    case atStart=>exact⟨none,0,0,[],0,0,rfl,rfl,rfl,pE _,pE _,pE _,Ext.refl _,qh (TO.nil _ _ _),b9⟩
    case round =>
     clear b9;obtain⟨ao,no,co,lo,i,k,rfl,rfl,rfl,c0,c3,c5,hE,HO,HM⟩:=hrel;by_cases hi:i<n1
     · have bK:(i:Int)<n1:=by omega
       by_cases F:k<K
       · have b5:((k:Int) == (K:Int))=false:=by simp;omega
         have bk:(k:Int)<K:=by omega
         obtain⟨M,W,bs,s1,x1,m1,I,y1,g1,h1,p,b3,G,rfl,a5,C,ag,ax,ap,a0⟩:=(t1.ext hE).row hi;have ab:N=b3:=by have h1:=a0.1.len;have h2:=(a8.get (i:=i) (by rw[t1.len];exact hi)).1;omega
         subst ab;have bd:wr.cell? ⟨M,W+i*5+4,none⟩=some (.slice p N G):=by have:=a5.cl hi (j:=4) (by omega);rw[C]at this;exact this
         obtain⟨O,X,bt,s2,x2,m2,J,y2,g2,h2,s,b4,H,rfl,a6,D,ah,ay,aq,a3⟩:=(t2.ext hE).row F;have ac:N=b4:=by have h1:=a3.1.len;have h2:=(a9.get (i:=k) (by rw[t2.len];exact F)).1;omega
         subst ac;have bf:wr.cell? ⟨O,X+k*5+4,none⟩=some (.slice s N H):=by have:=a6.cl F (j:=4) (by omega);rw[D]at this;exact this
         have b6:=qh (fun(wy:World) (b:Ext wr wy)=>FN (a0.1.ext b) (a3.1.ext b) hN (a8.get (i:=i) (by rw[t1.len];exact hi)).2 (a9.get (i:=k) (by rw[t2.len];exact F)).2);obtain⟨r,hr⟩:∃ r,Pl.ordE (l1.getD i tz).1 (l2.getD k tz).1=r:=⟨_,rfl⟩;have HR:=qh hr;rw[hr]at b6;clear hr;obtain⟨bb,ak⟩:∃ bb,decide (0<=r)=bb:=⟨_,rfl⟩
         go_upto_region 7 with(fail)
         have E:=fun(f:World) (b:Ext wr f)=>qh (And.intro (b.cell bd) (b.cell bf))
         refine B0
          [hdI k,hdS (some ⟨O,X,none⟩) K c2,hdI K,hdB false,hdB false,hdI i,hdS (some ⟨M,W,none⟩) n1 c1,hdI n1,hdB true,hdB true,hdS (some ⟨M,W,none⟩) n1 c1,hdI i,hdP M (W+i*5),hdP M ((W+i*5)+4),hdS p N G,hdS (some ⟨O,X,none⟩) K c2,hdI k,hdP O (X+k*5),hdP O ((X+k*5)+4),hdS s N H,hp (fun v f=>v = .int .i64 r),hdB bb,hdB bb,hdB bb]
          ⟨fun v w w' e h=>h,trivial⟩ ⟨?o0,?o1,?o2,?o3,?o4,?o5,?o6,?o7,?o8,?o9,?o10,?o11,?o12,?o13,?o14,?o15,?o16,?o17,?o18,?o19,?o20,?o21,?o22,?o23,trivial⟩ ?fin
         case o0 | o1 | o4 | o5 | o6 | o9 | o10 | o11 | o15 | o16=>exact omv
         case o13 | o18=>exact ofa (d:=4)
         case o14 | o19=>exact ol
         case o2 =>
          refine Aj rfl fun ρ f b m h => ?_;have e0:_=_:=h.1;obtain⟨kx,ky⟩:=(E f b).out;go_simp
         case o3 =>
          refine Aj rfl fun ρ f b m h => ?_;have e0:_=_:=h.1;have e1:_=_:=h.2.1;obtain⟨kx,ky⟩:=(E f b).out;go_simp
          try (first | (intros;omega) | exact pq _ (by omega))
         case o7 =>
          refine Aj rfl fun ρ f b m h => ?_;have e0:_=_:=h.1;obtain⟨kx,ky⟩:=(E f b).out;go_simp
         case o8 =>
          refine Aj rfl fun ρ f b m h => ?_;have e0:_=_:=h.1;have e1:_=_:=h.2.1;obtain⟨kx,ky⟩:=(E f b).out;go_simp
          try (first | (intros;omega) | exact pq _ (by omega))
         case o12 =>
          refine Aj rfl fun ρ f b m h => ?_;have e0:_=_:=h.1;have e1:_=_:=h.2.1;obtain⟨kx,ky⟩:=(E f b).out;go_simp
          try (first | (intros;omega) | exact pq _ (by omega))
         case o17 =>
          refine Aj rfl fun ρ f b m h => ?_;have e0:_=_:=h.1;have e1:_=_:=h.2.1;obtain⟨kx,ky⟩:=(E f b).out;go_simp
          try (first | (intros;omega) | exact pq _ (by omega))
         case o20 =>
          refine Ag rfl fun ρ f b m bi h => ?_;have e1:_=_:=h.2.1;have e2:_=_:=h.2.2.1;obtain⟨kx,ky⟩:=(E f b).out;refine⟨154,#[.slice p N G,.slice s N H],by go_simp,(b6.out f b).mono ?_⟩;rintro e w' ⟨rfl,bG⟩;exact⟨_,rfl,bG.ext,rfl⟩
         case o21 =>
          refine Aj rfl fun ρ f b m h => ?_;obtain⟨v0,e0,rfl⟩:=h.1;obtain⟨kx,ky⟩:=(E f b).out;go_simp
          try exact ak
         case o22 =>
          refine Aj rfl fun ρ f b m h => ?_;have e0:_=_:=h.1;have e1:_=_:=h.2.1;obtain⟨kx,ky⟩:=(E f b).out;go_simp
         case o23 =>
          refine Aj rfl fun ρ f b m h => ?_;have e0:_=_:=h.1;have e2:_=_:=h.2.2.1;obtain⟨kx,ky⟩:=(E f b).out;go_simp
         case fin =>
          intro f b;rintro _ rfl;change wpList _ _ _ _ _ _;simp only[Ci];have b7:=qh ak;clear ak;cases bb;rotate_left
          · obtain⟨ad,hK,R,Q⟩:=HO.out;have A:=hK.ext ((b).alloc (.cells (tL s1 x1 m1 I y1 g1 h1 p N G).toArray 103));have hL:=BT (k:=5) (Arr.new f 103 (tL s1 x1 m1 I y1 g1 h1 p N G)) rfl;have T:=a5.ext (b);have g:=(Ext.refl f).alloc (.cells (tL s1 x1 m1 I y1 g1 h1 p N G).toArray 103);have z:=hE.trans (b);have b1:=z.size;have U:(tL s1 x1 m1 I y1 g1 h1 p N G).toArray=#[.bool s1,.slice x1 m1 I,.bool false,.slice y1 g1 h1,.slice p N G]:=rfl
            go_wp2_with(first
             | (refine Bg rfl rfl Rq rfl T hi ?_;rw[C,U])
             | (refine Dn rfl rfl underlying42 B8 rfl A rfl hL (by intro r hr u hu;rw[pF.1 hr]at hu;exact FM u hu) (by unfold maxLen;omega) (by omega) (by simp;omega) ?_;intro a7 c7 w7 S B aj))
            have L:=TO.grow A R (fun j hj=>(Q j hj).ext ((b).trans g)) (⟨s1,x1,m1,I,y1,g1,h1,p,N,G,rfl,ag,ax.ext ((b).trans g),ap.ext ((b).trans g),a0.ext ((b).trans g)⟩:TC _ b0 _ (l1.getD i tz)) (pD hw a4.size) S B;have P:Ext w3 w7:=(z.trans g).grown B (fun k F=>(hK.lt F).1);go_roundw
            case rel=>exact⟨a7,no+1,c7,lo ++ [l1.getD i tz],i+1,k,rfl,by go_num,by go_num,by omega,by omega,by omega,P,qh L,qh (HM.out.left (getD_some (by rw[t1.len];exact hi)) (fun y hy=>by rw[getD_some (by rw[t2.len];exact F)]at hy;rw[<-tZ hy,HR.out];exact rL b7.out))⟩
            case measure=>simp[intOf];omega
          · obtain⟨ad,hK,R,Q⟩:=HO.out;have A:=hK.ext ((b).alloc (.cells (tL s2 x2 m2 J y2 g2 h2 s N H).toArray 103));have hL:=BT (k:=5) (Arr.new f 103 (tL s2 x2 m2 J y2 g2 h2 s N H)) rfl;have T:=a6.ext (b);have g:=(Ext.refl f).alloc (.cells (tL s2 x2 m2 J y2 g2 h2 s N H).toArray 103);have z:=hE.trans (b);have b1:=z.size;have U:(tL s2 x2 m2 J y2 g2 h2 s N H).toArray=#[.bool s2,.slice x2 m2 J,.bool false,.slice y2 g2 h2,.slice s N H]:=rfl
            go_wp2_with(first
             | (refine Bg rfl rfl Rq rfl T F ?_;rw[D,U])
             | (refine Dn rfl rfl underlying42 B8 rfl A rfl hL (by intro r hr u hu;rw[pF.1 hr]at hu;exact FM u hu) (by unfold maxLen;omega) (by omega) (by simp;omega) ?_;intro a7 c7 w7 S B aj))
            have L:=TO.grow A R (fun j hj=>(Q j hj).ext ((b).trans g)) (⟨s2,x2,m2,J,y2,g2,h2,s,N,H,rfl,ah,ay.ext ((b).trans g),aq.ext ((b).trans g),a3.ext ((b).trans g)⟩:TC _ b0 _ (l2.getD k tz)) (pD hw a4.size) S B;have P:Ext w3 w7:=(z.trans g).grown B (fun k F=>(hK.lt F).1);go_roundw
            case rel=>exact⟨a7,no+1,c7,lo ++ [l2.getD k tz],i,k+1,rfl,by go_num,by go_num,by omega,by omega,by omega,P,qh L,qh (HM.out.right (getD_some (by rw[t2.len];exact F)) (fun x hx=>by rw[getD_some (by rw[t1.len];exact hi)]at hx;rw[<-tZ hx,Pl.ordE_anti,HR.out];have:=of_decide_eq_false b7.out;omega))⟩
            case measure=>simp[intOf];omega
       · have b5:((k:Int) == (K:Int))=true:=by simp;omega
         obtain⟨M,W,bs,s1,x1,m1,I,y1,g1,h1,p,b3,G,rfl,a5,C,ag,ax,ap,a0⟩:=(t1.ext hE).row hi;have ab:N=b3:=by have h1:=a0.1.len;have h2:=(a8.get (i:=i) (by rw[t1.len];exact hi)).1;omega
         subst ab;have bd:wr.cell? ⟨M,W+i*5+4,none⟩=some (.slice p N G):=by have:=a5.cl hi (j:=4) (by omega);rw[C]at this;exact this
         go_upto_region 7 with(fail)
         go_quiet (fail)
         have b:Ext wr (wr.drewN nq):=(Qt.drewN (Qt.refl wr) nq).ext;generalize wr.drewN nq=f at *
         obtain⟨ad,hK,R,Q⟩:=HO.out;have A:=hK.ext ((b).alloc (.cells (tL s1 x1 m1 I y1 g1 h1 p N G).toArray 103));have hL:=BT (k:=5) (Arr.new f 103 (tL s1 x1 m1 I y1 g1 h1 p N G)) rfl;have T:=a5.ext (b);have g:=(Ext.refl f).alloc (.cells (tL s1 x1 m1 I y1 g1 h1 p N G).toArray 103);have z:=hE.trans (b);have b1:=z.size;have U:(tL s1 x1 m1 I y1 g1 h1 p N G).toArray=#[.bool s1,.slice x1 m1 I,.bool false,.slice y1 g1 h1,.slice p N G]:=rfl
         go_wp2_with(first
          | (refine Bg rfl rfl Rq rfl T hi ?_;rw[C,U])
          | (refine Dn rfl rfl underlying42 B8 rfl A rfl hL (by intro r hr u hu;rw[pF.1 hr]at hu;exact FM u hu) (by unfold maxLen;omega) (by omega) (by simp;omega) ?_;intro a7 c7 w7 S B aj))
         have L:=TO.grow A R (fun j hj=>(Q j hj).ext ((b).trans g)) (⟨s1,x1,m1,I,y1,g1,h1,p,N,G,rfl,ag,ax.ext ((b).trans g),ap.ext ((b).trans g),a0.ext ((b).trans g)⟩:TC _ b0 _ (l1.getD i tz)) (pD hw a4.size) S B;have P:Ext w3 w7:=(z.trans g).grown B (fun k F=>(hK.lt F).1);go_roundw
         case rel=>exact⟨a7,no+1,c7,lo ++ [l1.getD i tz],i+1,k,rfl,by go_num,by go_num,by omega,by omega,by omega,P,qh L,qh (HM.out.left (getD_some (by rw[t1.len];exact hi)) (fun y hy=>by rw[pV (by rw[t2.len];omega)]at hy;cases hy))⟩
         case measure=>simp[intOf];omega
     · have bK:¬ (i:Int)<n1:=by omega
       by_cases F:k<K
       · have b5:((k:Int) == (K:Int))=false:=by simp;omega
         have bk:(k:Int)<K:=by omega
         obtain⟨O,X,bt,s2,x2,m2,J,y2,g2,h2,s,b4,H,rfl,a6,D,ah,ay,aq,a3⟩:=(t2.ext hE).row F;have ac:N=b4:=by have h1:=a3.1.len;have h2:=(a9.get (i:=k) (by rw[t2.len];exact F)).1;omega
         subst ac;have bf:wr.cell? ⟨O,X+k*5+4,none⟩=some (.slice s N H):=by have:=a6.cl F (j:=4) (by omega);rw[D]at this;exact this
         go_upto_region 7 with(fail)
         go_quiet (fail)
         have b:Ext wr (wr.drewN nq):=(Qt.drewN (Qt.refl wr) nq).ext;generalize wr.drewN nq=f at *
         obtain⟨ad,hK,R,Q⟩:=HO.out;have A:=hK.ext ((b).alloc (.cells (tL s2 x2 m2 J y2 g2 h2 s N H).toArray 103));have hL:=BT (k:=5) (Arr.new f 103 (tL s2 x2 m2 J y2 g2 h2 s N H)) rfl;have T:=a6.ext (b);have g:=(Ext.refl f).alloc (.cells (tL s2 x2 m2 J y2 g2 h2 s N H).toArray 103);have z:=hE.trans (b);have b1:=z.size;have U:(tL s2 x2 m2 J y2 g2 h2 s N H).toArray=#[.bool s2,.slice x2 m2 J,.bool false,.slice y2 g2 h2,.slice s N H]:=rfl
         go_wp2_with(first
          | (refine Bg rfl rfl Rq rfl T F ?_;rw[D,U])
          | (refine Dn rfl rfl underlying42 B8 rfl A rfl hL (by intro r hr u hu;rw[pF.1 hr]at hu;exact FM u hu) (by unfold maxLen;omega) (by omega) (by simp;omega) ?_;intro a7 c7 w7 S B aj))
         have L:=TO.grow A R (fun j hj=>(Q j hj).ext ((b).trans g)) (⟨s2,x2,m2,J,y2,g2,h2,s,N,H,rfl,ah,ay.ext ((b).trans g),aq.ext ((b).trans g),a3.ext ((b).trans g)⟩:TC _ b0 _ (l2.getD k tz)) (pD hw a4.size) S B;have P:Ext w3 w7:=(z.trans g).grown B (fun k F=>(hK.lt F).1);go_roundw
         case rel=>exact⟨a7,no+1,c7,lo ++ [l2.getD k tz],i,k+1,rfl,by go_num,by go_num,by omega,by omega,by omega,P,qh L,qh (HM.out.right (getD_some (by rw[t2.len];exact F)) (fun x hx=>by rw[pV (by rw[t1.len];omega)]at hx;cases hx))⟩
         case measure=>simp[intOf];omega
       · have bk:¬ (k:Int)<K:=by omega
         have bj:i=n1:=by omega
         have bl:k=K:=by omega
         have ba:=HM.out;rw[bj,bl,<-t1.len,<-t2.len]at ba;have bz:=HO.out.sl;clear bj bl;go_wp2;go_ret;exact⟨ao,no,co,lo,rfl,a4.trans hE,bz,HP.out lo ba.done,HM.out.d⟩
end Go.Proofs.YtlbmnokpiilfpaaGreatDoor
namespace Go.Proofs.YtlbmnokpiilfpaaGreatDoor.Pl
variable {b i k n:Nat} {c:Rat}
def SubOK(l:List Tm):Prop:=∀ a s,(a ++ s).Perm l->∀ e,RB 1000000 (coef a e)
theorem SubOK.perm{l b:List Tm}(h:SubOK l)(p:b.Perm l):SubOK b:=fun a s hp e=>h a s (hp.trans p) e
theorem SubOK.one{l:List Tm}(h:SubOK l){t:Tm}(d:t∈l):RB 1000000 t.2:=by
 obtain⟨b,c,rfl⟩:=List.append_of_mem d;have:=h [t] (b ++ c) (by simpa using(List.perm_middle (a:=t) (l₁:=b) (l₂:=c)).symm) t.1;simp only[coef,tM]at this
 rwa[Rat.add_zero]at this
theorem SubOK.of_rb{l:List Tm}(d:1<=b)(h:∀ t∈l,RB b t.2)(g:l.length*(b+1)+1<=1000000):SubOK l:=by
 intro a s hp e;have f:∀ t∈a,t∈l:=fun t c=>hp.subset (List.mem_append_left _ c);have h1:=RB.coef d e (l:=a) (fun t c=>h t (f t c));refine h1.mono ?_;have h2:a.length<=l.length:=by have:=hp.length_eq;simp at this;omega
 have h3:a.length*(b+1)<=l.length*(b+1):=px _ h2;omega
structure SS(s out:List Tm)(i:Nat):Prop where
 le:i<=s.length
 eq:grp s=out ++ grp (s.drop i)
theorem SS.start(s:List Tm):SS s [] 0:=⟨pE _,by simp⟩
theorem SS.done{s out:List Tm}(h:SS s out s.length):out=grp s:=by
 have:=h.eq;rw[List.drop_length,EW,rD]at this;exact this.symm
structure SI(s:List Tm)(i k:Nat)(x:Tm)(c:Rat):Prop where
 hx:s[i]?=some x
 ik:i<k
 le:k<=s.length
 hc:H7 x.1 x.2 (s.drop (i+1))=H7 x.1 c (s.drop k)
 hr:DH x.1 (s.drop (i+1))=DH x.1 (s.drop k)
 hv:c=coef ((s.drop i).take (k-i)) x.1
theorem SI.start{s:List Tm}{x:Tm}(h:s[i]?=some x):SI s i (i+1) x x.2:=by
 have a:i<s.length:=(qD.1 h).1;have b:s[i]=x:=(qD.1 h).2;refine⟨h,by omega,by omega,rfl,rfl,?_⟩;rw[qo a,b,show i+1-i=1 by omega];simp only[List.take_succ_cons,rf,coef,tM];rw[Rat.add_zero]
theorem SI.step{s:List Tm}{x:Tm}(h:SI s i k x c){y:Tm}(d:s[k]?=some y)(he:x.1=y.1):SI s i (k+1) x (c+y.2):=by
 have f:k<s.length:=(qD.1 d).1;have a:s[k]=y:=(qD.1 d).2;have b:s.drop k=y :: s.drop (k+1):=by rw[qo f,a]
 have e:=h.ik;refine⟨h.hx,by omega,by omega,?_,?_,?_⟩
 · rw[h.hc,b];simp only[H7,pP he]
 · rw[h.hr,b];simp only[DH,pP he]
 · have h1:(s.drop i).take (k+1-i)=(s.drop i).take (k-i) ++ [y]:=by
    have h2:k-i<(s.drop i).length:=by rw[tf];omega
    rw[show k+1-i=k-i+1 by omega,pB h2];congr 2;rw[List.getElem_drop];have:i+(k-i)=k:=by omega
    simp only[this];exact a
   rw[h1,coef_app,<-h.hv];simp only[coef,pP he.symm];rw[Rat.add_zero]
theorem SI.rb{s:List Tm}{x:Tm}(h:SI s i k x c)(b:SubOK s):RB 1000000 c:=by
 rw[h.hv];refine b _ (s.take i ++ s.drop k) ?_ _;have e:s=s.take i ++ ((s.drop i).take (k-i) ++ s.drop k):=by
  have a:s.drop k=(s.drop i).drop (k-i):=by rw[wP];congr 1;have:=h.ik;omega
  rw[a,rB,rB]
 have p:((s.drop i).take (k-i) ++ (s.take i ++ s.drop k)).Perm (s.take i ++ ((s.drop i).take (k-i) ++ s.drop k)):=by
  rw[<-qi,<-qi];exact List.perm_append_comm.append_right _
 exact p.trans (List.Perm.of_eq e.symm)
theorem SI.stop{s out:List Tm}{x:Tm}(h:SI s i k x c)(g:SS s out i)(l:∀ y,s[k]?=some y->x.1≠y.1):SS s (if c=0 then out else out ++ [(x.1,c)]) k:=by
 have e:i<s.length:=(qD.1 h.hx).1;have j:s[i]=x:=(qD.1 h.hx).2;have h1:H7 x.1 c (s.drop k)=c/\DH x.1 (s.drop k)=s.drop k:=by
  by_cases b:k<s.length
  · have d:s.drop k=s[k] :: s.drop (k+1):=qo b;have f:=l s[k] (oO b);rw[d];simp only[H7,DH,pC f];exact⟨trivial,trivial⟩
  · rw[qm (by omega)];exact⟨rfl,rfl⟩
 refine⟨h.le,?_⟩;rw[g.eq,qo e,j,GK,h.hc,h.hr,h1.1,h1.2];by_cases a:c=0
 · simp only[pP a,qR]
 · simp only[pC a,qi]
theorem grp_sum{l s:List Tm}(b:∀ t∈l,t.1.length=n)(hp:s.Perm l)(a:desc s):Canon n (grp s)/\∀ e,coef (grp s) e=coef l e :=
 ⟨LL _ s (lrf _) (fun t c=>b t (hp.subset c)) a,fun e=>(NS _ s (lrf _) e).trans (coef_perm hp e)⟩
end Go.Proofs.YtlbmnokpiilfpaaGreatDoor.Pl
namespace Go.Proofs.YtlbmnokpiilfpaaGreatDoor
open Tryz Go Go.RowKit
variable {y z:Int} {rows:List (List Value)} {ps:List Nat} {d l r:List UInt8} {cs xs ys zs:List Value} {N T b0 base base' bytes c g k n x:Nat} {a a':Option Addr} {row:Option Nat} {P:Program} {p q:Rat} {e e' t:TypeId} {v v':Value} {w w':World}
theorem KG(h:ZR w v z)(h':ZR w v' y)(bz:z.natAbs<P2 3200000)(al:y.natAbs<P2 3200000)(c0:0<y){q:Rat}(hq:q=mkRat z y.natAbs):Calls prog 151 #[v,v'] w (OL w q):=by
 have bf:y.natAbs≠0:=by omega
 have ca:0<Int.gcd z y:=vd _ (by omega);have HP:=qh (Pl.rat_frac (n:=z) bf);rw[<-hq]at HP;have bN:(Int.gcd z y)<=y.natAbs:=Nat.gcd_le_right _ (by omega);have e1:z.tdiv ((Int.gcd z y:Nat):Int)=q.num:=HP.out.1.symm;have e2:y.tdiv ((Int.gcd z y:Nat):Int)=(q.den:Int):=by
  rw[HP.out.2];have c2:y=(y.natAbs:Int):=by omega
  rw[c2,pX];rfl
 have C:(q.den:Int).natAbs<P2 3200000:=by
  have:=HP.out.2;have h2:=qE y.natAbs (Nat.gcd z.natAbs y.natAbs);omega
 have H0:=h;have aj:=h';obtain⟨s,a,n,c,rfl,HS,hx⟩:=h;obtain⟨t,b,m,d,rfl,HT,hy⟩:=h';have ht:t=false:=by have:=HT.out;rw[<-this];exact pN (by omega)
 subst ht;have aA:=qh (fun(wx:World) (hC:Ext w wx)=>VN (H0.ext hC) (aj.ext hC) bz al);have ax:=qh (fun(wx:World) (vg:Value) (hg:ZR wx vg (Int.gcd z y:Nat))=>KE hg (by rw[pX];omega));have P:=qh (fun(wx:World) (hC:Ext w wx) (vg:Value) (hg:ZR wx vg (Int.gcd z y:Nat))=>KD (H0.ext hC) hg bz (by omega));have Q:=qh (fun(wx:World) (hC:Ext w wx) (vg:Value) (hg:ZR wx vg (Int.gcd z y:Nat))=>KD (aj.ext hC) hg al (by omega));rw[e1]at P;rw[e2]at Q;have E1:=qh e1;have E2:=qh e2;have BD:=qh C
 have b0:Int.gcd z y=1->z=q.num/\y=(q.den:Int):=by
  intro h1;rw[h1]at e1 e2;simp at e1 e2;exact⟨e1,e2⟩
 have HK:=qh b0;clear e1 e2 C b0 HP hq bf bN H0 aj E1 E2 bz al c0;generalize Int.gcd z y=g at *
 go_enter func151,ntmps151
 go_upto_region 1 with(fail)
 refine CO ?_;intro w0 b4 a8 a9 b3 bo;have ab:=a8.c 0 rfl;have ac:=a8.c 1 rfl;have a6:=a9.c 0 rfl;have a7:=a9.c 1 rfl;have hR:Arr w0 (w.heap.size+2) 99 (Al false none 0 0 false none 0 0):=b3;have O:Arr w0 w.heap.size 97 (Ac s a n c):=a8;have N:Arr w0 (w.heap.size+1) 97 (Ac false b m d):=a9;have bl:w.heap.size+2<w0.heap.size:=by rw[bo];omega
 clear bo a8 a9 b3
 go_wp2_with fail
 refine(aA.out _ b4).mono ?_;rintro e w1 ⟨sg,ag,ng,cg,rfl,ao,ak,bm⟩
 go_upto_region 4 with(refine Aa (vs:=Ac sg ag ng cg) rfl rfl rfl rfl rfl A6 (Arr.new _ _ _) rfl (Ae _ _ _ _) ?_;intro w2 hG bd)
 have ap:Ext w1 w2:=((Ext.refl w1).alloc _).grownR bd (lrf _);have B:=ao.trans ap;have bL:=b4.trans B;have cb:w.heap.size+2<w1.heap.size:=pS bl ao.size;have ah:Mg w2 ag ng cg ((g:Nat):Int).natAbs:=bm.ext ap;have q0:=hG.c 0 rfl;have q1:=hG.c 1 rfl;have N2:=O.ext B;have D2:=N.ext B;have R2:=hR.ext B;clear O N hR ab ac a6 a7 bd aA ao ap B bm bl;generalize w1.heap.size=G at *
 go_wp2_with fail
 refine(ax.out _ _ ⟨sg,ag,ng,cg,rfl,ak,ah⟩).mono ?_;rintro e w3 ⟨kk,rfl,J,cc,-,aa⟩;have o:=bL.trans J;have N3:=N2.ext J;have D3:=D2.ext J;have R3:=R2.ext J;have ar:=J.cell q0;have av:=J.cell q1;have ai:=ah.ext J;have ab:=N3.c 0 rfl;have ac:=N3.c 1 rfl;have a6:=D3.c 0 rfl;have a7:=D3.c 1 rfl;clear N2 D2 R2 q0 q1 ah ax hG;by_cases bb:1<g
 · have bt:(1:Int)<kk:=by have:=aa.2 (by simpa using bb);omega
   clear aa HK
   go_wp2_with fail
   refine(P.out _ o _ ⟨sg,ag,ng,cg,rfl,ak,ai⟩).mono ?_;rintro e w4 ⟨s1,a1,n1,c1,_,_,_,_,rfl,p,⟨E,l⟩,_⟩;have N4:=N3.ext p;clear ab ac;have bv:=p.cell a6;have bG:=p.cell a7;have bq:=p.cell ar;have bs:=p.cell av
   go_upto_region 6 with(refine Aa (vs:=Ac s1 a1 n1 c1) rfl rfl rfl rfl rfl A6 N4 rfl (Ae _ _ _ _) ?_;intro w5 N5 D)
   have b5:=(o.trans p).grownR D (by omega);have D5:=(D3.ext p).kept D (by simp);have R5:=(R3.ext p).kept D (by simp);have b1:=l.keptA N4 (by decide) D;have b2:=(ai.ext p).keptA N4 (by decide) D;have bx:=D5.c 0 rfl;have bK:=D5.c 1 rfl;have c8:=D.cell (a:=⟨G,0,none⟩) bq (by simp;omega);have c9:=D.cell (a:=⟨G,1,none⟩) bs (by simp;omega);clear a6 a7 ar av bv bG bq bs N3 D3 R3 ai P D N4 l
   go_wp2_with fail
   refine(Q.out _ b5 _ ⟨sg,ag,ng,cg,rfl,ak,b2⟩).mono ?_;rintro e w6 ⟨S,a3,n3,c3,_,_,_,_,rfl,a2,⟨F,A⟩,_⟩;have D6:=D5.ext a2;clear bx bK c8 c9
   go_upto_region 7 with(refine Aa (vs:=Ac S a3 n3 c3) rfl rfl rfl rfl rfl A6 D6 rfl (Ae _ _ _ _) ?_;intro wt N R)
   have b6:=(b5.trans a2).grownR R (by omega);have O:=(N5.ext a2).kept R (by simp);have hR:=(R5.ext a2).kept R (by simp);have l:=(b1.ext a2).keptA D6 (by decide) R;have A:=A.keptA D6 (by decide) R;clear N5 R5 D5 D6 R Q b2 b1;have C:=qh (KE (v := .agg (Ac S a3 n3 c3).toArray) ⟨S,a3,n3,c3,rfl,F,A⟩ BD.out);clear BD;have T:=O.c 0 rfl;have V:=O.c 1 rfl;have X:=N.c 0 rfl;have Z:=N.c 1 rfl
   go_wp2_with fail
   refine C.out.mono ?_;rintro e w7 ⟨kd,rfl,f,bW,r,-⟩;have a4:=O.ext f;have I:=N.ext f;have L:=hR.ext f;have U:=f.cell T;have W:=f.cell V;have Y:=f.cell X;have ad:=f.cell Z;clear T V X Z O N hR C;by_cases x:kd=1
   · have k:q.den=1:=by have:=r.1 x;omega
     have HQ:=qh (CG k);subst x;clear r k
     go_upto_region 9 with(refine Aa (vs:=Ac false none 0 0) rfl rfl rfl rfl rfl A6 I rfl (Ae _ _ _ _) ?_;intro w8 a0 j)
     have a5:=a4.kept j (by simp);have i:=L.kept j (by simp);have c4:=a5.c 0 rfl;have c5:=a5.c 1 rfl;have c6:=a0.c 0 rfl;have c7:=a0.c 1 rfl;have K:=(b6.trans f).grownR j (by omega);have aq:=(l.ext f).keptA I (by decide) j;clear U W Y ad a4 I L j
     go_wp2_with(refine Aa (vs:=Al s1 a1 n1 c1 false none 0 0) rfl rfl rfl rfl rfl By i rfl (Aq _ _ _ _ _ _ _ _) ?_;intro w9 H M)
     exact py (Ap rfl By rfl H) rfl (Fj K i (by decide) M (by omega) E aq (by rw[HQ.out];exact Mg.nil _))
   · have k:q.den≠1:=fun h=>x (r.2 (by omega));have HQ:=qh (Bi k);have bR:((kd:Int) == 1)=false:=by simp;omega
     have HF:Hid (S=false):=qh (by have:=F.out;rw[<-this];exact pN (by omega));clear r k x;have i:=L;have K:=b6.trans f
     go_wp2_with(refine Aa (vs:=Al s1 a1 n1 c1 S a3 n3 c3) rfl rfl rfl rfl rfl By i rfl (Aq _ _ _ _ _ _ _ _) ?_;intro w9 H M)
     refine py (Ap rfl By rfl H) rfl ?_;rw[HF.out];exact Fj K i (by decide) M (by omega) E (l.ext f) (by rw[HQ.out];exact A.ext f)
 · have ay:g=1:=by omega
   obtain⟨bp,bn⟩:=HK.out ay;have bt:¬ (1:Int)<kk:=by have:=mt aa.1 (by simp;omega);omega
   have O:=N3;have N:=D3;have hR:=R3;have E:=HS;have F:=HT;have l:=hx.ext o;have A:=hy.ext o;rw[bp]at E l;rw[bn]at F A;clear N3 D3 R3 ab ac a6 a7 ar av aa HK P Q bb ay bp bn hx hy HS HT;obtain⟨s1,bj⟩:∃ s1,s1=s:=⟨_,rfl⟩;obtain⟨S,bk⟩:∃ S,S=false:=⟨_,rfl⟩;obtain⟨a1,b7⟩:∃ a1,a1=a:=⟨_,rfl⟩;obtain⟨n1,bg⟩:∃ n1,n1=n:=⟨_,rfl⟩;obtain⟨c1,b9⟩:∃ c1,c1=c:=⟨_,rfl⟩;obtain⟨a3,b8⟩:∃ a3,a3=b:=⟨_,rfl⟩;obtain⟨n3,bi⟩:∃ n3,n3=m:=⟨_,rfl⟩;obtain⟨c3,ba⟩:∃ c3,c3=d:=⟨_,rfl⟩;rw[<-bj]at E O;rw[<-b7,<-bg,<-b9]at l O;rw[<-bk]at F N
   rw[<-b8,<-bi,<-ba]at A N;clear bj bk b7 bg b9 b8 bi ba;have C:=qh (KE (v := .agg (Ac S a3 n3 c3).toArray) ⟨S,a3,n3,c3,rfl,F,A⟩ BD.out);clear BD;have T:=O.c 0 rfl;have V:=O.c 1 rfl;have X:=N.c 0 rfl;have Z:=N.c 1 rfl
   go_wp2_with fail
   refine C.out.mono ?_;rintro e w7 ⟨kd,rfl,f,bW,r,-⟩;have a4:=O.ext f;have I:=N.ext f;have L:=hR.ext f;have U:=f.cell T;have W:=f.cell V;have Y:=f.cell X;have ad:=f.cell Z;clear T V X Z O N hR C;by_cases x:kd=1
   · have k:q.den=1:=by have:=r.1 x;omega
     have HQ:=qh (CG k);subst x;clear r k
     go_upto_region 9 with(refine Aa (vs:=Ac false none 0 0) rfl rfl rfl rfl rfl A6 I rfl (Ae _ _ _ _) ?_;intro w8 a0 j)
     have a5:=a4.kept j (by simp);have i:=L.kept j (by simp);have c4:=a5.c 0 rfl;have c5:=a5.c 1 rfl;have c6:=a0.c 0 rfl;have c7:=a0.c 1 rfl;have K:=(o.trans f).grownR j (by omega);have aq:=(l.ext f).keptA I (by decide) j;clear U W Y ad a4 I L j
     go_wp2_with(refine Aa (vs:=Al s1 a1 n1 c1 false none 0 0) rfl rfl rfl rfl rfl By i rfl (Aq _ _ _ _ _ _ _ _) ?_;intro w9 H M)
     exact py (Ap rfl By rfl H) rfl (Fj K i (by decide) M (by omega) E aq (by rw[HQ.out];exact Mg.nil _))
   · have k:q.den≠1:=fun h=>x (r.2 (by omega));have HQ:=qh (Bi k);have bR:((kd:Int) == 1)=false:=by simp;omega
     have HF:Hid (S=false):=qh (by have:=F.out;rw[<-this];exact pN (by omega));clear r k x;have i:=L;have K:=o.trans f
     go_wp2_with(refine Aa (vs:=Al s1 a1 n1 c1 S a3 n3 c3) rfl rfl rfl rfl rfl By i rfl (Aq _ _ _ _ _ _ _ _) ?_;intro w9 H M)
     refine py (Ap rfl By rfl H) rfl ?_;rw[HF.out];exact Fj K i (by decide) M (by omega) E (l.ext f) (by rw[HQ.out];exact A.ext f)
theorem Qb(h:p.den=1)(b:q.den=1):p*q=((p.num*q.num:Int):Rat):=by
 have a:=Pl.rat_mul_whole p q h b;exact Rat.ext a.1 a.2
theorem Qc(h:p.den=1)(c:q.den=1):p+q=((p.num+q.num:Int):Rat):=by
 have a:p=(p.num:Rat):=Rat.ext rfl h;have b:q=(q.num:Rat):=Rat.ext rfl c;rw[Rat.intCast_add,<-a,<-b]
theorem KH(h:QV w v p)(h':QV w v' q)(bp:Pl.RB 1000000 p)(bq:Pl.RB 1000000 q):Calls prog 167 #[v,v'] w (OL w (p*q)):=by
 have h0:=h;have a4:=h';obtain⟨s,a,n,c,b,m,d,rfl,HS,hx,hy⟩:=h;obtain⟨A,r,z,t,b',m',d',rfl,a3,I,J⟩:=h';by_cases hw:p.den=1/\q.den=1
 · obtain⟨h1,h2⟩:=hw;have ai:m=0:=hy.zero.2 (CG h1);have a8:m'=0:=J.zero.2 (CG h2);have HV:Hid (p*q=((p.num*q.num:Int):Rat)):=qh (Qb h1 h2);have ao:=qh (fun(f:World) (g:Ext w f)=>Gb (v := .agg #[.bool s,.slice a n c]) (v' := .agg #[.bool A,.slice r z t]) ⟨s,a,n,c,rfl,HS,hx.ext g⟩ ⟨A,r,z,t,rfl,a3,I.ext g⟩ (Af bp.1 (by omega)) (Af bq.1 (by omega)));subst ai a8;clear h1 h2 bp bq hx hy I J
   go_enter func167,ntmps167
   go_upto_region 1 with(fail)
   refine CO ?_;intro w0 B i j W Z;have p0:=i.c 0 rfl;have p1:=i.c 1 rfl;have p2:=i.c 2 rfl;have p3:=i.c 3 rfl;have q0:=j.c 0 rfl;have q1:=j.c 1 rfl;have q2:=j.c 2 rfl;have q3:=j.c 3 rfl;have hR:Arr w0 (w.heap.size+2) 99 (Al false none 0 0 false none 0 0):=W;clear Z
   go_wp2_with fail
   refine(ao.out _ B).mono ?_;rintro e w1 ⟨s1,F,S,G,rfl,a5,aa,aq⟩;have E:=hR.ext a5;have bg:(Ac s1 F S G).toArray=#[.bool s1,.slice F S G]:=rfl
   go_wp2_with(refine Aa (vs:=Al s1 F S G false none 0 0) rfl rfl rfl rfl rfl By E rfl (Aq _ _ _ _ _ _ _ _) ?_;intro w9 X Y)
   refine py (Ap rfl By rfl X) rfl ?_;rw[HV.out];exact KF (B.trans a5) E (by decide) Y (by omega) aa aq
 · have H0:=h0;have a0:=a4;have ap:((m:Int) == 0)=true/\((m':Int) == 0)=false\/((m:Int) == 0)=false:=by
    rcases pT m with h1|h1
    · refine Or.inl ⟨by simp[h1],?_⟩;have h4:m'≠0:=fun h2=>hw ⟨?_,?_⟩
      · simpa using h4
      · exact pQ fun h3=>p.den_nz (by have:=hy.zero.1 h1;rw[Bi h3]at this;exact this)
      · exact pQ fun h3=>q.den_nz (by have:=J.zero.1 h2;rw[Bi h3]at this;exact this)
    · exact Or.inr (by simp;omega)
   have ac:=qh (fun(f:World) (g:Ext w f)=>Jv (H0.ext g));have ad:=qh (fun(f:World) (g:Ext w f)=>Jv (a0.ext g));have U:((p.den:Int)).natAbs<P2 1000000:=by rw[pX];exact bp.2
   have V:((q.den:Int)).natAbs<P2 1000000:=by rw[pX];exact bq.2
   have up:=fun {x:Nat} (h:x<P2 1000000)=>Af (b:=3200000) h (by omega);have mb:=fun {x y:Int} (h:x.natAbs<P2 1000000) (h':y.natAbs<P2 1000000)=>(show(x*y).natAbs<P2 (1000000+1000000) by rw[qW];exact BJ h h');have a7:0<(p.den:Int)*(q.den:Int):=Int.mul_pos (by have:=p.den_pos;omega) (by have:=q.den_pos;omega);have a6:((p.den:Int)*(q.den:Int)).natAbs=p.den*q.den:=by rw[qW,pX,pX]
   have aj:=qh (fun(f:World) (g:Ext w f)=>Gb (v := .agg #[.bool s,.slice a n c]) (v' := .agg #[.bool A,.slice r z t]) ⟨s,a,n,c,rfl,HS,hx.ext g⟩ ⟨A,r,z,t,rfl,a3,I.ext g⟩ (up bp.1) (up bq.1));have ak:=qh (fun(f:World) (x y:Value) (h1:ZR f x (p.den:Int)) (h2:ZR f y (q.den:Int))=>Gb h1 h2 (up U) (up V));have ag:=qh (fun(f:World) (x y:Value) (h1:ZR f x (p.num*q.num)) (h2:ZR f y ((p.den:Int)*(q.den:Int)))=>KG h1 h2 (Af (mb bp.1 bq.1) (by omega)) (Af (mb U V) (by omega)) a7 (q:=p*q) (by rw[a6];exact Rat.mul_def' p q))
   clear hx hy I J hw H0 a0 h0 a4 bp bq U V up mb a7 a6
   go_enter func167,ntmps167
   go_upto_region 1 with(fail)
   refine CO ?_;intro w0 B i j W Z;have p0:=i.c 0 rfl;have p1:=i.c 1 rfl;have p2:=i.c 2 rfl;have p3:=i.c 3 rfl;have q0:=j.c 0 rfl;have q1:=j.c 1 rfl;have q2:=j.c 2 rfl;have q3:=j.c 3 rfl;have hR:Arr w0 (w.heap.size+2) 99 (Al false none 0 0 false none 0 0):=W;clear Z;rcases ap with⟨al,bi⟩|al
   all_goals
    go_upto_region 3 with(fail)
    have D:=fun(f:World) (g:Ext w0 f)=>qh (And.intro (g.cell p0) (And.intro (g.cell p1) (And.intro (g.cell p2) (And.intro (g.cell p3) (And.intro (g.cell q0) (And.intro (g.cell q1) (And.intro (g.cell q2) (g.cell q3))))))))
    refine B0
     [hdP w.heap.size 0,he (.agg #[.bool s,.slice a n c]),hdP (w.heap.size+1) 0,he (.agg #[.bool A,.slice r z t]),hp (fun v f=>ZR f v (p.num*q.num)),he (.agg #[.bool s,.slice a n c,.bool false,.slice b m d]),hp (fun v f=>ZR f v ((p.den:Int))),he (.agg #[.bool A,.slice r z t,.bool false,.slice b' m' d']),hp (fun v f=>ZR f v ((q.den:Int))),hp (fun v f=>ZR f v ((p.den:Int)*(q.den:Int))),hp (fun v f=>QV f v (p*q))]
     ⟨fun v w T e h=>ZR.ext h e,fun v w T e h=>ZR.ext h e,fun v w T e h=>ZR.ext h e,fun v w T e h=>ZR.ext h e,fun v w T e h=>QV.ext h e,trivial⟩ ⟨?o0,?o1,?o2,?o3,?o4,?o5,?o6,?o7,?o8,?o9,?o10,trivial⟩ ?fin
    case o0 | o2=>exact ofa (d:=0)
    case o1 | o3=>exact ol2
    case o5 | o7=>exact ol4
    case o4 =>
     refine Ag rfl fun ρ f g C H h => ?_;have e1:_=_:=h.2.1;have e2:_=_:=h.2.2.1;obtain⟨K,L,M,N,O,P,Q,R⟩:=(D f g).out;refine⟨184,#[.agg #[.bool s,.slice a n c],.agg #[.bool A,.slice r z t]],by go_simp,(aj.out f (B.trans g)).mono ?_⟩;rintro e T ⟨A,r,z,t,rfl,k,o,l⟩;exact⟨_,rfl,k,A,r,z,t,rfl,o,l⟩
    case o6 =>
     refine Ag rfl fun ρ f g C H h => ?_;have e1:_=_:=h.2.1;obtain⟨K,L,M,N,O,P,Q,R⟩:=(D f g).out;refine⟨185,#[.agg #[.bool s,.slice a n c,.bool false,.slice b m d]],by go_simp,(ac.out f (B.trans g)).mono ?_⟩;rintro e T ⟨A,r,z,t,rfl,k,o,l⟩;exact⟨_,rfl,k,A,r,z,t,rfl,o,l⟩
    case o8 =>
     refine Ag rfl fun ρ f g C H h => ?_;have e1:_=_:=h.2.1;obtain⟨K,L,M,N,O,P,Q,R⟩:=(D f g).out;refine⟨185,#[.agg #[.bool A,.slice r z t,.bool false,.slice b' m' d']],by go_simp,(ad.out f (B.trans g)).mono ?_⟩;rintro e T ⟨A,r,z,t,rfl,k,o,l⟩;exact⟨_,rfl,k,A,r,z,t,rfl,o,l⟩
    case o9 =>
     refine Ag rfl fun ρ f g C H h => ?_;obtain⟨v1,e1,s1,F,S,G,rfl,i1,j1⟩:=h.2.1;obtain⟨v2,e2,s2,a2,n2,c2,rfl,i2,j2⟩:=h.2.2.1;obtain⟨K,L,M,N,O,P,Q,R⟩:=(D f g).out;refine⟨184,#[.agg (Ac s1 F S G).toArray,.agg (Ac s2 a2 n2 c2).toArray],by go_simp,(ak.out f _ _ ⟨s1,F,S,G,rfl,i1,j1⟩ ⟨s2,a2,n2,c2,rfl,i2,j2⟩).mono ?_⟩;rintro e T ⟨A,r,z,t,rfl,k,o,l⟩;exact⟨_,rfl,k,A,r,z,t,rfl,o,l⟩
    case o10 =>
     refine Ag rfl fun ρ f g C H h => ?_;obtain⟨v1,e1,s1,F,S,G,rfl,i1,j1⟩:=h.2.1;obtain⟨v2,e2,s2,a2,n2,c2,rfl,i2,j2⟩:=h.2.2.1;obtain⟨K,L,M,N,O,P,Q,R⟩:=(D f g).out;refine⟨151,#[.agg (Ac s1 F S G).toArray,.agg (Ac s2 a2 n2 c2).toArray],by go_simp,(ag.out f _ _ ⟨s1,F,S,G,rfl,i1,j1⟩ ⟨s2,a2,n2,c2,rfl,i2,j2⟩).mono ?_⟩;rintro e T ⟨A,r,z,t,b',m',d',rfl,k,o,l,ah⟩;exact⟨_,rfl,k,A,r,z,t,b',m',d',rfl,o,l,ah⟩
    case fin =>
     intro f g;rintro _ ⟨bn,b5,bj,ba,rfl,ax,b1⟩;rintro _ ⟨bo,b6,bk,bb,rfl,ay,b2⟩;rintro _ ⟨bs,b7,bl,bd,rfl,aA,b3⟩;rintro _ ⟨bt,b8,bm,bf,rfl,b0,b4⟩;rintro _ ⟨s9,a9,n9,c9,b9,m9,d9,rfl,ab,ar,av⟩;change wpList _ _ _ _ _ _;simp only[Ci];have E:=hR.ext g
     go_wp2_with(refine Aa (vs:=Al s9 a9 n9 c9 false b9 m9 d9) rfl rfl rfl rfl rfl By E rfl (Aq _ _ _ _ _ _ _ _) ?_;intro w9 X Y)
     exact py (Ap rfl By rfl X) rfl (Fj (B.trans g) E (by decide) Y (by omega) ab ar av)
theorem Ud(h:QV w v p)(h':QV w v' q)(bp:Pl.RB 1000000 p)(bq:Pl.RB 1000000 q):Calls prog 155 #[v,v'] w (OL w (p+q)):=by
 have h0:=h;have a8:=h';obtain⟨s,a,n,c,b,m,d,rfl,HS,hx,hy⟩:=h;obtain⟨t,l,r,o,b',m',d',rfl,a7,Y,Z⟩:=h';by_cases hw:p.den=1/\q.den=1
 · obtain⟨h1,h2⟩:=hw;have ap:m=0:=hy.zero.2 (CG h1);have ah:m'=0:=Z.zero.2 (CG h2);have HV:Hid (p+q=((p.num+q.num:Int):Rat)):=qh (Qc h1 h2);have ay:=qh (fun(f:World) (g:Ext w f)=>Rp (v := .agg #[.bool s,.slice a n c]) (v' := .agg #[.bool t,.slice l r o]) ⟨s,a,n,c,rfl,HS,hx.ext g⟩ ⟨t,l,r,o,rfl,a7,Y.ext g⟩ (Af bp.1 (by omega)) (Af bq.1 (by omega)));subst ap ah;clear h1 h2 bp bq hx hy Y Z
   go_enter func155,ntmps155
   go_upto_region 1 with(fail)
   refine CO ?_;intro w0 A C D a0 a5;have p0:=C.c 0 rfl;have p1:=C.c 1 rfl;have p2:=C.c 2 rfl;have p3:=C.c 3 rfl;have q0:=D.c 0 rfl;have q1:=D.c 1 rfl;have q2:=D.c 2 rfl;have q3:=D.c 3 rfl;have hR:Arr w0 (w.heap.size+2) 99 (Al false none 0 0 false none 0 0):=a0;clear a5
   go_wp2_with fail
   refine(ay.out _ A).mono ?_;rintro e w1 ⟨s1,U,W,V,rfl,aa,ai,b0⟩;have X:=hR.ext aa;have c5:(Ac s1 U W V).toArray=#[.bool s1,.slice U W V]:=rfl
   go_wp2_with(refine Aa (vs:=Al s1 U W V false none 0 0) rfl rfl rfl rfl rfl By X rfl (Aq _ _ _ _ _ _ _ _) ?_;intro w9 a3 a4)
   refine py (Ap rfl By rfl a3) rfl ?_;rw[HV.out];exact KF (A.trans aa) X (by decide) a4 (by omega) ai b0
 · have H0:=h0;have a6:=a8;have aA:((m:Int) == 0)=true/\((m':Int) == 0)=false\/((m:Int) == 0)=false:=by
    rcases pT m with h1|h1
    · refine Or.inl ⟨by simp[h1],?_⟩;have h4:m'≠0:=fun h2=>hw ⟨?_,?_⟩
      · simpa using h4
      · exact pQ fun h3=>p.den_nz (by have:=hy.zero.1 h1;rw[Bi h3]at this;exact this)
      · exact pQ fun h3=>q.den_nz (by have:=Z.zero.1 h2;rw[Bi h3]at this;exact this)
    · exact Or.inr (by simp;omega)
   have ad:=qh (fun(f:World) (g:Ext w f)=>Jv (H0.ext g));have ag:=qh (fun(f:World) (g:Ext w f)=>Jv (a6.ext g));have S:((p.den:Int)).natAbs<P2 1000000:=by rw[pX];exact bp.2
   have T:((q.den:Int)).natAbs<P2 1000000:=by rw[pX];exact bq.2
   have up:=fun {x:Nat} (h:x<P2 1000000)=>Af (b:=3200000) h (by omega);have mb:=fun {x y:Int} (h:x.natAbs<P2 1000000) (h':y.natAbs<P2 1000000)=>(show(x*y).natAbs<P2 (1000000+1000000) by rw[qW];exact BJ h h');have ac:0<(p.den:Int)*(q.den:Int):=Int.mul_pos (by have:=p.den_pos;omega) (by have:=q.den_pos;omega);have ab:((p.den:Int)*(q.den:Int)).natAbs=p.den*q.den:=by rw[qW,pX,pX]
   have aq:=qh (fun(f:World) (g:Ext w f) (x:Value) (h1:ZR f x (q.den:Int))=>Gb (v := .agg #[.bool s,.slice a n c]) ⟨s,a,n,c,rfl,HS,hx.ext g⟩ h1 (up bp.1) (up T));have av:=qh (fun(f:World) (g:Ext w f) (x:Value) (h1:ZR f x (p.den:Int))=>Gb (v := .agg #[.bool t,.slice l r o]) ⟨t,l,r,o,rfl,a7,Y.ext g⟩ h1 (up bq.1) (up S));have ar:=qh (fun(f:World) (x y:Value) (h1:ZR f x (p.den:Int)) (h2:ZR f y (q.den:Int))=>Gb h1 h2 (up S) (up T))
   have ak:=qh (fun(f:World) (x y:Value) (h1:ZR f x (p.num*(q.den:Int))) (h2:ZR f y (q.num*(p.den:Int)))=>Rp h1 h2 (Af (mb bp.1 T) (by omega)) (Af (mb bq.1 S) (by omega)));have al:=qh (fun(f:World) (x y:Value) (h1:ZR f x (p.num*(q.den:Int)+q.num*(p.den:Int))) (h2:ZR f y ((p.den:Int)*(q.den:Int)))=>KG h1 h2 (Af (pJ (we _ _) (KX (mb bp.1 T) (mb bq.1 S))) (by omega)) (Af (mb S T) (by omega)) ac (q:=p+q) (by rw[ab];exact Rat.add_def' p q));clear hx hy Y Z hw H0 a6 h0 a8 bp bq S T up mb ac ab
   go_enter func155,ntmps155
   go_upto_region 1 with(fail)
   refine CO ?_;intro w0 A C D a0 a5;have p0:=C.c 0 rfl;have p1:=C.c 1 rfl;have p2:=C.c 2 rfl;have p3:=C.c 3 rfl;have q0:=D.c 0 rfl;have q1:=D.c 1 rfl;have q2:=D.c 2 rfl;have q3:=D.c 3 rfl;have hR:Arr w0 (w.heap.size+2) 99 (Al false none 0 0 false none 0 0):=a0;clear a5;rcases aA with⟨ax,c6⟩|ax
   all_goals
    go_upto_region 3 with(fail)
    have B:=fun(f:World) (g:Ext w0 f)=>qh (And.intro (g.cell p0) (And.intro (g.cell p1) (And.intro (g.cell p2) (And.intro (g.cell p3) (And.intro (g.cell q0) (And.intro (g.cell q1) (And.intro (g.cell q2) (g.cell q3))))))))
    refine B0
     [hdP w.heap.size 0,he (.agg #[.bool s,.slice a n c]),he (.agg #[.bool t,.slice l r o,.bool false,.slice b' m' d']),hp (fun v f=>ZR f v ((q.den:Int))),hp (fun v f=>ZR f v (p.num*(q.den:Int))),hdP (w.heap.size+1) 0,he (.agg #[.bool t,.slice l r o]),he (.agg #[.bool s,.slice a n c,.bool false,.slice b m d]),hp (fun v f=>ZR f v ((p.den:Int))),hp (fun v f=>ZR f v (q.num*(p.den:Int))),hp (fun v f=>ZR f v (p.num*(q.den:Int)+q.num*(p.den:Int))),he (.agg #[.bool s,.slice a n c,.bool false,.slice b m d]),hp (fun v f=>ZR f v ((p.den:Int))),he (.agg #[.bool t,.slice l r o,.bool false,.slice b' m' d']),hp (fun v f=>ZR f v ((q.den:Int))),hp (fun v f=>ZR f v ((p.den:Int)*(q.den:Int))),hp (fun v f=>QV f v (p+q))]
     ⟨fun v w N e h=>ZR.ext h e,fun v w N e h=>ZR.ext h e,fun v w N e h=>ZR.ext h e,fun v w N e h=>ZR.ext h e,fun v w N e h=>ZR.ext h e,fun v w N e h=>ZR.ext h e,fun v w N e h=>ZR.ext h e,fun v w N e h=>ZR.ext h e,fun v w N e h=>QV.ext h e,trivial⟩ ⟨?o0,?o1,?o2,?o3,?o4,?o5,?o6,?o7,?o8,?o9,?o10,?o11,?o12,?o13,?o14,?o15,?o16,trivial⟩ ?fin
    case o0 | o5=>exact ofa (d:=0)
    case o1 | o6=>exact ol2
    case o2 | o7 | o11 | o13=>exact ol4
    case o3 =>
     refine Ag rfl fun ρ f g z E h => ?_;have e1:_=_:=h.2.1;obtain⟨F,G,H,I,J,K,L,M⟩:=(B f g).out;refine⟨185,#[.agg #[.bool t,.slice l r o,.bool false,.slice b' m' d']],by go_simp,(ag.out f (A.trans g)).mono ?_⟩;rintro e N ⟨t,l,r,o,rfl,i,k,j⟩;exact⟨_,rfl,i,t,l,r,o,rfl,k,j⟩
    case o4 =>
     refine Ag rfl fun ρ f g z E h => ?_;have e1:_=_:=h.2.1;obtain⟨v2,e2,R,O,Q,P,rfl,i2,j2⟩:=h.2.2.1;obtain⟨F,G,H,I,J,K,L,M⟩:=(B f g).out;refine⟨184,#[.agg #[.bool s,.slice a n c],.agg (Ac R O Q P).toArray],by go_simp,(aq.out f (A.trans g) _ ⟨R,O,Q,P,rfl,i2,j2⟩).mono ?_⟩;rintro e N ⟨t,l,r,o,rfl,i,k,j⟩;exact⟨_,rfl,i,t,l,r,o,rfl,k,j⟩
    case o8 =>
     refine Ag rfl fun ρ f g z E h => ?_;have e1:_=_:=h.2.1;obtain⟨F,G,H,I,J,K,L,M⟩:=(B f g).out;refine⟨185,#[.agg #[.bool s,.slice a n c,.bool false,.slice b m d]],by go_simp,(ad.out f (A.trans g)).mono ?_⟩;rintro e N ⟨t,l,r,o,rfl,i,k,j⟩;exact⟨_,rfl,i,t,l,r,o,rfl,k,j⟩
    case o9 =>
     refine Ag rfl fun ρ f g z E h => ?_;have e1:_=_:=h.2.1;obtain⟨v2,e2,R,O,Q,P,rfl,i2,j2⟩:=h.2.2.1;obtain⟨F,G,H,I,J,K,L,M⟩:=(B f g).out;refine⟨184,#[.agg #[.bool t,.slice l r o],.agg (Ac R O Q P).toArray],by go_simp,(av.out f (A.trans g) _ ⟨R,O,Q,P,rfl,i2,j2⟩).mono ?_⟩;rintro e N ⟨t,l,r,o,rfl,i,k,j⟩;exact⟨_,rfl,i,t,l,r,o,rfl,k,j⟩
    case o10 =>
     refine Ag rfl fun ρ f g z E h => ?_;obtain⟨v1,e1,s1,U,W,V,rfl,i1,j1⟩:=h.2.1;obtain⟨v2,e2,R,O,Q,P,rfl,i2,j2⟩:=h.2.2.1;obtain⟨F,G,H,I,J,K,L,M⟩:=(B f g).out;refine⟨216,#[.agg (Ac s1 U W V).toArray,.agg (Ac R O Q P).toArray],by go_simp,(ak.out f _ _ ⟨s1,U,W,V,rfl,i1,j1⟩ ⟨R,O,Q,P,rfl,i2,j2⟩).mono ?_⟩;rintro e N ⟨t,l,r,o,rfl,i,k,j⟩;exact⟨_,rfl,i,t,l,r,o,rfl,k,j⟩
    case o12 =>
     refine Ag rfl fun ρ f g z E h => ?_;have e1:_=_:=h.2.1;obtain⟨F,G,H,I,J,K,L,M⟩:=(B f g).out;refine⟨185,#[.agg #[.bool s,.slice a n c,.bool false,.slice b m d]],by go_simp,(ad.out f (A.trans g)).mono ?_⟩;rintro e N ⟨t,l,r,o,rfl,i,k,j⟩;exact⟨_,rfl,i,t,l,r,o,rfl,k,j⟩
    case o14 =>
     refine Ag rfl fun ρ f g z E h => ?_;have e1:_=_:=h.2.1;obtain⟨F,G,H,I,J,K,L,M⟩:=(B f g).out;refine⟨185,#[.agg #[.bool t,.slice l r o,.bool false,.slice b' m' d']],by go_simp,(ag.out f (A.trans g)).mono ?_⟩;rintro e N ⟨t,l,r,o,rfl,i,k,j⟩;exact⟨_,rfl,i,t,l,r,o,rfl,k,j⟩
    case o15 =>
     refine Ag rfl fun ρ f g z E h => ?_;obtain⟨v1,e1,s1,U,W,V,rfl,i1,j1⟩:=h.2.1;obtain⟨v2,e2,R,O,Q,P,rfl,i2,j2⟩:=h.2.2.1;obtain⟨F,G,H,I,J,K,L,M⟩:=(B f g).out;refine⟨184,#[.agg (Ac s1 U W V).toArray,.agg (Ac R O Q P).toArray],by go_simp,(ar.out f _ _ ⟨s1,U,W,V,rfl,i1,j1⟩ ⟨R,O,Q,P,rfl,i2,j2⟩).mono ?_⟩;rintro e N ⟨t,l,r,o,rfl,i,k,j⟩;exact⟨_,rfl,i,t,l,r,o,rfl,k,j⟩
    case o16 =>
     refine Ag rfl fun ρ f g z E h => ?_;obtain⟨v1,e1,s1,U,W,V,rfl,i1,j1⟩:=h.2.1;obtain⟨v2,e2,R,O,Q,P,rfl,i2,j2⟩:=h.2.2.1;obtain⟨F,G,H,I,J,K,L,M⟩:=(B f g).out;refine⟨151,#[.agg (Ac s1 U W V).toArray,.agg (Ac R O Q P).toArray],by go_simp,(al.out f _ _ ⟨s1,U,W,V,rfl,i1,j1⟩ ⟨R,O,Q,P,rfl,i2,j2⟩).mono ?_⟩;rintro e N ⟨t,l,r,o,b',m',d',rfl,i,k,j,ao⟩;exact⟨_,rfl,i,t,l,r,o,b',m',d',rfl,k,j,ao⟩
    case fin =>
     intro f g;rintro _ ⟨ch,bn,c7,bK,rfl,b3,bd⟩;rintro _ ⟨ck,bo,c8,bL,rfl,b4,bf⟩;rintro _ ⟨cl,bs,ca,bN,rfl,b5,bg⟩;rintro _ ⟨cn,bt,cb,bR,rfl,b6,bi⟩;rintro _ ⟨co,bv,cc,bW,rfl,b7,bj⟩;rintro _ ⟨cp,bx,cd,c0,rfl,b8,bk⟩;rintro _ ⟨cq,bz,ce,c3,rfl,ba,bl⟩;rintro _ ⟨cr,bG,cg,c4,rfl,bb,bm⟩;rintro _ ⟨s9,a9,n9,c9,b9,m9,d9,rfl,aj,b1,b2⟩;change wpList _ _ _ _ _ _;simp only[Ci];have X:=hR.ext g
     go_wp2_with(refine Aa (vs:=Al s9 a9 n9 c9 false b9 m9 d9) rfl rfl rfl rfl rfl By X rfl (Aq _ _ _ _ _ _ _ _) ?_;intro w9 a3 a4)
     exact py (Ap rfl By rfl a3) rfl (Fj (A.trans g) X (by decide) a4 (by omega) aj b1 b2)
def pL(v:Int)(a:Option Addr)(n c:Nat):List Value:=[.int .i64 v,.slice a n c]
theorem AT(v:Int)(a:Option Addr)(n c:Nat):∀ x∈pL v a n c,x.oneCell'=true:=by
 intro x b;simp only[pL,qj,rI,vQ]at b;rcases b with rfl|rfl <;> rfl
def OM(w:World)(b0:Nat)(vars:Int)(N:Nat)(l:List Pl.Tm)(e:Ending)(w':World):Prop:=∃ a n c out,e = .returned (.agg (pL vars a n c).toArray)/\Ext w w'/\TO w' b0 w.heap.size a n c out/\n<=l.length/\Pl.Canon N out/\∀ x,Pl.coef out x=Pl.coef l x
theorem TO.keptA{l:List Pl.Tm}(h:TO w b0 base a n c l)(d:Arr w g t cs)(h1:103≠t)(h2:3≠t)(h3:241≠t)(m:b0<=g)(f:w.grownBy w' (some g)):TO w' b0 base a n c l:=by
 obtain⟨b,j,p,r⟩:=h;refine⟨b,j.kept f ?_,p,fun i o=>(r i o).kept d h2 h3 m f⟩;cases e:blk a with
 | none=>exact .inl rfl
 | some q =>
  refine .inr fun he => ?_;obtain⟨k,s,h4⟩:=j.ty e;injection he with he;subst he;unfold Arr at d;rw[d]at h4;simp only[pz,rW]at h4;exact h1 h4.2.1.symm
theorem AR.ne(h:AR w base e k a n c rows)(b:Arr w g t cs)(f:e≠t):some g≠blk a:=fun he=>by
 obtain⟨d,i,h4⟩:=h.ty he.symm;unfold Arr at b;rw[b]at h4;simp only[pz,rW]at h4;exact f h4.2.1.symm
theorem EK{r0 r1 r2 r3 r4:Value}(j:P.underlying t=some (.slice e))(a:BV P e zs 5 bytes) :
 (Instr.buildSlice t 1 #[(0,.agg #[r0,r1,r2,r3,r4])]).run P w = .ok (.slice (some ⟨w.heap.size,0,none⟩) 1 1) (w.alloc (.cells #[r0,r1,r2,r3,r4] e)):=by
 obtain⟨i,f,c,b,d⟩:=a.parts;have g:=a.2.1
 match zs,g,c with
 | [z0,z1,z2,z3,z4],_,c =>
 simp[Instr.buildSlice,qF j,sizeOf,typeInfo,f,b,Instr.fill,zeroValue,c,newRow,Value.cells,show Array.range 5=#[0,1,2,3,4] by decide]
theorem IR(h:q≠0):q.num.sign≠0:=fun h1=>h (Rat.num_eq_zero.1 (Int.sign_eq_zero_iff_zero.1 h1))
theorem EL(hN:N<=12){vars:Int}{a:Option Addr}{n c:Nat}{l:List Pl.Tm}{w:World}(h:TSl w b0 a n c l)(hb:TB N l)(hw:b0<=w.heap.size)(hn:n<=100000)(hs:Pl.SubOK l) :
 Calls prog 74 #[.int .i64 vars,.slice a n c] w (OM w b0 vars N l):=by
 have ct:=h.len
 go_enter func74,ntmps74
 go_upto_region 1 with(fail)
 refine AP ?_;intro w0 ar c5 ex;have cy:=qh (Nf hN n (h.ext ar) hb (pD hw ar.size) hn);have cc:Arr w0 w.heap.size 44 (pL 0 none 0 0):=c5;clear c5 ex h
 go_wp2_with fail
 refine cy.out.mono ?_;rintro e w1 ⟨a1,B,c1,E,rfl,bg,t1,p1,d1⟩;have a3:=hb.perm p1;have cx:=hs.perm p1;have bv:=ar.trans bg;have cd:=cc.ext bg;have g3:B<=100000:=by
  have W:B=n:=by rw[<-t1.len,p1.length_eq,ct]
  omega
 have HG:Hid (Pl.Canon N (Pl.grp E)/\∀ x,Pl.coef (Pl.grp E) x=Pl.coef l x):=qh (Pl.grp_sum (fun t ht=>(hb t ht).1) p1 d1);have bq:=pD hw bv.size;have bN:Hid (w.heap.size<w1.heap.size):=qh cd.lt;have dd:Hid (B=l.length):=by show B=l.length;rw[<-t1.len,p1.length_eq]
 clear cy hb hs ct p1 d1 ar bg cc hn;have hY:=Arr.new w1 44 (pL 0 none 0 0)
 go_upto_region 3 with(refine Aa (vs:=pL vars none 0 0) rfl rfl rfl rfl rfl AJ hY rfl (AT _ _ _ _) ?_;intro w2 ay cn)
 have c8:Ext w1 w2:=((Ext.refl w1).alloc _).grownR cn (lrf _);have b3:Hid (TO w2 b0 w1.heap.size none 0 0 []):=qh (TO.nil _ _ _);have al:Hid (Pl.SS E [] 0):=qh (Pl.SS.start E);clear hY cn;obtain⟨PB,ah⟩:∃ PB,w1.heap.size=PB:=⟨_,rfl⟩;rw[ah]at ay b3 bN;simp only[ah];have b5:=qh ah;rw[ah]at bq;clear ah;go_wp2
 go_loopg [7] B (fun gk iv wr=>∃ (i:Nat) (ao:Option Addr) (V co:Nat) (G:List Pl.Tm),iv = .int .i64 i/\i<=B/\B<=i+gk/\V<=i/\Ext w1 wr/\Arr wr PB 44 (pL vars ao V co)/\Hid (TO wr b0 PB ao V co G)/\Hid (Pl.SS E G i))
 case atStart=>exact⟨0,none,0,0,[],rfl,pE _,by omega,lrf _,c8,ay,b3,al⟩
 case round =>
  clear b3 al ay c8;obtain⟨i,ao,V,co,G,rfl,g0,fO,g4,hE,ax,HO,HS⟩:=hrel;by_cases hi:i<B
  case neg =>
   have ei:¬ (i:Int)<B:=by omega
   have cs:G=Pl.grp E:=by
    have h1:=HS.out;rw[show i=E.length by rw[t1.len];omega]at h1;exact h1.done
   have z0:=ax.c 0 rfl;have z1:=ax.c 1 rfl;have ce:=cd.ext hE;have HX:Hid (Pl.Canon N G/\∀ x,Pl.coef G x=Pl.coef l x):=by rw[cs];exact HG
   clear cs HG HS ax
   go_wp2_with(refine Aa (vs:=pL vars ao V co) rfl rfl rfl rfl rfl AJ ce rfl (AT _ _ _ _) ?_;intro w9 dI a8)
   have ec:=(HO.out.keptA ce (by decide) (by decide) (by decide) hw a8).mono (sI bN.out);exact py (Ap rfl AJ rfl dI) rfl ⟨ao,V,co,G,rfl,(bv.trans hE).grownR a8 (lrf _),ec,by have:=dd.out;omega,HX.out.1,HX.out.2⟩
  have ei:(i:Int)<B:=by omega
  have X:i<E.length:=by rw[t1.len];exact hi
  obtain⟨f,m,fr,s1,x1,m1,d1,y1,g1,h1,F,eC,f1,rfl,a4,C,bL,cv,ck,bs⟩:=(t1.ext hE).row hi;have d3:N=eC:=by have q1:=bs.1.len;have q2:=(a3.get (i:=i) X).1;omega
  subst d3;have dx:wr.cell? ⟨f,m+i*5,none⟩=some (.bool s1):=by have:=a4.cl hi (j:=0) (by omega);rw[C]at this;exact this
  have dy:wr.cell? ⟨f,m+i*5+1,none⟩=some (.slice x1 m1 d1):=by have:=a4.cl hi (j:=1) (by omega);rw[C]at this;exact this
  have dA:wr.cell? ⟨f,m+i*5+2,none⟩=some (.bool false):=by have:=a4.cl hi (j:=2) (by omega);rw[C]at this;exact this
  have dB:wr.cell? ⟨f,m+i*5+3,none⟩=some (.slice y1 g1 h1):=by have:=a4.cl hi (j:=3) (by omega);rw[C]at this;exact this
  have bR:wr.cell? ⟨f,m+i*5+4,none⟩=some (.slice F N f1):=by have:=a4.cl hi (j:=4) (by omega);rw[C]at this;exact this
  have cg:=Arr.new wr 99 (Al false none 0 0 false none 0 0);have b2:Hid (Pl.SI E i (i+1) (E.getD i tz) (E.getD i tz).2):=qh (Pl.SI.start (getD_some X));clear a4 C
  go_upto_region 6 with(refine Aa (vs:=Al s1 x1 m1 d1 false y1 g1 h1) rfl rfl rfl rfl rfl By cg rfl (Aq _ _ _ _ _ _ _ _) ?_;intro wa aq cp)
  have ac:Ext wr wa:=((Ext.refl wr).alloc _).grownR cp (lrf _);have b6:Hid (QV wa (.agg (Al s1 x1 m1 d1 false y1 g1 h1).toArray) (E.getD i tz).2):=qh ⟨s1,x1,m1,d1,y1,g1,h1,rfl,bL,cv.ext ac,ck.ext ac⟩;have da:Hid (w1.heap.size<=wr.heap.size):=qh hE.size;obtain⟨CB,ap⟩:∃ CB,wr.heap.size=CB:=⟨_,rfl⟩;simp only[ap]at aq da;simp only[ap];have fu:Hid (CB<=CB):=qh (lrf _);have d8:Hid (wr.heap.size<=CB):=qh (Nat.le_of_eq ap);clear cg cp bL cv ck ap dx dy dA dB;have d0:i+1<=B:=hi
  go_upto_block 2 with(fail)
  go_cut [9] from 25 to 54 (fun kv o=>∃ (k:Nat) (U:Rat) (M:Bool) (O:Option Addr) (L I:Nat) (P:Option Addr) (J K:Nat),kv = .int .i64 k/\k<=B/\i<k/\Ext wr o/\Arr o CB 99 (Al M O L I false P J K)/\Hid (QV o (.agg (Al M O L I false P J K).toArray) U)/\Hid (Pl.SS E (if U=0 then G else G ++ [((E.getD i tz).1,U)]) k))
  case first =>
   go_wp2_with fail
   go_loopw[9] (fun kv o=>∃ (k:Nat) (U:Rat) (M:Bool) (O:Option Addr) (L I:Nat) (P:Option Addr) (J K:Nat),kv = .int .i64 k/\k<=B/\i<k/\Ext wr o/\Arr o CB 99 (Al M O L I false P J K)/\Hid (QV o (.agg (Al M O L I false P J K).toArray) U)/\Hid (Pl.SI E i k (E.getD i tz) U)) (fun kv _=>B-(intOf kv).toNat)
   case atStart=>exact⟨i+1,_,s1,x1,m1,d1,y1,g1,h1,by go_num,d0,Nat.lt_succ_self _,ac,aq,b6,b2⟩
   case round =>
    clear ac aq b6 b2;obtain⟨k,U,M,O,L,I,P,J,K,rfl,ai,bo,A,s,HV,HI⟩:=hrel;have ad:=hE.trans A;have gi:=A.cell bR;by_cases hk:k<B
    case neg =>
     have ej:¬ (k:Int)<B:=by omega
     go_upto_region 7 with(fail)
     go_quiet (fail)
     have b:Ext wr (wr.drewN nq):=(Qt.drewN (Qt.refl wr) nq).ext;generalize wr.drewN nq=o at *
     have R:=qh (HI.out.stop HS.out (fun y hy=>by rw[pV (by rw[t1.len];omega)]at hy;cases hy));have bi:=A.trans b;have bd:=s.ext b;have b7:=qh (HV.out.ext b);clear HV HI A s b gi ad
     go_wp2_with fail
     go_meet
     exact⟨k,U,M,O,L,I,P,J,K,rfl,ai,bo,bi,bd,b7,R⟩
    have ej:(k:Int)<B:=by omega
    have H:k<E.length:=by rw[t1.len];exact hk
    obtain⟨fA,g6,fs,s2,x2,m2,d2,y2,g2,h2,aa,eD,f2,ch,a5,D,al,el,ef,cz⟩:=(t1.ext ad).row hk;simp only[pz,qq,qO]at ch;obtain⟨rfl,rfl⟩:=ch;have d4:N=eD:=by have q1:=cz.1.len;have q2:=(a3.get (i:=k) H).1;omega
    subst d4;have c0:wr.cell? ⟨f,m+k*5,none⟩=some (.bool s2):=by have:=a5.cl hk (j:=0) (by omega);rw[D]at this;exact this
    have c2:wr.cell? ⟨f,m+k*5+1,none⟩=some (.slice x2 m2 d2):=by have:=a5.cl hk (j:=1) (by omega);rw[D]at this;exact this
    have c3:wr.cell? ⟨f,m+k*5+2,none⟩=some (.bool false):=by have:=a5.cl hk (j:=2) (by omega);rw[D]at this;exact this
    have c4:wr.cell? ⟨f,m+k*5+3,none⟩=some (.slice y2 g2 h2):=by have:=a5.cl hk (j:=3) (by omega);rw[D]at this;exact this
    have bb:wr.cell? ⟨f,m+k*5+4,none⟩=some (.slice aa N f2):=by have:=a5.cl hk (j:=4) (by omega);rw[D]at this;exact this
    have b1:=qh (fun(wy:World) (b:Ext wr wy)=>FN ((bs.ext A).1.ext b) (cz.1.ext b) hN (a3.get (i:=i) X).2 (a3.get (i:=k) H).2);obtain⟨r,hr⟩:∃ r,Pl.ordE (E.getD i tz).1 (E.getD k tz).1=r:=⟨_,rfl⟩;have HR:=qh hr;rw[hr]at b1;clear hr a5 D;by_cases aj:r=0
    · have d5:(r == 0)=true:=by simp[aj]
      go_upto_region 7 with(fail)
      have S:=fun(o:World) (b:Ext wr o)=>qh (And.intro (b.cell gi) (b.cell bb))
      refine B0
       [hdI k,hdS (some ⟨f,m,none⟩) B c1,hdI B,hdB true,hdB true,hdS (some ⟨f,m,none⟩) B c1,hdI i,hdP f (m+i*5),hdP f ((m+i*5)+4),hdS F N f1,hdS (some ⟨f,m,none⟩) B c1,hdI k,hdP f (m+k*5),hdP f ((m+k*5)+4),hdS aa N f2,hp (fun v o=>v = .int .i64 r),hdB true,hdB true]
       ⟨fun v w w' e h=>h,trivial⟩ ⟨?o0,?o1,?o2,?o3,?o4,?o5,?o6,?o7,?o8,?o9,?o10,?o11,?o12,?o13,?o14,?o15,?o16,?o17,trivial⟩ ?fin
      case o0 | o1 | o4 | o5 | o6 | o10 | o11=>exact omv
      case o8 | o13=>exact ofa (d:=4)
      case o9 | o14=>exact ol
      case o2 =>
       refine Aj rfl fun Q o b p h => ?_;have e0:_=_:=h.1;obtain⟨kx,ky⟩:=(S o b).out;go_simp
      case o3 =>
       refine Aj rfl fun Q o b p h => ?_;have e0:_=_:=h.1;have W:_=_:=h.2.1;obtain⟨kx,ky⟩:=(S o b).out;go_simp
       try (first | (intros;omega) | exact pq _ (by omega))
      case o7 =>
       refine Aj rfl fun Q o b p h => ?_;have e0:_=_:=h.1;have W:_=_:=h.2.1;obtain⟨kx,ky⟩:=(S o b).out;go_simp
       try (first | (intros;omega) | exact pq _ (by omega))
      case o12 =>
       refine Aj rfl fun Q o b p h => ?_;have e0:_=_:=h.1;have W:_=_:=h.2.1;obtain⟨kx,ky⟩:=(S o b).out;go_simp
       try (first | (intros;omega) | exact pq _ (by omega))
      case o15 =>
       refine Ag rfl fun Q o b p bm h => ?_;have W:_=_:=h.2.1;have e2:_=_:=h.2.2.1;obtain⟨kx,ky⟩:=(S o b).out;refine⟨154,#[.slice F N f1,.slice aa N f2],by go_simp,(b1.out o b).mono ?_⟩;rintro e w' ⟨rfl,bl⟩;exact⟨_,rfl,bl.ext,rfl⟩
      case o16 =>
       refine Aj rfl fun Q o b p h => ?_;obtain⟨v0,e0,rfl⟩:=h.1;obtain⟨kx,ky⟩:=(S o b).out;go_simp
       try (first | (intros;omega) | exact pq _ (by omega))
      case o17 =>
       refine Aj rfl fun Q o b p h => ?_;have e0:_=_:=h.1;have W:_=_:=h.2.1;obtain⟨kx,ky⟩:=(S o b).out;go_simp
      case fin =>
       intro o b;rintro _ rfl;change wpList _ _ _ _ _ _;simp only[Ci];generalize et:o=wz at *
       clear et;have ab:=b;have Y:=s.c 0 rfl;have Z:=s.c 1 rfl;have a0:=s.c 2 rfl;have a2:=s.c 3 rfl;have he:(E.getD i tz).1=(E.getD k tz).1:=Pl.ordE_eq (by rw[(a3.get (i:=i) X).1,(a3.get (i:=k) H).1]) (by rw[HR.out];exact aj);have db:=qh (HI.out.step (getD_some H) he);have bx:=HI.out.rb cx;have bz:=cx.one (ql (getD_some H))
       have cT:=qh (fun(wy:World) (b:Ext wz wy)=>Ud (HV.out.ext (ab.trans b)) (v' := .agg #[.bool s2,.slice x2 m2 d2,.bool false,.slice y2 g2 h2]) (q:=(E.getD k tz).2) ⟨s2,x2,m2,d2,y2,g2,h2,rfl,al,el.ext (ab.trans b),ef.ext (ab.trans b)⟩ bx bz);have q0:=b.cell Y;have q1:=b.cell Z;have q2:=b.cell a0;have q3:=b.cell a2;have r0:=b.cell c0;have r1:=b.cell c2;have r2:=b.cell c3;have r3:=b.cell c4;have c6:=s.ext b;have ag:=A.trans b;clear bx bz Y Z a0 a2 c0 c2 c3 c4 bb gi he aj
       go_upto_region 8 with(fail)
       have bK:=fun(o:World) (b:Ext wz o)=>qh (And.intro (b.cell q0) (And.intro (b.cell q1) (And.intro (b.cell q2) (And.intro (b.cell q3) (And.intro (b.cell r0) (And.intro (b.cell r1) (And.intro (b.cell r2) (b.cell r3))))))))
       refine B0
        [he (.agg #[.bool M,.slice O L I,.bool false,.slice P J K]),hdS (some ⟨f,m,none⟩) B c1,hdI k,hdP f (m+k*5),hdP f (m+k*5),he (.agg #[.bool s2,.slice x2 m2 d2,.bool false,.slice y2 g2 h2]),hp (fun v o=>QV o v (U+(E.getD k tz).2))]
        ⟨fun v w w' e h=>QV.ext h e,trivial⟩ ⟨?o0,?o1,?o2,?o3,?o4,?o5,?o6,trivial⟩ ?fin
       case o0 | o5=>exact ol4
       case o1 | o2=>exact omv
       case o4=>exact ofa (d:=0)
       case o3 =>
        refine Aj rfl fun Q o b p h => ?_;have e0:_=_:=h.1;have W:_=_:=h.2.1;obtain⟨eX,f0,f3,f5,f6,f7,fb,fe⟩:=(bK o b).out;go_simp
        try (first | (intros;omega) | exact pq _ (by omega))
       case o6 =>
        refine Ag rfl fun Q o b p bm h => ?_;have W:_=_:=h.2.1;have e2:_=_:=h.2.2.1;obtain⟨eX,f0,f3,f5,f6,f7,fb,fe⟩:=(bK o b).out;refine⟨155,#[.agg #[.bool M,.slice O L I,.bool false,.slice P J K],.agg #[.bool s2,.slice x2 m2 d2,.bool false,.slice y2 g2 h2]],by go_simp,(cT.out o b).mono ?_⟩;rintro e w' ⟨s',a',n',c',b',m',d',rfl,dT,ep,en,ek⟩;exact⟨_,rfl,dT,s',a',n',c',b',m',d',rfl,ep,en,ek⟩
       case fin =>
        intro o b;rintro _ ⟨s9,a9,n9,c9,b9,m9,d9,rfl,dq,eu,ev⟩;change wpList _ _ _ _ _ _;simp only[Ci];have bf:=c6.ext b;have e5:=ag.trans b
        go_wp2_with(refine Aa (vs:=Al s9 a9 n9 c9 false b9 m9 d9) rfl rfl rfl rfl rfl By bf rfl (Aq _ _ _ _ _ _ _ _) ?_;intro w9 dJ a8)
        have d6:=eu.keptA bf (by decide) a8;have d7:=ev.keptA bf (by decide) a8;go_roundw
        case rel=>exact⟨k+1,_,s9,a9,n9,c9,b9,m9,d9,by go_num,by omega,by omega,e5.grownR a8 d8.out,dJ,qh ⟨s9,a9,n9,c9,b9,m9,d9,rfl,dq,d6,d7⟩,db⟩
        case measure=>simp[intOf];omega
    · have d5:(r == 0)=false:=by simpa using aj
      go_upto_region 7 with(fail)
      have T:=fun(o:World) (b:Ext wr o)=>qh (And.intro (b.cell gi) (b.cell bb))
      refine B0
       [hdI k,hdS (some ⟨f,m,none⟩) B c1,hdI B,hdB true,hdB true,hdS (some ⟨f,m,none⟩) B c1,hdI i,hdP f (m+i*5),hdP f ((m+i*5)+4),hdS F N f1,hdS (some ⟨f,m,none⟩) B c1,hdI k,hdP f (m+k*5),hdP f ((m+k*5)+4),hdS aa N f2,hp (fun v o=>v = .int .i64 r),hdB false,hdB false]
       ⟨fun v w w' e h=>h,trivial⟩ ⟨?o0,?o1,?o2,?o3,?o4,?o5,?o6,?o7,?o8,?o9,?o10,?o11,?o12,?o13,?o14,?o15,?o16,?o17,trivial⟩ ?fin
      case o0 | o1 | o4 | o5 | o6 | o10 | o11=>exact omv
      case o8 | o13=>exact ofa (d:=4)
      case o9 | o14=>exact ol
      case o2 =>
       refine Aj rfl fun Q o b p h => ?_;have e0:_=_:=h.1;obtain⟨kx,ky⟩:=(T o b).out;go_simp
      case o3 =>
       refine Aj rfl fun Q o b p h => ?_;have e0:_=_:=h.1;have W:_=_:=h.2.1;obtain⟨kx,ky⟩:=(T o b).out;go_simp
       try (first | (intros;omega) | exact pq _ (by omega))
      case o7 =>
       refine Aj rfl fun Q o b p h => ?_;have e0:_=_:=h.1;have W:_=_:=h.2.1;obtain⟨kx,ky⟩:=(T o b).out;go_simp
       try (first | (intros;omega) | exact pq _ (by omega))
      case o12 =>
       refine Aj rfl fun Q o b p h => ?_;have e0:_=_:=h.1;have W:_=_:=h.2.1;obtain⟨kx,ky⟩:=(T o b).out;go_simp
       try (first | (intros;omega) | exact pq _ (by omega))
      case o15 =>
       refine Ag rfl fun Q o b p bm h => ?_;have W:_=_:=h.2.1;have e2:_=_:=h.2.2.1;obtain⟨kx,ky⟩:=(T o b).out;refine⟨154,#[.slice F N f1,.slice aa N f2],by go_simp,(b1.out o b).mono ?_⟩;rintro e w' ⟨rfl,bl⟩;exact⟨_,rfl,bl.ext,rfl⟩
      case o16 =>
       refine Aj rfl fun Q o b p h => ?_;obtain⟨v0,e0,rfl⟩:=h.1;obtain⟨kx,ky⟩:=(T o b).out;go_simp
       try (first | (intros;omega) | exact pq _ (by omega))
      case o17 =>
       refine Aj rfl fun Q o b p h => ?_;have e0:_=_:=h.1;have W:_=_:=h.2.1;obtain⟨kx,ky⟩:=(T o b).out;go_simp
      case fin =>
       intro o b;rintro _ rfl;change wpList _ _ _ _ _ _;simp only[Ci];have R:=qh (HI.out.stop HS.out (fun y hy he=>by rw[getD_some H]at hy;rw[<-tZ hy]at he;rw[he,Pl.ordE_self]at HR;exact aj HR.out.symm));have bi:=A.trans b;have bd:=s.ext b;have b7:=qh (HV.out.ext b);clear HV HI A s b gi ad
       go_wp2_with fail
       go_meet
       exact⟨k,U,M,O,L,I,P,J,K,rfl,ai,bo,bi,bd,b7,R⟩
  case rest =>
   clear ac aq b6 b2;obtain⟨k,U,M,O,L,I,P,J,K,rfl,ai,bo,A,s,HV,R⟩:=hcut;have ad:=hE.trans A;have gi:=A.cell bR;have eb:=ax.ext A;have dl:=qh (HO.out.ext A);have Y:=s.c 0 rfl;have Z:=s.c 1 rfl;have a0:=s.c 2 rfl;have a2:=s.c 3 rfl;have b:=Ext.refl wc;have ab:=b;have ag:=ad.trans b;have bk:=eb.ext b;have b4:=qh (dl.out.ext b);have c6:=s.ext b;have b8:=qh (HV.out.ext b);have q0:=b.cell Y;have q1:=b.cell Z;have q2:=b.cell a0;have q3:=b.cell a2;have bW:=b.cell gi;obtain⟨sg,ak⟩:∃ sg,U.num.sign=sg:=⟨_,rfl⟩
   have bt:=qh (Md b8.out ak);by_cases a6:U=0
   · have eq:sg=0:=by rw[<-ak,a6];rfl
     have HN:Hid (Pl.SS E G k):=by have:=R.out;rw[pP a6]at this;exact qh this
     subst eq;clear ak a6 R Y Z a0 a2 gi
     go_wp2_with fail
     refine bt.out.mono ?_;rintro e w5 ⟨rfl,z⟩;have aA:V<=k:=by omega
     go_wp2
     go_roundg (B-k)
     case rel=>exact⟨k,ao,V,co,G,rfl,ai,by omega,aA,ag.trans z,bk.ext z,qh (b4.out.ext z),HN⟩
     case measure=>omega
   · have er:¬ sg=0:=by rw[<-ak];exact IR a6
     have g5:((sg:Int) == 0)=false:=by simpa using er
     have HN:Hid (Pl.SS E (G ++ [((E.getD i tz).1,U)]) k):=by have:=R.out;rw[pC a6]at this;exact qh this
     clear ak a6 R Y Z a0 a2 gi
     go_wp2_with fail
     refine bt.out.mono ?_;rintro e w5 ⟨rfl,z⟩;have ca:=bk.ext z;have dn:=qh (b4.out.ext z);have dt:=qh (b8.out.ext z);have u0:=z.cell q0;have u1:=z.cell q1;have u2:=z.cell q2;have u3:=z.cell q3;have ba:=z.cell bW;have pp:=ca.c 1 rfl;clear q0 q1 q2 q3 bW bk b4 b8
     go_upto_region 11 with(fail)
     refine B0
      [hdP PB 1,hdS ao V co,he (.agg #[.bool M,.slice O L I,.bool false,.slice P J K]),hdS (some ⟨f,m,none⟩) B c1,hdI i,hdP f (m+i*5),hdP f ((m+i*5)+4),hdS F N f1,he (.agg #[.bool M,.slice O L I,.bool false,.slice P J K,.slice F N f1]),hp (fun v wc=>∃ g,v = .slice (some ⟨g,0,none⟩) 1 1/\Arr wc g 103 (tL M O L I P J K F N f1))]
      ⟨fun v w w' e ⟨g,h1,h2⟩=>⟨g,h1,h2.ext e⟩,trivial⟩ ⟨?o0,?o1,?o2,?o3,?o4,?o5,?o6,?o7,?o8,?o9,trivial⟩ ?fin
     case o0=>exact ofa (d:=1)
     case o1 | o7=>exact ol
     case o2=>exact ol4
     case o3 | o4=>exact omv
     case o6=>exact ofa (d:=4)
     case o5 =>
      refine BN rfl ?_;intro Q wc hp b h;have p:=hp.const;have e0:_=_:=h.1;have W:_=_:=h.2.1;have cA:=b.cell u0;have cP:=b.cell u1;have cQ:=b.cell u2;have cR:=b.cell u3;have kg:=b.cell ba;have kp:=b.cell pp;go_simp
      try (first | (intros;omega) | exact pq _ (by omega))
     case o8 =>
      refine BN rfl ?_;intro Q wc hp b h;have p:=hp.const;have e0:_=_:=h.1;have W:_=_:=h.2.1;have cA:=b.cell u0;have cP:=b.cell u1;have cQ:=b.cell u2;have cR:=b.cell u3;have kg:=b.cell ba;have kp:=b.cell pp;go_simp
     case o9 =>
      refine AE rfl ?_;intro Q wc hp b h;have p:=hp.const;have bm:=hp.func;have e0:_=_:=h.1;have cA:=b.cell u0;have cP:=b.cell u1;have cQ:=b.cell u2;have cR:=b.cell u3;have kg:=b.cell ba;have kp:=b.cell pp;refine⟨_,_,?_,(Ext.refl wc).alloc (.cells (tL M O L I P J K F N f1).toArray 103),wc.heap.size,rfl,Arr.new wc 103 (tL M O L I P J K F N f1)⟩;simp[execOp,e0,EK underlying42 B8];rfl
     case fin =>
      intro wc b;rintro _ ⟨g9,rfl,e6⟩;change wpList _ _ _ _ _ _;simp only[Ci];obtain⟨fw,hK,e8,e7⟩:=dn.out;have bj:=hK.ext b;have hL:=BT (k:=5) e6 rfl;have cb:=ca.ext b;have eo:=bj.ne cb (by decide);have fv:=(ag.trans (z.trans b)).size;have es:PB<=wc.heap.size:=by have:=b5.out;omega
      go_wp2_with(refine Dn rfl rfl underlying42 B8 rfl bj rfl hL (by intro r hr u hu;rw[pF.1 hr]at hu;exact FM u hu) (by unfold maxLen;omega) (by omega) es ?_;intro a7 c7 w7 e9 bn fN;have av:=cb.kept bn eo;have g8:=av.frozen 1;have g7:w7.cell? ⟨PB,1,none⟩=some (.slice ao V co):=av.cell (i:=1) (by simp[pL]))
      obtain⟨fg,fk,ff,dv,fn,dw,ed,bp,ds,em,eg⟩:=dt.out;have bG:(Al M O L I false P J K)=(Al fg fk ff dv false fn dw ed):=by injection bp with bp;exact List.toArray_inj bp
      simp only[Al,Ac,rX,qR,tI,Value.bool.injEq,pI,qO,tP]at bG;obtain⟨rfl,⟨rfl,rfl,rfl⟩,rfl,rfl,rfl⟩:=bG;have de:=TO.grow bj e8 (fun j hj=>(e7 j hj).ext b) (⟨M,O,L,I,P,J,K,F,N,f1,rfl,ds,em.ext b,eg.ext b,bs.ext ((A.trans ab).trans (z.trans b))⟩:TC _ b0 (tL M O L I P J K F N f1) ((E.getD i tz).1,U)) bq e9 bn;have e3:Ext w1 w7:=(ag.trans (z.trans b)).grown bn (fun k hk=>by have:=(hK.lt hk).1;rw[b5.out];exact this);have cr:=Ar w7 PB 1 (.slice a7 (V+1) c7)
      have ea:Arr (w7.setCell ⟨PB,1,none⟩ (.slice a7 (V+1) c7)) PB 44 (pL vars a7 (V+1) c7):=av.set 1 _;have dj:=de.keptA av (by decide) (by decide) (by decide) bq cr;have e4:=e3.grownR cr (Nat.le_of_eq b5.out);have aA:V+1<=k:=by omega
      go_roundg (B-k)
      case rel=>exact⟨k,a7,V+1,c7,_,rfl,ai,by omega,aA,e4,ea,qh dj,HN⟩
      case measure=>omega
def nD(v:Nat):List UInt8:=if v=0 then []else Lib.decDigits v
theorem Rs:nD 0=[]:=pP rfl
theorem Ng{v:Nat}(h:0<v):nD v=Lib.decDigits v:=pC (by omega)
theorem Xs{v:Nat}:nD v=[]<->v=0:=by
 unfold nD;split
 · simp[*]
 · simp[*,W.dec_ne]
theorem VP{v d:Nat}(a:d<10):nD (10*v+d)=if v=0/\d=0 then []else nD v ++ [UInt8.ofNat (48+d)]:=by
 by_cases h0:v=0
 · subst h0;by_cases h1:d=0
   · subst h1;rfl
   · rw[pC (by omega),Rs,Ng (by omega),Lib.decDigits,dif_pos (by omega)];simp
 · rw[pC (by omega),Ng (by omega),Ng (by omega),Lib.decDigits,dif_neg (by omega)];have h1:(10*v+d)/10=v:=by omega
   have h2:(10*v+d)%10=d:=by omega
   rw[h1,h2]
theorem VQ{H p j:Nat}(a:j<=8):H*10^(j+1)+p/10^(8-j)=10*(H*10^j+p/10^(9-j))+p/10^(8-j)%10:=by
 have h1:10^(9-j)=10^(8-j)*10:=by rw[<-qB];congr 1;omega
 have h2:H*10^(j+1)=10*(H*10^j):=by rw[qB];grind
 rw[h1,<-vA,h2];generalize p/10^(8-j)=t;generalize H*10^j=u;omega
def dD(j:Nat):Nat:=if j<=8 then 10^(8-j)else 0
theorem Xt(j:Nat):dD (j+1)=dD j/10:=by
 unfold dD;by_cases h:j<=7
 · rw[pP (by omega),pP (by omega)];have h1:10^(8-j)=10^(8-(j+1))*10:=by rw[<-qB];congr 1;omega
   rw[h1];omega
 · by_cases h8:j=8
   · subst h8;rfl
   · rw[pC (by omega),pC (by omega)]
def FO(l:List UInt8):Option Nat:=if(!l.isEmpty && l.all Lk)=true then some (W.decV l)else none
theorem Ip(h:W.digs l)(a:l≠[]):FO l=some (W.decV l):=by
 unfold FO;rw[pP];simp only[qQ,oI,List.isEmpty_eq_false_iff,rK];exact⟨a,fun c b=>Ey.2 (h c b)⟩
def ON(l:List UInt8):Option Rat :=
 let neg:Bool:=decide (l.head?=some 45)
 let t:=if neg=true then l.tail else l
 let a:=t.takeWhile (· != 47)
 let b:=t.dropWhile (· != 47)
 match FO a with
 | none=>none
 | some n =>
  if b=[]then some (mkRat (if neg=true then -(n:Int)else n) 1)
  else match FO b.tail with
   | none=>none
   | some d=>if d=0 then none else some (mkRat (if neg=true then -(n:Int)else n) d)
theorem Ym(a:W.digs d)(e:∀ c,r.head?=some c->c=47):(d ++ r).takeWhile (· != 47)=d/\(d ++ r).dropWhile (· != 47)=r:=by
 induction d with
 | nil =>
  cases r with
  | nil=>exact⟨rfl,rfl⟩
  | cons c t =>
   have:=e c rfl;subst this;exact⟨rfl,rfl⟩
 | cons x t ih =>
  have f:(x != 47)=true:=by
   simp only[pb,ne_eq];rintro rfl;exact WA (a 47 (by simp))
  have:=ih (fun c b=>a c (by simp[b]));simp[f,this]
theorem Ue(q:Rat):ON (txt q)=some q:=by
 have o:=QW q;have l:=W.digs_dec q.num.natAbs;have e:=W.dec_ne q.num.natAbs;rw[o.eq];generalize f:decide (q.num<0)=a;have g:(if a=true then -(q.num.natAbs:Int)else(q.num.natAbs:Int))=q.num:=by
  subst f;by_cases h:q.num<0
  · simp only[h,vE,tM];omega
  · simp only[h,oJ];simp;omega
 obtain⟨c,t,d⟩:=rS e;have m:c≠45:=by rintro rfl;exact Wz (l 45 (by rw[d];simp))
 generalize j:(if(if q.den=1 then []else Lib.decDigits q.den)=[]then []else 47 :: (if q.den=1 then []else Lib.decDigits q.den))=R;have n:decide (((if a=true then [45]else []) ++ (Lib.decDigits q.num.natAbs ++ R)).head?=some 45)=a:=by
  rw[d];cases a <;> simp[m]
 have p:(if a=true then((if a=true then [45]else []) ++ (Lib.decDigits q.num.natAbs ++ R)).tail else(if a=true then [45]else []) ++ (Lib.decDigits q.num.natAbs ++ R))=Lib.decDigits q.num.natAbs ++ R:=by
  cases a <;> simp
 have hcut:=Ym (r:=R) l (by
  intro x i;rw[<-j]at i;split at i
  · simp at i
  · simpa[W.dec_ne]using i.symm)
 unfold ON;simp only[n,p,hcut.1,hcut.2,Ip l e,W.decV_dec,g];by_cases h1:q.den=1
 · have k:R=[]:=by rw[<-j];simp[h1]
   rw[pP k];have:=wL q;rw[h1]at this;rw[this]
 · have b:R=47 :: Lib.decDigits q.den:=by rw[<-j];simp[h1,W.dec_ne]
   rw[pC (by rw[b];simp),b,wO,Ip (W.digs_dec _) (W.dec_ne _),W.decV_dec];simp only[pC q.den_nz,wL]
theorem Iq(h:AD l=some q):ON l=some q:=by rw[Cp h];exact Ue q
theorem VR{r:Rat}(h:ON l=some r):(AD l).isSome=decide (txt r=l):=by
 by_cases a:txt r=l
 · rw[<-a,Cx];simp
 · cases b:AD l with
   | none=>simp[a]
   | some q =>
    have h1:=Iq b;rw[h]at h1;injection h1 with h1;subst h1;exact absurd (Cp b).symm a
theorem Ir(h:ON l=none):AD l=none:=by
 cases a:AD l with
 | none=>rfl
 | some q=>rw[Iq a]at h;cases h
theorem SC{k c':Nat}(h:Own w base e a n c xs)(f:Own w base' e' a' k c' ys)(he:e≠e'):blk a=none\/blk a≠blk a':=by
 cases i:blk a with
 | none=>exact .inl rfl
 | some g =>
  refine .inr fun j => ?_;obtain⟨l,m,h1⟩:=Own.ty h g i;obtain⟨b,d,h2⟩:=Own.ty f g j.symm;rw[h1]at h2;simp only[pz,rW]at h2;exact he h2.2.1
theorem Mg.apart(h:Mg w a n c x)(d:w.grownBy w' row)(b:blk a=none\/blk a≠row):Mg w' a n c x:=by
 obtain⟨e,h1,h2,h3⟩:=h;exact⟨e,h1.kept d b,h2,h3.kept d b⟩
theorem Mf(h:1000000000^n<=x)(a:x<P2 (32*k)):n<=2*k:=by
 refine oP fun b => ?_;unfold P2 at a;have h1:2^(29*n)<=1000000000^n:=by rw[vM];exact tG (by omega) _
 have h2:2^(32*k)<=2^(29*n):=pR (by omega) (by omega);omega
theorem Is:x/T^n/T=x/T^(n+1):=by rw[vA,qB]
theorem Qd(a:ps.length=n)(h:∀ i,i<n->ps.getD i 0=x/T^i%T):∀ i,i<n+1->(ps ++ [x/T^n%T]).getD i 0=x/T^i%T:=by
 intro i b;by_cases h1:i<n
 · rw[gqq,pO (by omega),<-gqq];exact h i h1
 · have:i=n:=by omega
   subst this;rw[gqq,pW (by omega),a,ro];rfl
structure DS(w wr:World)(x:Nat)(ps:List Nat)(a:Option Addr)(n c:Nat)(b:Option Addr)(m d:Nat):Prop where
 ext:Ext w wr
 own:Own wr w.heap.size 241 a n c (ps.map (BL .u32))
 mg:Mg wr b m d (x/1000000000^n)
 ap:blk a=none\/blk b=none\/blk b≠blk a
 ps:∀ i,i<n->ps.getD i 0=x/1000000000^i%1000000000
 low:n=0\/1000000000^(n-1)<=x
structure DW(w wr:World)(x:Nat)(ps:List Nat)(a:Option Addr)(n c:Nat)(b:Option Addr)(m d:Nat)(l:List UInt8):Prop where
 ext:Ext w wr
 own:Own wr w.heap.size 241 a n c (ps.map (BL .u32))
 out:Own wr w.heap.size 5 b m d (l.map A2)
theorem KI(h:ZR w v z)(bz:z.natAbs<P2 3200000) :
 Calls prog 169 #[v] w fun e w'=>e = .returned (.string ⟨(Lib.decDigits z.natAbs).toArray⟩)/\Ext w w':=by
 obtain⟨s,a,n,c,rfl,HS,hx⟩:=h;have K:=hx.zero;generalize z.natAbs=x at *
 clear HS;by_cases h0:n=0
 · have L:x=0:=K.1 h0;subst h0;subst L;have o:Hid ((⟨(Lib.decDigits 0).toArray⟩:ByteArray)={ data:=#[48] }):=by show _=_;rw[W.dec_zero]
   clear K bz
   go_enter func169,ntmps169
   go_upto_region 1 with(fail)
   refine AP ?_;intro w0 y G ah;have b8:=G.c 1 rfl;go_wp2;go_ret;exact⟨by rw[o.out];rfl,y⟩
 · have ag:x≠0:=fun h=>h0 (K.2 h);have ad:((n:Int) == 0)=false:=by simpa using h0
   have a5:=qh ag;have F:=qh bz;clear K h0 bz ag
   go_enter func169,ntmps169
   go_upto_region 1 with(fail)
   refine AP ?_;intro w0 y G ah;have b8:=G.c 1 rfl;have L:=hx.ext y;have a0:Hid (DS w w0 x [] none 0 0 a n c):=qh ⟨y,Own.nil _ _ _,by rw[tE,tW];exact L,.inl rfl,fun i hi=>by omega,.inl rfl⟩;clear G ah hx L;go_wp2
   go_loopg [3,4] x (fun gk pv mv wr=>∃ (a:Option Addr) (n c:Nat) (b:Option Addr) (m d:Nat) (M:List Nat),pv = .slice a n c/\mv = .slice b m d/\x/1000000000^n<=gk/\Hid (DS w wr x M a n c b m d))
   case atStart=>exact⟨none,0,0,a,n,c,[],rfl,rfl,by rw[tE,tW];exact lrf _,a0⟩
   case round =>
    clear a0 y;obtain⟨a,n,c,b,m,d,M,rfl,rfl,bj,o⟩:=hrel;by_cases hm:0<m
    · have ax:(0:Int)<m:=by omega
      have g:0<x/1000000000^n:=by
       have:=o.out.mg.zero;refine rN fun h => ?_;have:=this.2 h;omega
      have U:1000000000^n<=x:=by
       refine oP fun hc => ?_;rw[rH hc]at g;omega
      have b2:n<=200000:=Mf (k:=100000) U F.out;have b0:m<=100000:=o.out.mg.len (k:=100000) (pJ (qE _ _) F.out);have b5:=qh (Gm o.out.mg b0 (dd:=1000000000) (by omega) (by omega));have A:=o.out.ext;have l:=o.out.own;have al:=qh U;have P:=qh g;clear U g ad
      go_wp2_with fail
      refine b5.out.mono ?_;rintro e w3 ⟨n3,c3,rfl,S,ay⟩;have b6:=S.size;have bb:=A.size;have aq:=l.ext S;obtain⟨r,hr⟩:∃ r,x/1000000000^n%1000000000=r:=⟨_,rfl⟩;rw[hr];have hA:=aq.alloc (.cells #[.int .u32 (r:Int)] 241);have hL:=(AB w3 w.heap.size 241 #[.int .u32 (r:Int)] 1 rfl (by omega) (by omega)).sl;have I:=(Ext.refl w3).alloc (.cells #[.int .u32 (r:Int)] 241);have aA:=ay.ext I;have C:∀ k,blk a=some k->w.heap.size<=k/\k<wr.heap.size:=fun k Z=>Own.lt l Z
      go_wp2_with(refine B5 rfl rfl underlying95 Cs rfl rfl hA rfl hL (by simp[Value.oneCell']) (by unfold maxLen;omega) (by omega) (by simp;omega) ?_;intro a7 c7 w7 T E a6)
      go_roundg (x/1000000000^(n+1))
      case rel =>
       refine⟨a7,n+1,c7,_,n3,c3,M ++ [r],rfl,rfl,lrf _,qh ⟨((A.trans S).trans I).grown E (fun k Z=>(C k Z).1),?_,?_,?_,?_,.inr (by rw[vW];exact al.out)⟩⟩
       · rw[qw];exact T
       · rw[<-Is];refine aA.apart E (.inr fun h => ?_);have h9:w.heap.size<=wr.heap.size/\wr.heap.size<wr.heap.size:=C wr.heap.size h.symm;omega
       · refine .inr (.inr fun h => ?_);rcases a6 with h7|h7
         · rw[h7]at h;have h9:w.heap.size<=wr.heap.size/\wr.heap.size<wr.heap.size:=C wr.heap.size h.symm;omega
         · rw[h7]at h;have h8:wr.heap.size=(w3.alloc (.cells #[.int .u32 (r:Int)] 241)).heap.size:=tZ h;simp at h8;omega
       · rw[<-hr];exact Qd (by have:=l.len;simpa using this) o.out.ps
      case measure =>
       have h1:=P.out;have h2:x/1000000000^(n+1)<x/1000000000^n:=by rw[<-Is];exact Nat.div_lt_self h1 (by omega)
       omega
    · have ax:¬ (0:Int)<m:=by omega
      have g:x/1000000000^n=0:=o.out.mg.zero.1 (by omega);have b3:0<n:=by
       refine rN fun h => ?_;subst h;rw[tE,tW]at g;exact a5.out g
      have b2:n<=200001:=by
       rcases o.out.low with h|h
       · omega
       · have:=Mf (k:=100000) h F.out;omega
      have A:=o.out.ext;have l:=o.out.own;have P:=qh g;have q:Hid (DW w wr x M a n c none 0 0 []):=qh ⟨A,l,Own.nil _ _ _⟩;have ak:=qh o.out.ps;obtain⟨ab,ao,rfl,_⟩:=(show SlN .u32 wr a n c M from l.sl).at (j:=0) b3;have bs:IntKind.i64.wrap ((n:Int)-1)=(n:Int)-1:=pq _ (by omega);clear g o A l ad F;go_wp2
      go_loopw[7,8] (fun ov iv wr=>∃ (k:Nat) (b:Option Addr) (m d:Nat),ov = .slice b m d/\iv = .int .i64 ((k:Int)-1)/\k<=n/\m<=9*(n-k)/\Hid (DW w wr x M (some ⟨ab,ao,none⟩) n c b m d (nD (x/1000000000^k)))) (fun _ iv _=>(intOf iv+1).toNat)
      case atStart=>exact⟨n,none,0,0,rfl,rfl,lrf _,by omega,by rw[P.out,Rs];exact q⟩
      case round =>
       clear q;obtain⟨k,b,m,d,rfl,rfl,Z,ac,q⟩:=hrel;cases k with
       | zero =>
        have B:=q.out.out;have R:=q.out.ext;have HT:Hid (nD (x/1000000000^0)=Lib.decDigits x):=by show _=_;rw[tE,tW,Ng (rN a5.out)]
        rw[HT.out]at B;clear q
        go_wp2_with(refine EY rfl rfl underlying228 underlying5 underlying9 rfl B.sl ?_)
        go_ret;exact⟨rfl,R⟩
       | succ i =>
        have b7:((i+1:Nat):Int)-1=i:=by omega
        rw[b7];go_wp2
        go_loopw[7,9] (fun ov dv wr=>∃ (j:Nat) (b:Option Addr) (m d:Nat),ov = .slice b m d/\dv = .int .u32 ((dD j:Nat):Int)/\j<=9/\m<=9*(n-(i+1))+j/\Hid (DW w wr x M (some ⟨ab,ao,none⟩) n c b m d (nD (x/1000000000^(i+1)*10^j+x/1000000000^i%1000000000/10^(9-j))))) (fun _ dv _=>(intOf dv).toNat)
        case atStart=>exact⟨0,b,m,d,rfl,rfl,by omega,ac,by rw[tE,sH,vi,rH (show x/1000000000^i%1000000000<10^9 from qf _ (by omega)),qy];exact q⟩
        case round =>
         clear q ac;obtain⟨j,b,m,d,rfl,rfl,hj,bn,q⟩:=hrel;have R:=q.out.ext;have B:=q.out.out;have hP:=q.out.own;clear q;by_cases J:j<=8
         · have bi:0<dD j:=by unfold dD;rw[pP J];exact tw (by omega)
           have bg:dD j<=100000000:=by unfold dD;rw[pP J];exact pR (n:=10) (by omega) (show 8-j<=8 by omega)
           have aj:Hid (dD j=10^(8-j)):=by show _=_;unfold dD;rw[pP J]
           have N:Hid (dD (j+1)=dD j/10):=qh (Xt j);obtain⟨p,hp⟩:∃ p,x/1000000000^i%1000000000=p:=⟨_,rfl⟩;obtain⟨H,hH⟩:∃ H,x/1000000000^(i+1)=H:=⟨_,rfl⟩;have b4:p<1000000000:=by rw[<-hp];exact qf _ (by omega)
           obtain⟨bv,ov,a8,a9⟩:=(show SlN .u32 wr _ n c M from hP.sl).at (j:=i) (by omega);simp only[pz,qq,qO]at a8;obtain⟨rfl,rfl⟩:=a8;have g1:=a9 i (by omega);rw[ak.out i (by omega),hp]at g1;obtain⟨dd,X⟩:∃ dd,p/10^(8-j)%10=dd:=⟨_,rfl⟩;have bf:dd<=9:=by omega
           have a3:Hid (nD (H*10^(j+1)+p/10^(9-(j+1)))=if H*10^j+p/10^(9-j)=0/\dd=0 then []else nD (H*10^j+p/10^(9-j)) ++ [UInt8.ofNat (48+dd)]):=by
            show _=_;rw[show 9-(j+1)=8-j by omega,VQ J,X];exact VP (by omega)
           have O:=qh (Xs (v:=H*10^j+p/10^(9-j)));rw[hp,hH]at B;generalize hv:H * 10^j+p/10^(9-j)=vv at *
           have e1:(p:Int).tdiv ((dD j:Nat):Int)=((p/dD j:Nat):Int):=by rw[qI (by omega)];rfl
           have e2:((p/dD j:Nat):Int).tmod 10=(dd:Int):=by rw[rt (wJ _),aj.out,<-X];rfl
           have e3:((dD j:Nat):Int).tdiv 10=((dD (j+1):Nat):Int):=by rw[qI (by omega),N.out];rfl
           have g:¬ ((dD j:Nat):Int)=0:=by omega
           have bp:(((dD j:Nat):Int) == 0)=false:=by simp;omega
           have bo:p/dD j<1000000000:=pJ (qE _ _) b4;have ba:(0:Int)<((dD j:Nat):Int):=by omega
           have e4:IntKind.u32.wrap (48+(dd:Int))=48+(dd:Int):=by show _%4294967296=_;omega
           have e5:IntKind.u8.wrap (48+(dd:Int))=48+(dd:Int):=by show _%256=_;omega
           have e6:(48+(dd:Int))%256=48+(dd:Int):=by omega
           have bk:(0:Int)<=(i:Int):=by omega
           have bl:(i:Int)<n:=by omega
           generalize dD j=D at *
           obtain⟨D1,Q⟩:∃ D1,dD (j+1)=D1:=⟨_,rfl⟩;rw[Q]at e3 N;have a1:=qh Q;have a4:=qh hp;have a2:=qh hH;clear Q;generalize p/D=pd at *
           have bd:D1<D:=by have:=N.out;omega
           have Y:m=(nD vv).length:=by have:=B.len;simpa using this.symm
           have bm:m<=1800009:=by omega
           have C:∀ k,blk b=some k->w.heap.size<=k:=fun k Z=>(Own.lt B Z).1;have ap:=SC hP B (by decide);have V:A2 (UInt8.ofNat (48+dd)) = .int .u8 (48+(dd:Int)):=by
            have h1:(UInt8.ofNat (48+dd)).toNat=48+dd:=by rw[UInt8.toNat_ofNat'];omega
            unfold A2;rw[h1];rfl
           clear hp hH X hv a9;by_cases f:vv=0/\dd=0
           · have aa:m=0:=by rw[Y,O.out.2 f.1];rfl
             have hd0:dd=0:=f.2;have HS:Hid (nD (H*10^(j+1)+p/10^(9-(j+1)))=nD vv):=by show _=_;rw[a3.out,pP f,O.out.2 f.1]
             subst aa;subst hd0;clear f Y;go_wp2;go_roundw
             case rel=>exact⟨j+1,b,0,d,rfl,by rw[a1.out],by omega,by omega,by rw[a4.out,a2.out,HS.out];exact qh ⟨R,hP,B⟩⟩
             case measure=>simp[intOf];omega
           · have HS:Hid (nD (H*10^(j+1)+p/10^(9-(j+1)))=nD vv ++ [UInt8.ofNat (48+dd)]):=by show _=_;rw[a3.out,pC f]
             have hA:=B.alloc (.cells #[.int .u8 (48+(dd:Int))] 5);have ar:=hP.alloc (.cells #[.int .u8 (48+(dd:Int))] 5);have hL:=(AB wr w.heap.size 5 #[.int .u8 (48+(dd:Int))] 1 rfl R.size (by omega)).sl;have I:=R.alloc (.cells #[.int .u8 (48+(dd:Int))] 5);have b6:=R.size;by_cases aa:0<m
             case' neg =>
              have hd0:0<dd:=by
               refine rN fun h=>f ⟨O.out.1 ?_,h⟩;exact pG (by omega)
              have b1:m=0:=by omega
              have ai:((48+(dd:Int)) == 48)=false:=by simp;omega
              have b9:¬ (48+(dd:Int))=48:=by omega
              subst b1
             all_goals
              clear f Y
              go_wp2_with(refine B5 rfl rfl underlying228 Ei rfl rfl hA rfl hL (by simp[Value.oneCell']) (by unfold maxLen;omega) (by omega) (by simp;omega) ?_;intro a7 c7 w7 T E a6)
              go_roundw
              case rel =>
               refine⟨j+1,a7,_,c7,rfl,by rw[a1.out],by omega,by omega,?_⟩;rw[a4.out,a2.out,HS.out];refine qh ⟨I.grown E C,ar.kept E ap,?_⟩;rw[qw,List.map_singleton,V];exact T
              case measure=>simp[intOf];omega
         · have av:j=9:=by omega
           subst av;have hd0:dD 9=0:=rfl;have ai:¬ (0:Int)<((dD 9:Nat):Int):=by rw[hd0];decide
           have HN:Hid (x/1000000000^(i+1)*10^9+x/1000000000^i%1000000000/10^(9-9)=x/1000000000^i):=by
            show _=_;rw[<-Is,ro,tE,tW];generalize x/1000000000^i=t;omega
           rw[HN.out]at B;have bq:IntKind.i64.wrap ((i:Int)-1)=(i:Int)-1:=pq _ (by omega);go_wp2;go_roundw
           case rel=>exact⟨i,b,m,d,rfl,rfl,by omega,by omega,qh ⟨R,hP,B⟩⟩
           case measure=>first | (simp[intOf];done) | (simp[intOf];omega)
end Go.Proofs.YtlbmnokpiilfpaaGreatDoor
